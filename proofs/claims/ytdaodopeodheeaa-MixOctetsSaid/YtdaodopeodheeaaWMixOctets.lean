/- The walk of MixOctets: the Go text answers true and writes nothing that was there. -/
import Derived.Test.YtdaodopeodheeaaStr
import Derived.Deep.DeepCutAuto
import Derived.Deep.RegionHeld3
namespace Go.Proofs.Ytdaodopeodheeaa
open Go.RowKit

theorem of_eq {l : List (BitVec 8)} {p q : BitVec 64} (h : Hid (blockOf l = (p, q))) (hl : l.length = 16) {n : Nat} (hn : n = 16) (a : Option Addr) (cap : Nat) (w : World) (hB : Bytes w a l) :
    Calls Try.prog 20 #[.slice a n cap] w fun e w' => e = .returned (.tuple #[.agg #[.int .u64 (U p), .int .u64 (U q)], .int .i64 0]) ∧ Below w.heap.size w w' := by
  subst hn
  have c := of_yes hl a cap w hB
  have e : readTo 16 l = (p, q) := by rw [← h.out]; unfold blockOf; rw [hl]
  rw [e] at c
  exact c
theorem octTo_oct (k : Nat) (p : BitVec 64 × BitVec 64) (h : k < 16) : (octTo 16 p)[k]? = some (.int .u8 (B (octAt p k))) := by
  rw [octTo_all p k h, octs_getD p k h]
theorem str_octs {w : World} {g : Nat} {x y : BitVec 64} {l : List (BitVec 8)} (h : octs (x, y) = l) (cap : Nat) (hO : Blk w g 5 (octTo 16 (x, y))) :
    (convert 25 9 (.slice (some ⟨g, 0, none⟩) 16 cap)).run Try.prog w = .ok (.string (strOf l)) w := by
  rw [← h]
  exact str_conv (octs_length _).symm cap (Bytes.of_blk hO)

set_option maxRecDepth 100000 in
set_option maxHeartbeats 2000000 in
theorem walk_MixOctets_long (a0 a1 b0 b1 : BitVec 64) (a : Option Addr) (l : List (BitVec 8)) (cap : Nat) (h5 : 500 < l.length) (w : World) :
    Calls Try.prog 9 #[.agg #[.int .u64 (U a0), .int .u64 (U a1)], .agg #[.int .u64 (U b0), .int .u64 (U b1)], .slice a l.length cap] w fun e w' => e = .returned (.bool true) ∧ Below w.heap.size w w' := by
  have hq := eq_blocks
  go_enter Try.func9, Try.ntmps9
  go_wp2_with fail
  refine (live03 _).mono ?_
  rintro e w1 ⟨rfl, hb1⟩
  have hBN := Below.step (w := w) (by repeat' first | with_reducible exact Below.refl _ _ | with_reducible refine Below.drew ?_ | with_reducible refine below_drewN ?_ _ | with_reducible refine Below.setCell ?_ ?_ _ | with_reducible refine Below.alloc ?_ ?_ _ | (dsimp only; omega) | (simp <;> fail) | (simp; omega)) hb1
  clear hb1
  have HBel := mkHid hBN
  clear hBN
  go_wp2_with fail
  go_ret
  exact ⟨rfl, HBel.out⟩

set_option linter.unusedSimpArgs false in
set_option maxRecDepth 100000 in
set_option maxHeartbeats 4000000 in
theorem walk_MixOctets_no (a0 a1 b0 b1 : BitVec 64) (a : Option Addr) (l : List (BitVec 8)) (cap : Nat) (h5 : l.length ≤ 500) (h16 : ¬ l.length = 16) (w : World) (hL : Bytes w a l) :
    Calls Try.prog 9 #[.agg #[.int .u64 (U a0), .int .u64 (U a1)], .agg #[.int .u64 (U b0), .int .u64 (U b1)], .slice a l.length cap] w fun e w' => e = .returned (.bool true) ∧ Below w.heap.size w w' := by
  have hq := eq_blocks
  obtain ⟨s0, s1, hs⟩ := pair_ex (xorB (a0, a1) (b0, b1))
  have S0 : Hid (U (a0 ^^^ b0) = U s0) := mkHid (congrArg U (congrArg Prod.fst hs))
  have S1 : Hid (U (a1 ^^^ b1) = U s1) := mkHid (congrArg U (congrArg Prod.snd hs))
  have hz : ∀ k, octAt (s0, s1) k = octAt (a0, a1) k ^^^ octAt (b0, b1) k := fun k => by rw [← hs, octAt_xor]
  have HZ := mkHid hz
  have HL := mkHid hL
  have OA : Hid (blockOf (octs (a0, a1)) = (a0, a1)) := mkHid (blockOf_octs _)
  clear hs hz hL
  go_enter Try.func9, Try.ntmps9
  go_wp2_with fail
  refine (live03 _).mono ?_
  rintro e w1 ⟨rfl, hb1⟩
  have bA := Blk.keep (n := w.heap.size) (t := 24) (cs := #[.int .u64 (U a0), .int .u64 (U a1)]) (by repeat' first | with_reducible refine Blk.drew ?_ | (with_reducible refine Blk.at _ _ _ ?_; (simp <;> fail)) | with_reducible refine Blk.alloc ?_ _) hb1
  have bB := Blk.keep (n := w.heap.size + 1) (t := 24) (cs := #[.int .u64 (U b0), .int .u64 (U b1)]) (by repeat' first | with_reducible refine Blk.drew ?_ | (with_reducible refine Blk.at _ _ _ ?_; (simp <;> fail)) | with_reducible refine Blk.alloc ?_ _) hb1
  have hBN := Below.step (w := w) (by repeat' first | with_reducible exact Below.refl _ _ | with_reducible refine Below.drew ?_ | with_reducible refine below_drewN ?_ _ | with_reducible refine Below.setCell ?_ ?_ _ | with_reducible refine Below.alloc ?_ ?_ _ | (dsimp only; omega) | (simp <;> fail) | (simp; omega)) hb1
  clear hb1
  have cA := bA.two
  have HA := mkHid bA
  have lA := bA.lt
  clear bA
  have cB := bB.two
  have HB := mkHid bB
  have lB := bB.lt
  clear bB
  have HBel := mkHid hBN
  clear hBN
  go_wp2_with fail
  refine (octets_eq (x := a0) (y := a1) rfl rfl rfl).mono ?_
  rintro e w2 ⟨rfl, hO, hb2⟩
  have bA := Blk.keep (n := w.heap.size) (t := 24) (cs := #[.int .u64 (U a0), .int .u64 (U a1)]) (by repeat' first | with_reducible exact HA.out | with_reducible refine Blk.drew ?_ | (with_reducible refine Blk.at _ _ _ ?_; (simp <;> fail)) | with_reducible refine Blk.alloc ?_ _) hb2
  have bB := Blk.keep (n := w.heap.size + 1) (t := 24) (cs := #[.int .u64 (U b0), .int .u64 (U b1)]) (by repeat' first | with_reducible exact HB.out | with_reducible refine Blk.drew ?_ | (with_reducible refine Blk.at _ _ _ ?_; (simp <;> fail)) | with_reducible refine Blk.alloc ?_ _) hb2
  have hBN := Below.step (w := w) (by repeat' first | with_reducible exact HBel.out | with_reducible exact Below.refl _ _ | with_reducible refine Below.drew ?_ | with_reducible refine below_drewN ?_ _ | with_reducible refine Below.setCell ?_ ?_ _ | with_reducible refine Below.alloc ?_ ?_ _ | (dsimp only; omega) | (simp <;> fail) | (have := HBel.out.size; simp; omega)) hb2
  try clear cA
  try clear cB
  clear HA lA HB lB HBel hb2
  have cA := bA.two
  have HA := mkHid bA
  have lA := bA.lt
  clear bA
  have cB := bB.two
  have HB := mkHid bB
  have lB := bB.lt
  clear bB
  have HBel := mkHid hBN
  clear hBN
  have HX := mkHid hO
  have lX := hO.lt
  clear hO
  go_wp2_with fail
  refine (octets_eq (x := b0) (y := b1) rfl rfl rfl).mono ?_
  rintro e w3 ⟨rfl, hO, hb3⟩
  have bA := Blk.keep (n := w.heap.size) (t := 24) (cs := #[.int .u64 (U a0), .int .u64 (U a1)]) (by repeat' first | with_reducible exact HA.out | with_reducible refine Blk.drew ?_ | (with_reducible refine Blk.at _ _ _ ?_; (simp <;> fail)) | with_reducible refine Blk.alloc ?_ _) hb3
  have bB := Blk.keep (n := w.heap.size + 1) (t := 24) (cs := #[.int .u64 (U b0), .int .u64 (U b1)]) (by repeat' first | with_reducible exact HB.out | with_reducible refine Blk.drew ?_ | (with_reducible refine Blk.at _ _ _ ?_; (simp <;> fail)) | with_reducible refine Blk.alloc ?_ _) hb3
  have bX := Blk.keep (n := w1.heap.size + 1) (t := 5) (cs := octTo 16 (a0, a1)) (by repeat' first | with_reducible exact HX.out | with_reducible refine Blk.drew ?_ | (with_reducible refine Blk.at _ _ _ ?_; (simp <;> fail)) | with_reducible refine Blk.alloc ?_ _) hb3
  have hBN := Below.step (w := w) (by repeat' first | with_reducible exact HBel.out | with_reducible exact Below.refl _ _ | with_reducible refine Below.drew ?_ | with_reducible refine below_drewN ?_ _ | with_reducible refine Below.setCell ?_ ?_ _ | with_reducible refine Below.alloc ?_ ?_ _ | (dsimp only; omega) | (simp <;> fail) | (have := HBel.out.size; simp; omega)) hb3
  try clear cA
  try clear cB
  try clear cX
  clear HA lA HB lB HX lX HBel hb3
  have cA := bA.two
  have HA := mkHid bA
  have lA := bA.lt
  clear bA
  have cB := bB.two
  have HB := mkHid bB
  have lB := bB.lt
  clear bB
  have HX := mkHid bX
  have lX := bX.lt
  clear bX
  have HBel := mkHid hBN
  clear hBN
  have HY := mkHid hO
  have lY := hO.lt
  clear hO
  go_wp2_with fail
  refine (xor_to rfl rfl rfl rfl S0.out S1.out _).mono ?_
  rintro e w4 ⟨rfl, hb4⟩
  have bA := Blk.keep (n := w.heap.size) (t := 24) (cs := #[.int .u64 (U a0), .int .u64 (U a1)]) (by repeat' first | with_reducible exact HA.out | with_reducible refine Blk.drew ?_ | (with_reducible refine Blk.at _ _ _ ?_; (simp <;> fail)) | with_reducible refine Blk.alloc ?_ _) hb4
  have bB := Blk.keep (n := w.heap.size + 1) (t := 24) (cs := #[.int .u64 (U b0), .int .u64 (U b1)]) (by repeat' first | with_reducible exact HB.out | with_reducible refine Blk.drew ?_ | (with_reducible refine Blk.at _ _ _ ?_; (simp <;> fail)) | with_reducible refine Blk.alloc ?_ _) hb4
  have bX := Blk.keep (n := w1.heap.size + 1) (t := 5) (cs := octTo 16 (a0, a1)) (by repeat' first | with_reducible exact HX.out | with_reducible refine Blk.drew ?_ | (with_reducible refine Blk.at _ _ _ ?_; (simp <;> fail)) | with_reducible refine Blk.alloc ?_ _) hb4
  have bY := Blk.keep (n := w2.heap.size + 1) (t := 5) (cs := octTo 16 (b0, b1)) (by repeat' first | with_reducible exact HY.out | with_reducible refine Blk.drew ?_ | (with_reducible refine Blk.at _ _ _ ?_; (simp <;> fail)) | with_reducible refine Blk.alloc ?_ _) hb4
  have hBN := Below.step (w := w) (by repeat' first | with_reducible exact HBel.out | with_reducible exact Below.refl _ _ | with_reducible refine Below.drew ?_ | with_reducible refine below_drewN ?_ _ | with_reducible refine Below.setCell ?_ ?_ _ | with_reducible refine Below.alloc ?_ ?_ _ | (dsimp only; omega) | (simp <;> fail) | (have := HBel.out.size; simp; omega)) hb4
  try clear cA
  try clear cB
  try clear cX
  try clear cY
  clear HA lA HB lB HX lX HY lY HBel hb4
  have cA := bA.two
  have HA := mkHid bA
  have lA := bA.lt
  clear bA
  have cB := bB.two
  have HB := mkHid bB
  have lB := bB.lt
  clear bB
  have HX := mkHid bX
  have lX := bX.lt
  clear bX
  have HY := mkHid bY
  have lY := bY.lt
  clear bY
  have HBel := mkHid hBN
  clear hBN
  go_wp2_with fail
  refine (octets_eq (x := s0) (y := s1) rfl rfl rfl).mono ?_
  rintro e w5 ⟨rfl, hO, hb5⟩
  have bA := Blk.keep (n := w.heap.size) (t := 24) (cs := #[.int .u64 (U a0), .int .u64 (U a1)]) (by repeat' first | with_reducible exact HA.out | with_reducible refine Blk.drew ?_ | (with_reducible refine Blk.at _ _ _ ?_; (simp <;> fail)) | with_reducible refine Blk.alloc ?_ _) hb5
  have bB := Blk.keep (n := w.heap.size + 1) (t := 24) (cs := #[.int .u64 (U b0), .int .u64 (U b1)]) (by repeat' first | with_reducible exact HB.out | with_reducible refine Blk.drew ?_ | (with_reducible refine Blk.at _ _ _ ?_; (simp <;> fail)) | with_reducible refine Blk.alloc ?_ _) hb5
  have bX := Blk.keep (n := w1.heap.size + 1) (t := 5) (cs := octTo 16 (a0, a1)) (by repeat' first | with_reducible exact HX.out | with_reducible refine Blk.drew ?_ | (with_reducible refine Blk.at _ _ _ ?_; (simp <;> fail)) | with_reducible refine Blk.alloc ?_ _) hb5
  have bY := Blk.keep (n := w2.heap.size + 1) (t := 5) (cs := octTo 16 (b0, b1)) (by repeat' first | with_reducible exact HY.out | with_reducible refine Blk.drew ?_ | (with_reducible refine Blk.at _ _ _ ?_; (simp <;> fail)) | with_reducible refine Blk.alloc ?_ _) hb5
  have hBN := Below.step (w := w) (by repeat' first | with_reducible exact HBel.out | with_reducible exact Below.refl _ _ | with_reducible refine Below.drew ?_ | with_reducible refine below_drewN ?_ _ | with_reducible refine Below.setCell ?_ ?_ _ | with_reducible refine Below.alloc ?_ ?_ _ | (dsimp only; omega) | (simp <;> fail) | (have := HBel.out.size; simp; omega)) hb5
  try clear cA
  try clear cB
  try clear cX
  try clear cY
  clear HA lA HB lB HX lX HY lY HBel hb5
  have cA := bA.two
  have HA := mkHid bA
  have lA := bA.lt
  clear bA
  have cB := bB.two
  have HB := mkHid bB
  have lB := bB.lt
  clear bB
  have HX := mkHid bX
  have lX := bX.lt
  clear bX
  have HY := mkHid bY
  have lY := bY.lt
  clear bY
  have HBel := mkHid hBN
  clear hBN
  have HZ := mkHid hO
  have lZ := hO.lt
  clear hO
  go_wp2_with fail
  refine (of_eq OA (octs_length _) rfl _ 16 _ (Bytes.of_blk HX.out)).mono ?_
  rintro e w6 ⟨rfl, hb6⟩
  have bA := Blk.keep (n := w.heap.size) (t := 24) (cs := #[.int .u64 (U a0), .int .u64 (U a1)]) (by repeat' first | with_reducible exact HA.out | with_reducible refine Blk.drew ?_ | (with_reducible refine Blk.at _ _ _ ?_; (simp <;> fail)) | with_reducible refine Blk.alloc ?_ _) hb6
  have bB := Blk.keep (n := w.heap.size + 1) (t := 24) (cs := #[.int .u64 (U b0), .int .u64 (U b1)]) (by repeat' first | with_reducible exact HB.out | with_reducible refine Blk.drew ?_ | (with_reducible refine Blk.at _ _ _ ?_; (simp <;> fail)) | with_reducible refine Blk.alloc ?_ _) hb6
  have bX := Blk.keep (n := w1.heap.size + 1) (t := 5) (cs := octTo 16 (a0, a1)) (by repeat' first | with_reducible exact HX.out | with_reducible refine Blk.drew ?_ | (with_reducible refine Blk.at _ _ _ ?_; (simp <;> fail)) | with_reducible refine Blk.alloc ?_ _) hb6
  have bY := Blk.keep (n := w2.heap.size + 1) (t := 5) (cs := octTo 16 (b0, b1)) (by repeat' first | with_reducible exact HY.out | with_reducible refine Blk.drew ?_ | (with_reducible refine Blk.at _ _ _ ?_; (simp <;> fail)) | with_reducible refine Blk.alloc ?_ _) hb6
  have bZ := Blk.keep (n := w4.heap.size + 1) (t := 5) (cs := octTo 16 (s0, s1)) (by repeat' first | with_reducible exact HZ.out | with_reducible refine Blk.drew ?_ | (with_reducible refine Blk.at _ _ _ ?_; (simp <;> fail)) | with_reducible refine Blk.alloc ?_ _) hb6
  have hBN := Below.step (w := w) (by repeat' first | with_reducible exact HBel.out | with_reducible exact Below.refl _ _ | with_reducible refine Below.drew ?_ | with_reducible refine below_drewN ?_ _ | with_reducible refine Below.setCell ?_ ?_ _ | with_reducible refine Below.alloc ?_ ?_ _ | (dsimp only; omega) | (simp <;> fail) | (have := HBel.out.size; simp; omega)) hb6
  try clear cA
  try clear cB
  try clear cX
  try clear cY
  try clear cZ
  clear HA lA HB lB HX lX HY lY HZ lZ HBel hb6
  have cA := bA.two
  have HA := mkHid bA
  have lA := bA.lt
  clear bA
  have cB := bB.two
  have HB := mkHid bB
  have lB := bB.lt
  clear bB
  have HX := mkHid bX
  have lX := bX.lt
  clear bX
  have HY := mkHid bY
  have lY := bY.lt
  clear bY
  have HZ := mkHid bZ
  have lZ := bZ.lt
  clear bZ
  have HBel := mkHid hBN
  clear hBN
  go_wp2_with fail
  try clear cA
  try clear cB
  clear HA HB lA lB
  go_loopw [58] (fun v wr => ∃ k : Nat, k ≤ 16 ∧ v = .int .i64 (k : Int) ∧ Blk wr (w1.heap.size + 1) 5 (octTo 16 (a0, a1)) ∧ Blk wr (w2.heap.size + 1) 5 (octTo 16 (b0, b1)) ∧ Blk wr (w4.heap.size + 1) 5 (octTo 16 (s0, s1)) ∧ Below w.heap.size w wr) (fun v _ => 16 - (intOf v).toNat)
  case atStart => exact ⟨0, by omega, rfl, HX.out.alloc _, HY.out.alloc _, HZ.out.alloc _, HBel.out.alloc HBel.out.size _⟩
  case round =>
    obtain ⟨k, hk, rfl, hX, hY, hZ, hb⟩ := hrel
    clear HX HY HZ HBel lX lY lZ
    have HX := mkHid hX
    have HY := mkHid hY
    have HZ2 := mkHid hZ
    have HBel := mkHid hb
    clear hX hY hZ hb
    by_cases hlt : k < 16
    · have cX : wr.cell? ⟨w1.heap.size + 1, k, none⟩ = some (.int .u8 (B (octAt (a0, a1) k))) := (HX.out.cell k).trans (octTo_oct _ _ hlt)
      have cY : wr.cell? ⟨w2.heap.size + 1, k, none⟩ = some (.int .u8 (B (octAt (b0, b1) k))) := (HY.out.cell k).trans (octTo_oct _ _ hlt)
      have cZ2 : wr.cell? ⟨w4.heap.size + 1, k, none⟩ = some (.int .u8 (B (octAt (s0, s1) k))) := (HZ2.out.cell k).trans (octTo_oct _ _ hlt)
      rw [HZ.out] at cZ2
      generalize octAt (a0, a1) k = xx at *
      generalize octAt (b0, b1) k = yy at *
      have e1 := w_xor8 xx yy
      go_wp2_with fail
      go_quiet (fail)
      go_wp2_with fail
      go_roundw
      case rel => exact ⟨k + 1, by omega, by go_num, by repeat' first | exact HX.out | refine Blk.drew ?_ | refine Blk.drewN ?_ _, by repeat' first | exact HY.out | refine Blk.drew ?_ | refine Blk.drewN ?_ _, by repeat' first | exact HZ2.out | refine Blk.drew ?_ | refine Blk.drewN ?_ _, by repeat' first | exact HBel.out | refine Below.drew ?_ | refine below_drewN ?_ _⟩
      case measure => simp [intOf]; omega
    · obtain rfl : k = 16 := by omega
      clear HX HY HZ2
      go_wp2_with fail
      have hn1 : ((l.length : Int) == 16) = false := by rw [beq_eq_false_iff_ne]; omega
      have hn2 : ((l.length : Int) != 16) = true := by rw [bne, hn1]; rfl
      refine (of_not _ _ _ _ hn2).mono ?_
      rintro e w7 ⟨rfl, hb7⟩
      have hBN := Below.step (w := w) (by repeat' first | with_reducible exact HBel.out | with_reducible exact Below.refl _ _ | with_reducible refine Below.drew ?_ | with_reducible refine below_drewN ?_ _ | with_reducible refine Below.setCell ?_ ?_ _ | with_reducible refine Below.alloc ?_ ?_ _ | (dsimp only; omega) | (simp <;> fail) | (have := HBel.out.size; simp; omega)) hb7
      clear HBel hb7
      have HBel := mkHid hBN
      clear hBN
      go_wp2_with fail
      go_quiet (fail)
      go_wp2_with fail
      go_ret
      exact ⟨rfl, below_drewN (HBel.out.alloc HBel.out.size _) _⟩

set_option linter.unusedSimpArgs false in
set_option maxRecDepth 100000 in
set_option maxHeartbeats 4000000 in
theorem walk_MixOctets_yes (a0 a1 b0 b1 : BitVec 64) (a : Option Addr) (l : List (BitVec 8)) (cap : Nat) (h16 : l.length = 16) (w : World) (hL : Bytes w a l) :
    Calls Try.prog 9 #[.agg #[.int .u64 (U a0), .int .u64 (U a1)], .agg #[.int .u64 (U b0), .int .u64 (U b1)], .slice a 16 cap] w fun e w' => e = .returned (.bool true) ∧ Below w.heap.size w w' := by
  have hq := eq_blocks
  obtain ⟨s0, s1, hs⟩ := pair_ex (xorB (a0, a1) (b0, b1))
  have S0 : Hid (U (a0 ^^^ b0) = U s0) := mkHid (congrArg U (congrArg Prod.fst hs))
  have S1 : Hid (U (a1 ^^^ b1) = U s1) := mkHid (congrArg U (congrArg Prod.snd hs))
  have hz : ∀ k, octAt (s0, s1) k = octAt (a0, a1) k ^^^ octAt (b0, b1) k := fun k => by rw [← hs, octAt_xor]
  have HZ := mkHid hz
  have HL := mkHid hL
  have OA : Hid (blockOf (octs (a0, a1)) = (a0, a1)) := mkHid (blockOf_octs _)
  clear hs hz hL
  obtain ⟨d0, d1, hd⟩ := pair_ex (blockOf l)
  have HD := mkHid hd
  have HO : Hid (octs (d0, d1) = l) := mkHid (by rw [← hd, octs_blockOf l h16])
  have H16 := mkHid h16
  clear hd h16
  go_enter Try.func9, Try.ntmps9
  go_wp2_with fail
  refine (live03 _).mono ?_
  rintro e w1 ⟨rfl, hb1⟩
  have bA := Blk.keep (n := w.heap.size) (t := 24) (cs := #[.int .u64 (U a0), .int .u64 (U a1)]) (by repeat' first | with_reducible refine Blk.drew ?_ | (with_reducible refine Blk.at _ _ _ ?_; (simp <;> fail)) | with_reducible refine Blk.alloc ?_ _) hb1
  have bB := Blk.keep (n := w.heap.size + 1) (t := 24) (cs := #[.int .u64 (U b0), .int .u64 (U b1)]) (by repeat' first | with_reducible refine Blk.drew ?_ | (with_reducible refine Blk.at _ _ _ ?_; (simp <;> fail)) | with_reducible refine Blk.alloc ?_ _) hb1
  have hBN := Below.step (w := w) (by repeat' first | with_reducible exact Below.refl _ _ | with_reducible refine Below.drew ?_ | with_reducible refine below_drewN ?_ _ | with_reducible refine Below.setCell ?_ ?_ _ | with_reducible refine Below.alloc ?_ ?_ _ | (dsimp only; omega) | (simp <;> fail) | (simp; omega)) hb1
  clear hb1
  have cA := bA.two
  have HA := mkHid bA
  have lA := bA.lt
  clear bA
  have cB := bB.two
  have HB := mkHid bB
  have lB := bB.lt
  clear bB
  have HBel := mkHid hBN
  clear hBN
  go_wp2_with fail
  refine (octets_eq (x := a0) (y := a1) rfl rfl rfl).mono ?_
  rintro e w2 ⟨rfl, hO, hb2⟩
  have bA := Blk.keep (n := w.heap.size) (t := 24) (cs := #[.int .u64 (U a0), .int .u64 (U a1)]) (by repeat' first | with_reducible exact HA.out | with_reducible refine Blk.drew ?_ | (with_reducible refine Blk.at _ _ _ ?_; (simp <;> fail)) | with_reducible refine Blk.alloc ?_ _) hb2
  have bB := Blk.keep (n := w.heap.size + 1) (t := 24) (cs := #[.int .u64 (U b0), .int .u64 (U b1)]) (by repeat' first | with_reducible exact HB.out | with_reducible refine Blk.drew ?_ | (with_reducible refine Blk.at _ _ _ ?_; (simp <;> fail)) | with_reducible refine Blk.alloc ?_ _) hb2
  have hBN := Below.step (w := w) (by repeat' first | with_reducible exact HBel.out | with_reducible exact Below.refl _ _ | with_reducible refine Below.drew ?_ | with_reducible refine below_drewN ?_ _ | with_reducible refine Below.setCell ?_ ?_ _ | with_reducible refine Below.alloc ?_ ?_ _ | (dsimp only; omega) | (simp <;> fail) | (have := HBel.out.size; simp; omega)) hb2
  try clear cA
  try clear cB
  clear HA lA HB lB HBel hb2
  have cA := bA.two
  have HA := mkHid bA
  have lA := bA.lt
  clear bA
  have cB := bB.two
  have HB := mkHid bB
  have lB := bB.lt
  clear bB
  have HBel := mkHid hBN
  clear hBN
  have HX := mkHid hO
  have lX := hO.lt
  clear hO
  go_wp2_with fail
  refine (octets_eq (x := b0) (y := b1) rfl rfl rfl).mono ?_
  rintro e w3 ⟨rfl, hO, hb3⟩
  have bA := Blk.keep (n := w.heap.size) (t := 24) (cs := #[.int .u64 (U a0), .int .u64 (U a1)]) (by repeat' first | with_reducible exact HA.out | with_reducible refine Blk.drew ?_ | (with_reducible refine Blk.at _ _ _ ?_; (simp <;> fail)) | with_reducible refine Blk.alloc ?_ _) hb3
  have bB := Blk.keep (n := w.heap.size + 1) (t := 24) (cs := #[.int .u64 (U b0), .int .u64 (U b1)]) (by repeat' first | with_reducible exact HB.out | with_reducible refine Blk.drew ?_ | (with_reducible refine Blk.at _ _ _ ?_; (simp <;> fail)) | with_reducible refine Blk.alloc ?_ _) hb3
  have bX := Blk.keep (n := w1.heap.size + 1) (t := 5) (cs := octTo 16 (a0, a1)) (by repeat' first | with_reducible exact HX.out | with_reducible refine Blk.drew ?_ | (with_reducible refine Blk.at _ _ _ ?_; (simp <;> fail)) | with_reducible refine Blk.alloc ?_ _) hb3
  have hBN := Below.step (w := w) (by repeat' first | with_reducible exact HBel.out | with_reducible exact Below.refl _ _ | with_reducible refine Below.drew ?_ | with_reducible refine below_drewN ?_ _ | with_reducible refine Below.setCell ?_ ?_ _ | with_reducible refine Below.alloc ?_ ?_ _ | (dsimp only; omega) | (simp <;> fail) | (have := HBel.out.size; simp; omega)) hb3
  try clear cA
  try clear cB
  try clear cX
  clear HA lA HB lB HX lX HBel hb3
  have cA := bA.two
  have HA := mkHid bA
  have lA := bA.lt
  clear bA
  have cB := bB.two
  have HB := mkHid bB
  have lB := bB.lt
  clear bB
  have HX := mkHid bX
  have lX := bX.lt
  clear bX
  have HBel := mkHid hBN
  clear hBN
  have HY := mkHid hO
  have lY := hO.lt
  clear hO
  go_wp2_with fail
  refine (xor_to rfl rfl rfl rfl S0.out S1.out _).mono ?_
  rintro e w4 ⟨rfl, hb4⟩
  have bA := Blk.keep (n := w.heap.size) (t := 24) (cs := #[.int .u64 (U a0), .int .u64 (U a1)]) (by repeat' first | with_reducible exact HA.out | with_reducible refine Blk.drew ?_ | (with_reducible refine Blk.at _ _ _ ?_; (simp <;> fail)) | with_reducible refine Blk.alloc ?_ _) hb4
  have bB := Blk.keep (n := w.heap.size + 1) (t := 24) (cs := #[.int .u64 (U b0), .int .u64 (U b1)]) (by repeat' first | with_reducible exact HB.out | with_reducible refine Blk.drew ?_ | (with_reducible refine Blk.at _ _ _ ?_; (simp <;> fail)) | with_reducible refine Blk.alloc ?_ _) hb4
  have bX := Blk.keep (n := w1.heap.size + 1) (t := 5) (cs := octTo 16 (a0, a1)) (by repeat' first | with_reducible exact HX.out | with_reducible refine Blk.drew ?_ | (with_reducible refine Blk.at _ _ _ ?_; (simp <;> fail)) | with_reducible refine Blk.alloc ?_ _) hb4
  have bY := Blk.keep (n := w2.heap.size + 1) (t := 5) (cs := octTo 16 (b0, b1)) (by repeat' first | with_reducible exact HY.out | with_reducible refine Blk.drew ?_ | (with_reducible refine Blk.at _ _ _ ?_; (simp <;> fail)) | with_reducible refine Blk.alloc ?_ _) hb4
  have hBN := Below.step (w := w) (by repeat' first | with_reducible exact HBel.out | with_reducible exact Below.refl _ _ | with_reducible refine Below.drew ?_ | with_reducible refine below_drewN ?_ _ | with_reducible refine Below.setCell ?_ ?_ _ | with_reducible refine Below.alloc ?_ ?_ _ | (dsimp only; omega) | (simp <;> fail) | (have := HBel.out.size; simp; omega)) hb4
  try clear cA
  try clear cB
  try clear cX
  try clear cY
  clear HA lA HB lB HX lX HY lY HBel hb4
  have cA := bA.two
  have HA := mkHid bA
  have lA := bA.lt
  clear bA
  have cB := bB.two
  have HB := mkHid bB
  have lB := bB.lt
  clear bB
  have HX := mkHid bX
  have lX := bX.lt
  clear bX
  have HY := mkHid bY
  have lY := bY.lt
  clear bY
  have HBel := mkHid hBN
  clear hBN
  go_wp2_with fail
  refine (octets_eq (x := s0) (y := s1) rfl rfl rfl).mono ?_
  rintro e w5 ⟨rfl, hO, hb5⟩
  have bA := Blk.keep (n := w.heap.size) (t := 24) (cs := #[.int .u64 (U a0), .int .u64 (U a1)]) (by repeat' first | with_reducible exact HA.out | with_reducible refine Blk.drew ?_ | (with_reducible refine Blk.at _ _ _ ?_; (simp <;> fail)) | with_reducible refine Blk.alloc ?_ _) hb5
  have bB := Blk.keep (n := w.heap.size + 1) (t := 24) (cs := #[.int .u64 (U b0), .int .u64 (U b1)]) (by repeat' first | with_reducible exact HB.out | with_reducible refine Blk.drew ?_ | (with_reducible refine Blk.at _ _ _ ?_; (simp <;> fail)) | with_reducible refine Blk.alloc ?_ _) hb5
  have bX := Blk.keep (n := w1.heap.size + 1) (t := 5) (cs := octTo 16 (a0, a1)) (by repeat' first | with_reducible exact HX.out | with_reducible refine Blk.drew ?_ | (with_reducible refine Blk.at _ _ _ ?_; (simp <;> fail)) | with_reducible refine Blk.alloc ?_ _) hb5
  have bY := Blk.keep (n := w2.heap.size + 1) (t := 5) (cs := octTo 16 (b0, b1)) (by repeat' first | with_reducible exact HY.out | with_reducible refine Blk.drew ?_ | (with_reducible refine Blk.at _ _ _ ?_; (simp <;> fail)) | with_reducible refine Blk.alloc ?_ _) hb5
  have hBN := Below.step (w := w) (by repeat' first | with_reducible exact HBel.out | with_reducible exact Below.refl _ _ | with_reducible refine Below.drew ?_ | with_reducible refine below_drewN ?_ _ | with_reducible refine Below.setCell ?_ ?_ _ | with_reducible refine Below.alloc ?_ ?_ _ | (dsimp only; omega) | (simp <;> fail) | (have := HBel.out.size; simp; omega)) hb5
  try clear cA
  try clear cB
  try clear cX
  try clear cY
  clear HA lA HB lB HX lX HY lY HBel hb5
  have cA := bA.two
  have HA := mkHid bA
  have lA := bA.lt
  clear bA
  have cB := bB.two
  have HB := mkHid bB
  have lB := bB.lt
  clear bB
  have HX := mkHid bX
  have lX := bX.lt
  clear bX
  have HY := mkHid bY
  have lY := bY.lt
  clear bY
  have HBel := mkHid hBN
  clear hBN
  have HZ := mkHid hO
  have lZ := hO.lt
  clear hO
  go_wp2_with fail
  refine (of_eq OA (octs_length _) rfl _ 16 _ (Bytes.of_blk HX.out)).mono ?_
  rintro e w6 ⟨rfl, hb6⟩
  have bA := Blk.keep (n := w.heap.size) (t := 24) (cs := #[.int .u64 (U a0), .int .u64 (U a1)]) (by repeat' first | with_reducible exact HA.out | with_reducible refine Blk.drew ?_ | (with_reducible refine Blk.at _ _ _ ?_; (simp <;> fail)) | with_reducible refine Blk.alloc ?_ _) hb6
  have bB := Blk.keep (n := w.heap.size + 1) (t := 24) (cs := #[.int .u64 (U b0), .int .u64 (U b1)]) (by repeat' first | with_reducible exact HB.out | with_reducible refine Blk.drew ?_ | (with_reducible refine Blk.at _ _ _ ?_; (simp <;> fail)) | with_reducible refine Blk.alloc ?_ _) hb6
  have bX := Blk.keep (n := w1.heap.size + 1) (t := 5) (cs := octTo 16 (a0, a1)) (by repeat' first | with_reducible exact HX.out | with_reducible refine Blk.drew ?_ | (with_reducible refine Blk.at _ _ _ ?_; (simp <;> fail)) | with_reducible refine Blk.alloc ?_ _) hb6
  have bY := Blk.keep (n := w2.heap.size + 1) (t := 5) (cs := octTo 16 (b0, b1)) (by repeat' first | with_reducible exact HY.out | with_reducible refine Blk.drew ?_ | (with_reducible refine Blk.at _ _ _ ?_; (simp <;> fail)) | with_reducible refine Blk.alloc ?_ _) hb6
  have bZ := Blk.keep (n := w4.heap.size + 1) (t := 5) (cs := octTo 16 (s0, s1)) (by repeat' first | with_reducible exact HZ.out | with_reducible refine Blk.drew ?_ | (with_reducible refine Blk.at _ _ _ ?_; (simp <;> fail)) | with_reducible refine Blk.alloc ?_ _) hb6
  have hBN := Below.step (w := w) (by repeat' first | with_reducible exact HBel.out | with_reducible exact Below.refl _ _ | with_reducible refine Below.drew ?_ | with_reducible refine below_drewN ?_ _ | with_reducible refine Below.setCell ?_ ?_ _ | with_reducible refine Below.alloc ?_ ?_ _ | (dsimp only; omega) | (simp <;> fail) | (have := HBel.out.size; simp; omega)) hb6
  try clear cA
  try clear cB
  try clear cX
  try clear cY
  try clear cZ
  clear HA lA HB lB HX lX HY lY HZ lZ HBel hb6
  have cA := bA.two
  have HA := mkHid bA
  have lA := bA.lt
  clear bA
  have cB := bB.two
  have HB := mkHid bB
  have lB := bB.lt
  clear bB
  have HX := mkHid bX
  have lX := bX.lt
  clear bX
  have HY := mkHid bY
  have lY := bY.lt
  clear bY
  have HZ := mkHid bZ
  have lZ := bZ.lt
  clear bZ
  have HBel := mkHid hBN
  clear hBN
  go_wp2_with fail
  try clear cA
  try clear cB
  clear HA HB lA lB
  go_loopw [58] (fun v wr => ∃ k : Nat, k ≤ 16 ∧ v = .int .i64 (k : Int) ∧ Blk wr (w1.heap.size + 1) 5 (octTo 16 (a0, a1)) ∧ Blk wr (w2.heap.size + 1) 5 (octTo 16 (b0, b1)) ∧ Blk wr (w4.heap.size + 1) 5 (octTo 16 (s0, s1)) ∧ Below w.heap.size w wr) (fun v _ => 16 - (intOf v).toNat)
  case atStart => exact ⟨0, by omega, rfl, HX.out.alloc _, HY.out.alloc _, HZ.out.alloc _, HBel.out.alloc HBel.out.size _⟩
  case round =>
    obtain ⟨k, hk, rfl, hX, hY, hZ, hb⟩ := hrel
    clear HX HY HZ HBel lX lY lZ
    have HX := mkHid hX
    have HY := mkHid hY
    have HZ2 := mkHid hZ
    have HBel := mkHid hb
    clear hX hY hZ hb
    by_cases hlt : k < 16
    · have cX : wr.cell? ⟨w1.heap.size + 1, k, none⟩ = some (.int .u8 (B (octAt (a0, a1) k))) := (HX.out.cell k).trans (octTo_oct _ _ hlt)
      have cY : wr.cell? ⟨w2.heap.size + 1, k, none⟩ = some (.int .u8 (B (octAt (b0, b1) k))) := (HY.out.cell k).trans (octTo_oct _ _ hlt)
      have cZ2 : wr.cell? ⟨w4.heap.size + 1, k, none⟩ = some (.int .u8 (B (octAt (s0, s1) k))) := (HZ2.out.cell k).trans (octTo_oct _ _ hlt)
      rw [HZ.out] at cZ2
      generalize octAt (a0, a1) k = xx at *
      generalize octAt (b0, b1) k = yy at *
      have e1 := w_xor8 xx yy
      go_wp2_with fail
      go_quiet (fail)
      go_wp2_with fail
      go_roundw
      case rel => exact ⟨k + 1, by omega, by go_num, by repeat' first | exact HX.out | refine Blk.drew ?_ | refine Blk.drewN ?_ _, by repeat' first | exact HY.out | refine Blk.drew ?_ | refine Blk.drewN ?_ _, by repeat' first | exact HZ2.out | refine Blk.drew ?_ | refine Blk.drewN ?_ _, by repeat' first | exact HBel.out | refine Below.drew ?_ | refine below_drewN ?_ _⟩
      case measure => simp [intOf]; omega
    · obtain rfl : k = 16 := by omega
      clear HX HY HZ2
      go_wp2_with fail
      refine (of_eq HD H16.out rfl _ cap _ (HL.out.below HBel.out)).mono ?_
      rintro e w7 ⟨rfl, hb7⟩
      have hBN := Below.step (w := w) (by repeat' first | with_reducible exact HBel.out | with_reducible exact Below.refl _ _ | with_reducible refine Below.drew ?_ | with_reducible refine below_drewN ?_ _ | with_reducible refine Below.setCell ?_ ?_ _ | with_reducible refine Below.alloc ?_ ?_ _ | (dsimp only; omega) | (simp <;> fail) | (have := HBel.out.size; simp; omega)) hb7
      clear HBel hb7
      have HBel := mkHid hBN
      clear hBN
      go_wp2_with fail
      have HBel0 : Hid (Below w.heap.size w (w7.alloc (.cells #[.int .u64 (U d0), .int .u64 (U d1)] 24)).drew) := mkHid (HBel.out.alloc HBel.out.size _).drew
      have cD := (Blk.at w7 (n := w7.heap.size) 24 #[.int .u64 (U d0), .int .u64 (U d1)] rfl).drew.two
      have cv : (convert 25 9 (.slice a 16 cap)).run Try.prog (w7.alloc (.cells #[.int .u64 (U d0), .int .u64 (U d1)] 24)).drew = .ok (.string (strOf l)) (w7.alloc (.cells #[.int .u64 (U d0), .int .u64 (U d1)] 24)).drew := str_conv H16.out.symm cap (HL.out.below HBel0.out)
      rename_i qa ka qb kb ab kc ac
      clear ab kb qb ka
      refine wp_region_held_drew (S := fun w' => w'.cell? ⟨w7.heap.size, 0, none⟩ = some (.int .u64 (U d0)) ∧ w'.cell? ⟨w7.heap.size, 1, none⟩ = some (.int .u64 (U d1)) ∧ (convert 25 9 (.slice a 16 cap)).run Try.prog w' = .ok (.string (strOf l)) w') (by kernel_rfl) ?_ (fun hHeld => ?_)
      · ((try dsimp only); (try go_split_ands); refine ⟨?_, ?_, ?_⟩ <;> assumption)
      refine wpAnyH_take (i := 0) (v := ?_) rfl (by kernel_rfl) (by kernel_rfl) (by kernel_rfl) (fun _ _ _ h => h) (Or.inl ⟨by rfl, ?_⟩) hHeld ?_
      rotate_left
      · intro w hSw
        (try dsimp only at hSw)
        go_simp
        all_goals with_reducible rfl
      try simp only [List.getElem_toArray, List.getElem_cons_succ, List.getElem_cons_zero, Act.put, List.setIfInBounds_toArray, List.set_cons_zero, List.set_cons_succ]
      refine wpAnyH_take (i := 1) (v := ?_) rfl (by kernel_rfl) (by kernel_rfl) (by kernel_rfl) (fun _ _ _ h => h) (Or.inl ⟨by rfl, ?_⟩) hHeld ?_
      rotate_left
      · intro w hSw
        (try dsimp only at hSw)
        go_simp
        all_goals with_reducible rfl
      try simp only [List.getElem_toArray, List.getElem_cons_succ, List.getElem_cons_zero, Act.put, List.setIfInBounds_toArray, List.set_cons_zero, List.set_cons_succ]
      refine wpAnyH_take (i := 2) (v := ?_) rfl (by kernel_rfl) (by kernel_rfl) (by kernel_rfl) (fun _ _ _ h => h) (Or.inl ⟨by rfl, ?_⟩) hHeld ?_
      rotate_left
      · intro w hSw
        (try dsimp only at hSw)
        go_simp
        all_goals with_reducible rfl
      try simp only [List.getElem_toArray, List.getElem_cons_succ, List.getElem_cons_zero, Act.put, List.setIfInBounds_toArray, List.set_cons_zero, List.set_cons_succ]
      refine wpAnyH_take (i := 3) (v := ?_) rfl (by kernel_rfl) (by kernel_rfl) (by kernel_rfl) (fun _ _ _ h => h) (Or.inl ⟨by rfl, ?_⟩) hHeld ?_
      rotate_left
      · intro w hSw
        (try dsimp only at hSw)
        go_simp
        all_goals with_reducible rfl
      try simp only [List.getElem_toArray, List.getElem_cons_succ, List.getElem_cons_zero, Act.put, List.setIfInBounds_toArray, List.set_cons_zero, List.set_cons_succ]
      refine wpAnyH_take (i := 4) (v := ?_) rfl (by kernel_rfl) (by kernel_rfl) (by kernel_rfl) (fun _ _ _ h => h) (Or.inl ⟨by rfl, ?_⟩) hHeld ?_
      rotate_left
      · intro w hSw
        (try dsimp only at hSw)
        go_simp
        all_goals with_reducible rfl
      try simp only [List.getElem_toArray, List.getElem_cons_succ, List.getElem_cons_zero, Act.put, List.setIfInBounds_toArray, List.set_cons_zero, List.set_cons_succ]
      refine wpAnyH_take (i := 5) (v := ?_) rfl (by kernel_rfl) (by kernel_rfl) (by kernel_rfl) (fun _ _ _ h => h) (Or.inl ⟨by rfl, ?_⟩) hHeld ?_
      rotate_left
      · intro w hSw
        (try dsimp only at hSw)
        go_simp
        all_goals with_reducible rfl
      try simp only [List.getElem_toArray, List.getElem_cons_succ, List.getElem_cons_zero, Act.put, List.setIfInBounds_toArray, List.set_cons_zero, List.set_cons_succ]
      refine wpAnyH_take (i := 6) (v := ?_) rfl (by kernel_rfl) (by kernel_rfl) (by kernel_rfl) (fun _ _ _ h => h) (Or.inl ⟨by rfl, ?_⟩) hHeld ?_
      rotate_left
      · intro w hSw
        (try dsimp only at hSw)
        go_simp
        all_goals with_reducible rfl
      try simp only [List.getElem_toArray, List.getElem_cons_succ, List.getElem_cons_zero, Act.put, List.setIfInBounds_toArray, List.set_cons_zero, List.set_cons_succ]
      refine wpAnyH_take (i := 7) (v := ?_) rfl (by kernel_rfl) (by kernel_rfl) (by kernel_rfl) (fun _ _ _ h => h) (Or.inl ⟨by rfl, ?_⟩) hHeld ?_
      rotate_left
      · intro w hSw
        (try dsimp only at hSw)
        go_simp
        all_goals with_reducible rfl
      try simp only [List.getElem_toArray, List.getElem_cons_succ, List.getElem_cons_zero, Act.put, List.setIfInBounds_toArray, List.set_cons_zero, List.set_cons_succ]
      refine wpAnyH_take (i := 8) (v := ?_) rfl (by kernel_rfl) (by kernel_rfl) (by kernel_rfl) (fun _ _ _ h => h) (Or.inl ⟨by rfl, ?_⟩) hHeld ?_
      rotate_left
      · intro w hSw
        (try dsimp only at hSw)
        go_simp
        all_goals with_reducible rfl
      try simp only [List.getElem_toArray, List.getElem_cons_succ, List.getElem_cons_zero, Act.put, List.setIfInBounds_toArray, List.set_cons_zero, List.set_cons_succ]
      refine wpAnyH_take (i := 9) (v := ?_) rfl (by kernel_rfl) (by kernel_rfl) (by kernel_rfl) (fun _ _ _ h => h) (Or.inl ⟨by rfl, ?_⟩) hHeld ?_
      rotate_left
      · intro w hSw
        (try dsimp only at hSw)
        go_simp
        all_goals with_reducible rfl
      try simp only [List.getElem_toArray, List.getElem_cons_succ, List.getElem_cons_zero, Act.put, List.setIfInBounds_toArray, List.set_cons_zero, List.set_cons_succ]
      refine wpAnyH_take (i := 10) (v := ?_) rfl (by kernel_rfl) (by kernel_rfl) (by kernel_rfl) (fun _ _ _ h => h) (Or.inl ⟨by rfl, ?_⟩) hHeld ?_
      rotate_left
      · intro w hSw
        (try dsimp only at hSw)
        go_simp
        all_goals with_reducible rfl
      try simp only [List.getElem_toArray, List.getElem_cons_succ, List.getElem_cons_zero, Act.put, List.setIfInBounds_toArray, List.set_cons_zero, List.set_cons_succ]
      refine wpAnyH_take (i := 11) (v := ?_) rfl (by kernel_rfl) (by kernel_rfl) (by kernel_rfl) (fun _ _ _ h => h) (Or.inl ⟨by rfl, ?_⟩) hHeld ?_
      rotate_left
      · intro w hSw
        (try dsimp only at hSw)
        go_simp
        all_goals with_reducible rfl
      try simp only [List.getElem_toArray, List.getElem_cons_succ, List.getElem_cons_zero, Act.put, List.setIfInBounds_toArray, List.set_cons_zero, List.set_cons_succ]
      refine wpAnyH_take (i := 12) (v := ?_) rfl (by kernel_rfl) (by kernel_rfl) (by kernel_rfl) (fun _ _ _ h => h) (Or.inl ⟨by rfl, ?_⟩) hHeld ?_
      rotate_left
      · intro w hSw
        (try dsimp only at hSw)
        go_simp
        all_goals with_reducible rfl
      try simp only [List.getElem_toArray, List.getElem_cons_succ, List.getElem_cons_zero, Act.put, List.setIfInBounds_toArray, List.set_cons_zero, List.set_cons_succ]
      refine wpAnyH_take (i := 13) (v := ?_) rfl (by kernel_rfl) (by kernel_rfl) (by kernel_rfl) (fun _ _ _ h => h) (Or.inl ⟨by rfl, ?_⟩) hHeld ?_
      rotate_left
      · intro w hSw
        (try dsimp only at hSw)
        go_simp
        all_goals with_reducible rfl
      try simp only [List.getElem_toArray, List.getElem_cons_succ, List.getElem_cons_zero, Act.put, List.setIfInBounds_toArray, List.set_cons_zero, List.set_cons_succ]
      refine wpAnyH_take (i := 16) (v := ?_) rfl (by kernel_rfl) (by kernel_rfl) (by kernel_rfl) (fun _ _ _ h => h) (Or.inl ⟨by rfl, ?_⟩) hHeld ?_
      rotate_left
      · intro w hSw
        (try dsimp only at hSw)
        go_simp
        all_goals with_reducible rfl
      try simp only [List.getElem_toArray, List.getElem_cons_succ, List.getElem_cons_zero, Act.put, List.setIfInBounds_toArray, List.set_cons_zero, List.set_cons_succ]
      refine wpAnyH_take (i := 17) (v := ?_) rfl (by kernel_rfl) (by kernel_rfl) (by kernel_rfl) (fun _ _ _ h => h) (Or.inl ⟨by rfl, ?_⟩) hHeld ?_
      rotate_left
      · intro w hSw
        (try dsimp only at hSw)
        go_simp
        all_goals with_reducible rfl
      try simp only [List.getElem_toArray, List.getElem_cons_succ, List.getElem_cons_zero, Act.put, List.setIfInBounds_toArray, List.set_cons_zero, List.set_cons_succ]
      refine wpAnyH_ready (rs := [14]) (by kernel_rfl) (by simp) ?_
      refine AllReadyH.cons rfl (fun K hK => ?_) AllReadyH.nil
      go_simp
      go_at_call 22
      with_reducible refine (octets_post (x := d0) (y := d1) rfl rfl _).mono ?_
      (try go_split_ands)
      rintro e wn ⟨g, hO, rfl, hbn⟩
      have fc0 := keeps hbn (p := ⟨w7.heap.size, 0, none⟩) (v := .int .u64 (U d0)) (by assumption)
      have fc1 := keeps hbn (p := ⟨w7.heap.size, 1, none⟩) (v := .int .u64 (U d1)) (by assumption)
      have hBn := mkHid (Below.step (w := w) (Hid.out (by assumption)) hbn)
      have cvt := str_conv H16.out.symm cap (HL.out.below hBn.out)
      have cvo := str_octs HO.out 16 hO
      go_wp2_with fail
      refine hK.out _ _ ?_ (fun hHeld => ?_)
      · ((try dsimp only); (try go_split_ands); refine ⟨?_, ?_, ?_⟩ <;> assumption)
      clear hK K
      try simp only [List.getElem_toArray, List.getElem_cons_succ, List.getElem_cons_zero, Act.put, List.setIfInBounds_toArray, List.set_cons_zero, List.set_cons_succ]
      refine wpAnyH_ready (rs := [15]) (by kernel_rfl) (by simp) ?_
      refine AllReadyH.cons rfl (fun K hK => ?_) AllReadyH.nil
      go_simp
      refine hK.out _ _ ?_ (fun hHeld => ?_)
      · ((try dsimp only); (try go_split_ands); refine ⟨?_, ?_, ?_⟩ <;> assumption)
      clear hK K
      try simp only [List.getElem_toArray, List.getElem_cons_succ, List.getElem_cons_zero, Act.put, List.setIfInBounds_toArray, List.set_cons_zero, List.set_cons_succ]
      refine wpAnyH_take (i := 18) (v := ?_) rfl (by kernel_rfl) (by kernel_rfl) (by kernel_rfl) (fun _ _ _ h => h) (Or.inl ⟨by rfl, ?_⟩) hHeld ?_
      rotate_left
      · intro w hSw
        (try dsimp only at hSw)
        go_simp
        all_goals with_reducible rfl
      try simp only [List.getElem_toArray, List.getElem_cons_succ, List.getElem_cons_zero, Act.put, List.setIfInBounds_toArray, List.set_cons_zero, List.set_cons_succ]
      refine wpAnyH_take (i := 19) (v := ?_) rfl (by kernel_rfl) (by kernel_rfl) (by kernel_rfl) (fun _ _ _ h => h) (Or.inl ⟨by rfl, ?_⟩) hHeld ?_
      rotate_left
      · intro w hSw
        (try dsimp only at hSw)
        go_simp
        all_goals with_reducible rfl
      try simp only [List.getElem_toArray, List.getElem_cons_succ, List.getElem_cons_zero, Act.put, List.setIfInBounds_toArray, List.set_cons_zero, List.set_cons_succ]
      refine wpAnyH_take (i := 20) (v := ?_) rfl (by kernel_rfl) (by kernel_rfl) (by kernel_rfl) (fun _ _ _ h => h) (Or.inl ⟨by rfl, ?_⟩) hHeld ?_
      rotate_left
      · intro w hSw
        (try dsimp only at hSw)
        go_simp
        all_goals with_reducible rfl
      try simp only [List.getElem_toArray, List.getElem_cons_succ, List.getElem_cons_zero, Act.put, List.setIfInBounds_toArray, List.set_cons_zero, List.set_cons_succ]
      refine wpAnyH_take (i := 21) (v := ?_) rfl (by kernel_rfl) (by kernel_rfl) (by kernel_rfl) (fun _ _ _ h => h) (Or.inl ⟨by rfl, ?_⟩) hHeld ?_
      rotate_left
      · intro w hSw
        (try dsimp only at hSw)
        go_simp
        all_goals with_reducible rfl
      try simp only [List.getElem_toArray, List.getElem_cons_succ, List.getElem_cons_zero, Act.put, List.setIfInBounds_toArray, List.set_cons_zero, List.set_cons_succ]
      refine wpAnyH_done (by kernel_rfl) ?_ _
      all_goals go_wp2_with fail
      all_goals go_ret
      all_goals exact ⟨rfl, Hid.out (by assumption)⟩

theorem walk_MixOctets (a0 a1 b0 b1 : BitVec 64) (a : Option Addr) (l : List (BitVec 8)) (cap : Nat) (_hcap : l.length ≤ cap) (_hm : cap ≤ maxLen) (w : World) (hL : Bytes w a l) (_nz : a = none → cap = 0) :
    Calls Try.prog 9 #[.agg #[.int .u64 (U a0), .int .u64 (U a1)], .agg #[.int .u64 (U b0), .int .u64 (U b1)], .slice a l.length cap] w fun e w' => e = .returned (.bool true) ∧ Below w.heap.size w w' := by
  by_cases h5 : l.length ≤ 500
  · by_cases h : l.length = 16
    · have c := walk_MixOctets_yes a0 a1 b0 b1 a l cap h w hL
      rw [← h] at c
      exact c
    · exact walk_MixOctets_no a0 a1 b0 b1 a l cap h5 h w hL
  · exact walk_MixOctets_long a0 a1 b0 b1 a l cap (by omega) w
end Go.Proofs.Ytdaodopeodheeaa
