/- The walk of SealDoes, case A. -/
import Derived.Test.YtdaodopeodheeaaWSealDoC
namespace Go.Proofs.Ytdaodopeodheeaa
open Go.RowKit

set_option linter.unusedSimpArgs false in
set_option maxRecDepth 100000 in
set_option maxHeartbeats 4000000 in
theorem sdoes_A (l : List (BitVec 8)) (a : Option Addr) (cap : Nat) {k0 k1 b0 b1 c0 c1 t0 t1 x0 x1 h0 h1 g0 g1 r0 r1 p0 p1 q0 q1 : BitVec 64} (X1 : Hid (hideB (k0, k1) (b0, b1) = (h0, h1))) (X2 : Hid (tagB (k0, k1) (h0, h1) = (g0, g1))) (X3 : Hid (tagB (k0, k1) (b0, b1) = (r0, r1))) (Y1 : Hid (hideB (k0, k1) (c0, c1) = (x0, x1))) (Y2 : Hid (tagB (k0, k1) (c0, c1) = (t0, t1))) (P : Hid (blockOf (l.take 16) = (p0, p1))) (Q : Hid (blockOf (l.drop 16) = (q0, q1))) (h32 : l.length = 32) (hcap : 32 ≤ cap)  (w : World) (hL : Bytes w a l) :
    Calls Try.prog 14 #[.agg #[.int .u64 (U k0), .int .u64 (U k1)], .agg #[.int .u64 (U b0), .int .u64 (U b1)], .agg #[.int .u64 (U c0), .int .u64 (U c1), .int .u64 (U t0), .int .u64 (U t1)], .slice a 32 cap] w fun e w' => e = .returned (.bool true) ∧ Below w.heap.size w w' := by
  have hq := eq_blocks
  have hq4 := eq_sealed
  have H32 := mkHid h32
  clear h32
  have KB : Hid (Below w.heap.size w (((w.alloc (.cells #[.int .u64 (U k0), .int .u64 (U k1)] 24)).alloc (.cells #[.int .u64 (U b0), .int .u64 (U b1)] 24)).alloc (.cells #[.int .u64 (U c0), .int .u64 (U c1), .int .u64 (U t0), .int .u64 (U t1)] 43))) := mkHid ((((Below.refl _ _).alloc (Nat.le_refl _) _).alloc (by simp) _).alloc (by simp; omega) _)
  have ZK : Hid (Blk (((w.alloc (.cells #[.int .u64 (U k0), .int .u64 (U k1)] 24)).alloc (.cells #[.int .u64 (U b0), .int .u64 (U b1)] 24)).alloc (.cells #[.int .u64 (U c0), .int .u64 (U c1), .int .u64 (U t0), .int .u64 (U t1)] 43)) w.heap.size 24 #[.int .u64 (U k0), .int .u64 (U k1)]) := mkHid (((Blk.new _ _ _).alloc _).alloc _)
  have ZB : Hid (Blk (((w.alloc (.cells #[.int .u64 (U k0), .int .u64 (U k1)] 24)).alloc (.cells #[.int .u64 (U b0), .int .u64 (U b1)] 24)).alloc (.cells #[.int .u64 (U c0), .int .u64 (U c1), .int .u64 (U t0), .int .u64 (U t1)] 43)) (w.heap.size + 1) 24 #[.int .u64 (U b0), .int .u64 (U b1)]) := mkHid ((Blk.at _ _ _ (by simp)).alloc _)
  have ZS : Hid (Blk (((w.alloc (.cells #[.int .u64 (U k0), .int .u64 (U k1)] 24)).alloc (.cells #[.int .u64 (U b0), .int .u64 (U b1)] 24)).alloc (.cells #[.int .u64 (U c0), .int .u64 (U c1), .int .u64 (U t0), .int .u64 (U t1)] 43)) (w.heap.size + 1 + 1) 43 #[.int .u64 (U c0), .int .u64 (U c1), .int .u64 (U t0), .int .u64 (U t1)]) := mkHid (Blk.at _ _ _ (by simp))
  have HL := mkHid (hL.below KB.out)
  clear hL
  have cZK := ZK.out.two
  have lZK := ZK.out.lt
  have cZB := ZB.out.two
  have lZB := ZB.out.lt
  have cZS := ZS.out.four
  have lZS := ZS.out.lt
  go_enter Try.func14, Try.ntmps14
  go_wp2_with fail
  refine (live04 _).mono ?_
  rintro e w1 ⟨rfl, hb1⟩
  replace ZK := mkHid (ZK.out.keep hb1)
  replace ZB := mkHid (ZB.out.keep hb1)
  replace ZS := mkHid (ZS.out.keep hb1)
  replace KB := mkHid (KB.out.step hb1)
  replace HL := mkHid (HL.out.below hb1)
  clear cZK lZK
  have cZK := ZK.out.two
  have lZK := ZK.out.lt
  clear cZB lZB
  have cZB := ZB.out.two
  have lZB := ZB.out.lt
  clear cZS lZS
  have cZS := ZS.out.four
  have lZS := ZS.out.lt
  clear hb1
  go_wp2_with fail
  refine (unwrap_yes Y1 Y2 _).mono ?_
  rintro e w2 ⟨rfl, hb2⟩
  replace ZK := mkHid (ZK.out.keep hb2)
  replace ZB := mkHid (ZB.out.keep hb2)
  replace ZS := mkHid (ZS.out.keep hb2)
  replace KB := mkHid (KB.out.step hb2)
  replace HL := mkHid (HL.out.below hb2)
  clear cZK lZK
  have cZK := ZK.out.two
  have lZK := ZK.out.lt
  clear cZB lZB
  have cZB := ZB.out.two
  have lZB := ZB.out.lt
  clear cZS lZS
  have cZS := ZS.out.four
  have lZS := ZS.out.lt
  clear hb2
  have Sw2 : w.heap.size ≤ w2.heap.size := KB.out.size
  go_wp2_with fail
  replace ZK := mkHid (ZK.out.alloc (.cells #[.int .u64 (U x0), .int .u64 (U x1)] 24))
  replace ZB := mkHid (ZB.out.alloc (.cells #[.int .u64 (U x0), .int .u64 (U x1)] 24))
  replace ZS := mkHid (ZS.out.alloc (.cells #[.int .u64 (U x0), .int .u64 (U x1)] 24))
  replace KB := mkHid (KB.out.alloc KB.out.size (.cells #[.int .u64 (U x0), .int .u64 (U x1)] 24))
  replace HL := mkHid (HL.out.below ((Below.refl _ _).alloc (Nat.le_refl _) (.cells #[.int .u64 (U x0), .int .u64 (U x1)] 24)))
  clear cZK lZK
  have cZK := ZK.out.two
  have lZK := ZK.out.lt
  clear cZB lZB
  have cZB := ZB.out.two
  have lZB := ZB.out.lt
  clear cZS lZS
  have cZS := ZS.out.four
  have lZS := ZS.out.lt
  have ZX : Hid (Blk (w2.alloc (.cells #[.int .u64 (U x0), .int .u64 (U x1)] 24)) w2.heap.size 24 #[.int .u64 (U x0), .int .u64 (U x1)]) := mkHid (Blk.new _ _ _)
  have cZX := ZX.out.two
  have lZX := ZX.out.lt
  refine (runwrap_yes Y1 Y2 _).mono ?_
  rintro e w3 ⟨rfl, hb3⟩
  replace ZK := mkHid (ZK.out.keep hb3)
  replace ZB := mkHid (ZB.out.keep hb3)
  replace ZS := mkHid (ZS.out.keep hb3)
  replace KB := mkHid (KB.out.step hb3)
  replace HL := mkHid (HL.out.below hb3)
  replace ZX := mkHid (ZX.out.keep hb3)
  clear cZK lZK
  have cZK := ZK.out.two
  have lZK := ZK.out.lt
  clear cZB lZB
  have cZB := ZB.out.two
  have lZB := ZB.out.lt
  clear cZS lZS
  have cZS := ZS.out.four
  have lZS := ZS.out.lt
  clear cZX lZX
  have cZX := ZX.out.two
  have lZX := ZX.out.lt
  clear hb3
  have Sw3 : w.heap.size ≤ w3.heap.size := KB.out.size
  go_wp2_with fail
  replace ZK := mkHid (ZK.out.alloc (.cells #[.int .u64 (U x0), .int .u64 (U x1)] 24))
  replace ZB := mkHid (ZB.out.alloc (.cells #[.int .u64 (U x0), .int .u64 (U x1)] 24))
  replace ZS := mkHid (ZS.out.alloc (.cells #[.int .u64 (U x0), .int .u64 (U x1)] 24))
  replace KB := mkHid (KB.out.alloc KB.out.size (.cells #[.int .u64 (U x0), .int .u64 (U x1)] 24))
  replace HL := mkHid (HL.out.below ((Below.refl _ _).alloc (Nat.le_refl _) (.cells #[.int .u64 (U x0), .int .u64 (U x1)] 24)))
  replace ZX := mkHid (ZX.out.alloc (.cells #[.int .u64 (U x0), .int .u64 (U x1)] 24))
  clear cZK lZK
  have cZK := ZK.out.two
  have lZK := ZK.out.lt
  clear cZB lZB
  have cZB := ZB.out.two
  have lZB := ZB.out.lt
  clear cZS lZS
  have cZS := ZS.out.four
  have lZS := ZS.out.lt
  clear cZX lZX
  have cZX := ZX.out.two
  have lZX := ZX.out.lt
  have ZY : Hid (Blk (w3.alloc (.cells #[.int .u64 (U x0), .int .u64 (U x1)] 24)) w3.heap.size 24 #[.int .u64 (U x0), .int .u64 (U x1)]) := mkHid (Blk.new _ _ _)
  have cZY := ZY.out.two
  have lZY := ZY.out.lt
  refine (sealof_eq P Q H32.out hcap _ HL.out).mono ?_
  rintro e w4 ⟨rfl, hb4⟩
  replace ZK := mkHid (ZK.out.keep hb4)
  replace ZB := mkHid (ZB.out.keep hb4)
  replace ZS := mkHid (ZS.out.keep hb4)
  replace KB := mkHid (KB.out.step hb4)
  replace HL := mkHid (HL.out.below hb4)
  replace ZX := mkHid (ZX.out.keep hb4)
  replace ZY := mkHid (ZY.out.keep hb4)
  clear cZK lZK
  have cZK := ZK.out.two
  have lZK := ZK.out.lt
  clear cZB lZB
  have cZB := ZB.out.two
  have lZB := ZB.out.lt
  clear cZS lZS
  have cZS := ZS.out.four
  have lZS := ZS.out.lt
  clear cZX lZX
  have cZX := ZX.out.two
  have lZX := ZX.out.lt
  clear cZY lZY
  have cZY := ZY.out.two
  have lZY := ZY.out.lt
  clear hb4
  have Sw4 : w.heap.size ≤ w4.heap.size := KB.out.size
  go_wp2_with fail
  replace ZK := mkHid (ZK.out.alloc (.cells #[.int .u64 (U p0), .int .u64 (U p1), .int .u64 (U q0), .int .u64 (U q1)] 43))
  replace ZB := mkHid (ZB.out.alloc (.cells #[.int .u64 (U p0), .int .u64 (U p1), .int .u64 (U q0), .int .u64 (U q1)] 43))
  replace ZS := mkHid (ZS.out.alloc (.cells #[.int .u64 (U p0), .int .u64 (U p1), .int .u64 (U q0), .int .u64 (U q1)] 43))
  replace KB := mkHid (KB.out.alloc KB.out.size (.cells #[.int .u64 (U p0), .int .u64 (U p1), .int .u64 (U q0), .int .u64 (U q1)] 43))
  replace HL := mkHid (HL.out.below ((Below.refl _ _).alloc (Nat.le_refl _) (.cells #[.int .u64 (U p0), .int .u64 (U p1), .int .u64 (U q0), .int .u64 (U q1)] 43)))
  replace ZX := mkHid (ZX.out.alloc (.cells #[.int .u64 (U p0), .int .u64 (U p1), .int .u64 (U q0), .int .u64 (U q1)] 43))
  replace ZY := mkHid (ZY.out.alloc (.cells #[.int .u64 (U p0), .int .u64 (U p1), .int .u64 (U q0), .int .u64 (U q1)] 43))
  clear cZK lZK
  have cZK := ZK.out.two
  have lZK := ZK.out.lt
  clear cZB lZB
  have cZB := ZB.out.two
  have lZB := ZB.out.lt
  clear cZS lZS
  have cZS := ZS.out.four
  have lZS := ZS.out.lt
  clear cZX lZX
  have cZX := ZX.out.two
  have lZX := ZX.out.lt
  clear cZY lZY
  have cZY := ZY.out.two
  have lZY := ZY.out.lt
  have ZP : Hid (Blk (w4.alloc (.cells #[.int .u64 (U p0), .int .u64 (U p1), .int .u64 (U q0), .int .u64 (U q1)] 43)) w4.heap.size 43 #[.int .u64 (U p0), .int .u64 (U p1), .int .u64 (U q0), .int .u64 (U q1)]) := mkHid (Blk.new _ _ _)
  have cZP := ZP.out.four
  have lZP := ZP.out.lt
  refine (rsealof_eq P Q H32.out hcap _ HL.out).mono ?_
  rintro e w5 ⟨rfl, hb5⟩
  replace ZK := mkHid (ZK.out.keep hb5)
  replace ZB := mkHid (ZB.out.keep hb5)
  replace ZS := mkHid (ZS.out.keep hb5)
  replace KB := mkHid (KB.out.step hb5)
  replace HL := mkHid (HL.out.below hb5)
  replace ZX := mkHid (ZX.out.keep hb5)
  replace ZY := mkHid (ZY.out.keep hb5)
  replace ZP := mkHid (ZP.out.keep hb5)
  clear cZK lZK
  have cZK := ZK.out.two
  have lZK := ZK.out.lt
  clear cZB lZB
  have cZB := ZB.out.two
  have lZB := ZB.out.lt
  clear cZS lZS
  have cZS := ZS.out.four
  have lZS := ZS.out.lt
  clear cZX lZX
  have cZX := ZX.out.two
  have lZX := ZX.out.lt
  clear cZY lZY
  have cZY := ZY.out.two
  have lZY := ZY.out.lt
  clear cZP lZP
  have cZP := ZP.out.four
  have lZP := ZP.out.lt
  clear hb5
  have Sw5 : w.heap.size ≤ w5.heap.size := KB.out.size
  replace ZK := mkHid (ZK.out.alloc (.cells #[.int .u64 (U p0), .int .u64 (U p1), .int .u64 (U q0), .int .u64 (U q1)] 43))
  replace ZB := mkHid (ZB.out.alloc (.cells #[.int .u64 (U p0), .int .u64 (U p1), .int .u64 (U q0), .int .u64 (U q1)] 43))
  replace ZS := mkHid (ZS.out.alloc (.cells #[.int .u64 (U p0), .int .u64 (U p1), .int .u64 (U q0), .int .u64 (U q1)] 43))
  replace KB := mkHid (KB.out.alloc KB.out.size (.cells #[.int .u64 (U p0), .int .u64 (U p1), .int .u64 (U q0), .int .u64 (U q1)] 43))
  replace HL := mkHid (HL.out.below ((Below.refl _ _).alloc (Nat.le_refl _) (.cells #[.int .u64 (U p0), .int .u64 (U p1), .int .u64 (U q0), .int .u64 (U q1)] 43)))
  replace ZX := mkHid (ZX.out.alloc (.cells #[.int .u64 (U p0), .int .u64 (U p1), .int .u64 (U q0), .int .u64 (U q1)] 43))
  replace ZY := mkHid (ZY.out.alloc (.cells #[.int .u64 (U p0), .int .u64 (U p1), .int .u64 (U q0), .int .u64 (U q1)] 43))
  replace ZP := mkHid (ZP.out.alloc (.cells #[.int .u64 (U p0), .int .u64 (U p1), .int .u64 (U q0), .int .u64 (U q1)] 43))
  clear cZK lZK
  have cZK := ZK.out.two
  have lZK := ZK.out.lt
  clear cZB lZB
  have cZB := ZB.out.two
  have lZB := ZB.out.lt
  clear cZS lZS
  have cZS := ZS.out.four
  have lZS := ZS.out.lt
  clear cZX lZX
  have cZX := ZX.out.two
  have lZX := ZX.out.lt
  clear cZY lZY
  have cZY := ZY.out.two
  have lZY := ZY.out.lt
  clear cZP lZP
  have cZP := ZP.out.four
  have lZP := ZP.out.lt
  have ZQ : Hid (Blk (w5.alloc (.cells #[.int .u64 (U p0), .int .u64 (U p1), .int .u64 (U q0), .int .u64 (U q1)] 43)) w5.heap.size 43 #[.int .u64 (U p0), .int .u64 (U p1), .int .u64 (U q0), .int .u64 (U q1)]) := mkHid (Blk.new _ _ _)
  have cZQ := ZQ.out.four
  have lZQ := ZQ.out.lt
  go_wp2_with fail
  have KE : Hid (Below w.heap.size w (w5.alloc (.cells #[.int .u64 (U p0), .int .u64 (U p1), .int .u64 (U q0), .int .u64 (U q1)] 43)).drew) := mkHid KB.out.drew
  have L32 : Hid (32 = (octs (c0, c1) ++ octs (t0, t1)).length) := mkHid (by rw [List.length_append, octs_length, octs_length])
  have ⟨f0, f1⟩ := ZK.out.drew.two
  have ⟨f2, f3⟩ := ZB.out.drew.two
  have ⟨f4, f5, f6, f7⟩ := ZS.out.drew.four
  have ⟨f8, f9⟩ := ZX.out.drew.two
  have ⟨f10, f11⟩ := ZY.out.drew.two
  have ⟨f12, f13, f14, f15⟩ := ZP.out.drew.four
  have ⟨f16, f17, f18, f19⟩ := ZQ.out.drew.four
  clear ZK cZK lZK ZB cZB lZB ZS cZS lZS ZX cZX lZX ZY cZY lZY ZP cZP lZP ZQ cZQ lZQ KB HL Sw2 Sw3 Sw4 Sw5
  refine wp_region_held_drew (S := fun w' => w'.cell? ⟨w.heap.size, 0, none⟩ = some (.int .u64 (U k0)) ∧ w'.cell? ⟨w.heap.size, 1, none⟩ = some (.int .u64 (U k1)) ∧ w'.cell? ⟨(w.heap.size + 1), 0, none⟩ = some (.int .u64 (U b0)) ∧ w'.cell? ⟨(w.heap.size + 1), 1, none⟩ = some (.int .u64 (U b1)) ∧ w'.cell? ⟨(w.heap.size + 1 + 1), 0, none⟩ = some (.int .u64 (U c0)) ∧ w'.cell? ⟨(w.heap.size + 1 + 1), 1, none⟩ = some (.int .u64 (U c1)) ∧ w'.cell? ⟨(w.heap.size + 1 + 1), 2, none⟩ = some (.int .u64 (U t0)) ∧ w'.cell? ⟨(w.heap.size + 1 + 1), 3, none⟩ = some (.int .u64 (U t1)) ∧ w'.cell? ⟨w2.heap.size, 0, none⟩ = some (.int .u64 (U x0)) ∧ w'.cell? ⟨w2.heap.size, 1, none⟩ = some (.int .u64 (U x1)) ∧ w'.cell? ⟨w3.heap.size, 0, none⟩ = some (.int .u64 (U x0)) ∧ w'.cell? ⟨w3.heap.size, 1, none⟩ = some (.int .u64 (U x1)) ∧ w'.cell? ⟨w4.heap.size, 0, none⟩ = some (.int .u64 (U p0)) ∧ w'.cell? ⟨w4.heap.size, 1, none⟩ = some (.int .u64 (U p1)) ∧ w'.cell? ⟨w4.heap.size, 2, none⟩ = some (.int .u64 (U q0)) ∧ w'.cell? ⟨w4.heap.size, 3, none⟩ = some (.int .u64 (U q1)) ∧ w'.cell? ⟨w5.heap.size, 0, none⟩ = some (.int .u64 (U p0)) ∧ w'.cell? ⟨w5.heap.size, 1, none⟩ = some (.int .u64 (U p1)) ∧ w'.cell? ⟨w5.heap.size, 2, none⟩ = some (.int .u64 (U q0)) ∧ w'.cell? ⟨w5.heap.size, 3, none⟩ = some (.int .u64 (U q1))) (by kernel_rfl) ?_ (fun hHeld => ?_)
  · ((try dsimp only); (try go_split_ands); refine ⟨?_, ?_, ?_, ?_, ?_, ?_, ?_, ?_, ?_, ?_, ?_, ?_, ?_, ?_, ?_, ?_, ?_, ?_, ?_, ?_⟩ <;> assumption)
  refine wpAnyH_take (i := 0) (v := ?_) rfl (by kernel_rfl) (by kernel_rfl) (by kernel_rfl) (fun _ _ _ h => h) (Or.inl ⟨by rfl, ?_⟩) hHeld ?_
  rotate_left
  · intro w hSw
    (try dsimp only at hSw)
    go_simp
    all_goals with_reducible rfl
  try simp only [List.getElem_toArray, List.getElem_cons_succ, List.getElem_cons_zero, Act.put, List.setIfInBounds_toArray, List.set_cons_zero, List.set_cons_succ]
  refine wpAnyH_take (i := 1) (v := ?_) rfl (by kernel_rfl) (by kernel_rfl) (by kernel_rfl) (fun _ _ _ h => h) (Or.inl ⟨by rfl, ?_⟩) hHeld ?_
  rotate_left
  · intro w hSw
    (try dsimp only at hSw)
    go_simp
    all_goals with_reducible rfl
  try simp only [List.getElem_toArray, List.getElem_cons_succ, List.getElem_cons_zero, Act.put, List.setIfInBounds_toArray, List.set_cons_zero, List.set_cons_succ]
  refine wpAnyH_take (i := 2) (v := ?_) rfl (by kernel_rfl) (by kernel_rfl) (by kernel_rfl) (fun _ _ _ h => h) (Or.inl ⟨by rfl, ?_⟩) hHeld ?_
  rotate_left
  · intro w hSw
    (try dsimp only at hSw)
    go_simp
    all_goals with_reducible rfl
  try simp only [List.getElem_toArray, List.getElem_cons_succ, List.getElem_cons_zero, Act.put, List.setIfInBounds_toArray, List.set_cons_zero, List.set_cons_succ]
  refine wpAnyH_take (i := 3) (v := ?_) rfl (by kernel_rfl) (by kernel_rfl) (by kernel_rfl) (fun _ _ _ h => h) (Or.inl ⟨by rfl, ?_⟩) hHeld ?_
  rotate_left
  · intro w hSw
    (try dsimp only at hSw)
    go_simp
    all_goals with_reducible rfl
  try simp only [List.getElem_toArray, List.getElem_cons_succ, List.getElem_cons_zero, Act.put, List.setIfInBounds_toArray, List.set_cons_zero, List.set_cons_succ]
  refine wpAnyH_take (i := 5) (v := ?_) rfl (by kernel_rfl) (by kernel_rfl) (by kernel_rfl) (fun _ _ _ h => h) (Or.inl ⟨by rfl, ?_⟩) hHeld ?_
  rotate_left
  · intro w hSw
    (try dsimp only at hSw)
    go_simp
    all_goals with_reducible rfl
  try simp only [List.getElem_toArray, List.getElem_cons_succ, List.getElem_cons_zero, Act.put, List.setIfInBounds_toArray, List.set_cons_zero, List.set_cons_succ]
  refine wpAnyH_take (i := 6) (v := ?_) rfl (by kernel_rfl) (by kernel_rfl) (by kernel_rfl) (fun _ _ _ h => h) (Or.inl ⟨by rfl, ?_⟩) hHeld ?_
  rotate_left
  · intro w hSw
    (try dsimp only at hSw)
    go_simp
    all_goals with_reducible rfl
  try simp only [List.getElem_toArray, List.getElem_cons_succ, List.getElem_cons_zero, Act.put, List.setIfInBounds_toArray, List.set_cons_zero, List.set_cons_succ]
  refine wpAnyH_ready (rs := [4]) (by kernel_rfl) (by simp) ?_
  refine AllReadyH.cons rfl (fun K hK => ?_) AllReadyH.nil
  go_simp
  go_at_call 31
  with_reducible refine (wrap_eq X1 X2 _).mono ?_
  (try go_split_ands)
  rintro e wn ⟨rfl, hbn⟩
  replace f0 := keeps hbn f0
  replace f1 := keeps hbn f1
  replace f2 := keeps hbn f2
  replace f3 := keeps hbn f3
  replace f4 := keeps hbn f4
  replace f5 := keeps hbn f5
  replace f6 := keeps hbn f6
  replace f7 := keeps hbn f7
  replace f8 := keeps hbn f8
  replace f9 := keeps hbn f9
  replace f10 := keeps hbn f10
  replace f11 := keeps hbn f11
  replace f12 := keeps hbn f12
  replace f13 := keeps hbn f13
  replace f14 := keeps hbn f14
  replace f15 := keeps hbn f15
  replace f16 := keeps hbn f16
  replace f17 := keeps hbn f17
  replace f18 := keeps hbn f18
  replace f19 := keeps hbn f19
  replace KE := mkHid (KE.out.step hbn)
  clear hbn
  go_wp2_with fail
  refine hK.out _ _ ?_ (fun hHeld => ?_)
  · ((try dsimp only); (try go_split_ands); refine ⟨?_, ?_, ?_, ?_, ?_, ?_, ?_, ?_, ?_, ?_, ?_, ?_, ?_, ?_, ?_, ?_, ?_, ?_, ?_, ?_⟩ <;> assumption)
  clear hK K
  try simp only [List.getElem_toArray, List.getElem_cons_succ, List.getElem_cons_zero, Act.put, List.setIfInBounds_toArray, List.set_cons_zero, List.set_cons_succ]
  refine wpAnyH_ready (rs := [7]) (by kernel_rfl) (by simp) ?_
  refine AllReadyH.cons rfl (fun K hK => ?_) AllReadyH.nil
  go_simp
  go_at_call 37
  with_reducible refine (rwrap_eq X1 X2 _).mono ?_
  (try go_split_ands)
  rintro e wn ⟨rfl, hbn⟩
  replace f0 := keeps hbn f0
  replace f1 := keeps hbn f1
  replace f2 := keeps hbn f2
  replace f3 := keeps hbn f3
  replace f4 := keeps hbn f4
  replace f5 := keeps hbn f5
  replace f6 := keeps hbn f6
  replace f7 := keeps hbn f7
  replace f8 := keeps hbn f8
  replace f9 := keeps hbn f9
  replace f10 := keeps hbn f10
  replace f11 := keeps hbn f11
  replace f12 := keeps hbn f12
  replace f13 := keeps hbn f13
  replace f14 := keeps hbn f14
  replace f15 := keeps hbn f15
  replace f16 := keeps hbn f16
  replace f17 := keeps hbn f17
  replace f18 := keeps hbn f18
  replace f19 := keeps hbn f19
  replace KE := mkHid (KE.out.step hbn)
  clear hbn
  go_wp2_with fail
  refine hK.out _ _ ?_ (fun hHeld => ?_)
  · ((try dsimp only); (try go_split_ands); refine ⟨?_, ?_, ?_, ?_, ?_, ?_, ?_, ?_, ?_, ?_, ?_, ?_, ?_, ?_, ?_, ?_, ?_, ?_, ?_, ?_⟩ <;> assumption)
  clear hK K
  try simp only [List.getElem_toArray, List.getElem_cons_succ, List.getElem_cons_zero, Act.put, List.setIfInBounds_toArray, List.set_cons_zero, List.set_cons_succ]
  refine wpAnyH_take (i := 8) (v := ?_) rfl (by kernel_rfl) (by kernel_rfl) (by kernel_rfl) (fun _ _ _ h => h) (Or.inl ⟨by rfl, ?_⟩) hHeld ?_
  rotate_left
  · intro w hSw
    (try dsimp only at hSw)
    go_simp
    all_goals with_reducible rfl
  try simp only [List.getElem_toArray, List.getElem_cons_succ, List.getElem_cons_zero, Act.put, List.setIfInBounds_toArray, List.set_cons_zero, List.set_cons_succ]
  refine wpAnyH_take (i := 9) (v := ?_) rfl (by kernel_rfl) (by kernel_rfl) (by kernel_rfl) (fun _ _ _ h => h) (Or.inl ⟨by rfl, ?_⟩) hHeld ?_
  rotate_left
  · intro w hSw
    (try dsimp only at hSw)
    go_simp
    all_goals with_reducible rfl
  try simp only [List.getElem_toArray, List.getElem_cons_succ, List.getElem_cons_zero, Act.put, List.setIfInBounds_toArray, List.set_cons_zero, List.set_cons_succ]
  refine wpAnyH_take (i := 10) (v := ?_) rfl (by kernel_rfl) (by kernel_rfl) (by kernel_rfl) (fun _ _ _ h => h) (Or.inl ⟨by rfl, ?_⟩) hHeld ?_
  rotate_left
  · intro w hSw
    (try dsimp only at hSw)
    go_simp
    all_goals with_reducible rfl
  try simp only [List.getElem_toArray, List.getElem_cons_succ, List.getElem_cons_zero, Act.put, List.setIfInBounds_toArray, List.set_cons_zero, List.set_cons_succ]
  refine wpAnyH_take (i := 11) (v := ?_) rfl (by kernel_rfl) (by kernel_rfl) (by kernel_rfl) (fun _ _ _ h => h) (Or.inl ⟨by rfl, ?_⟩) hHeld ?_
  rotate_left
  · intro w hSw
    (try dsimp only at hSw)
    go_simp
    all_goals with_reducible rfl
  try simp only [List.getElem_toArray, List.getElem_cons_succ, List.getElem_cons_zero, Act.put, List.setIfInBounds_toArray, List.set_cons_zero, List.set_cons_succ]
  refine wpAnyH_take (i := 12) (v := ?_) rfl (by kernel_rfl) (by kernel_rfl) (by kernel_rfl) (fun _ _ _ h => h) (Or.inl ⟨by rfl, ?_⟩) hHeld ?_
  rotate_left
  · intro w hSw
    (try dsimp only at hSw)
    go_simp
    all_goals with_reducible rfl
  try simp only [List.getElem_toArray, List.getElem_cons_succ, List.getElem_cons_zero, Act.put, List.setIfInBounds_toArray, List.set_cons_zero, List.set_cons_succ]
  refine wpAnyH_take (i := 13) (v := ?_) rfl (by kernel_rfl) (by kernel_rfl) (by kernel_rfl) (fun _ _ _ h => h) (Or.inl ⟨by rfl, ?_⟩) hHeld ?_
  rotate_left
  · intro w hSw
    (try dsimp only at hSw)
    go_simp
    all_goals with_reducible rfl
  try simp only [List.getElem_toArray, List.getElem_cons_succ, List.getElem_cons_zero, Act.put, List.setIfInBounds_toArray, List.set_cons_zero, List.set_cons_succ]
  refine wpAnyH_take (i := 14) (v := ?_) rfl (by kernel_rfl) (by kernel_rfl) (by kernel_rfl) (fun _ _ _ h => h) (Or.inl ⟨by rfl, ?_⟩) hHeld ?_
  rotate_left
  · intro w hSw
    (try dsimp only at hSw)
    go_simp
    all_goals with_reducible rfl
  try simp only [List.getElem_toArray, List.getElem_cons_succ, List.getElem_cons_zero, Act.put, List.setIfInBounds_toArray, List.set_cons_zero, List.set_cons_succ]
  refine wpAnyH_take (i := 15) (v := ?_) rfl (by kernel_rfl) (by kernel_rfl) (by kernel_rfl) (fun _ _ _ h => h) (Or.inl ⟨by rfl, ?_⟩) hHeld ?_
  rotate_left
  · intro w hSw
    (try dsimp only at hSw)
    go_simp
    all_goals with_reducible rfl
  try simp only [List.getElem_toArray, List.getElem_cons_succ, List.getElem_cons_zero, Act.put, List.setIfInBounds_toArray, List.set_cons_zero, List.set_cons_succ]
  refine wpAnyH_take (i := 16) (v := ?_) rfl (by kernel_rfl) (by kernel_rfl) (by kernel_rfl) (fun _ _ _ h => h) (Or.inl ⟨by rfl, ?_⟩) hHeld ?_
  rotate_left
  · intro w hSw
    (try dsimp only at hSw)
    go_simp
    all_goals with_reducible rfl
  try simp only [List.getElem_toArray, List.getElem_cons_succ, List.getElem_cons_zero, Act.put, List.setIfInBounds_toArray, List.set_cons_zero, List.set_cons_succ]
  refine wpAnyH_take (i := 17) (v := ?_) rfl (by kernel_rfl) (by kernel_rfl) (by kernel_rfl) (fun _ _ _ h => h) (Or.inl ⟨by rfl, ?_⟩) hHeld ?_
  rotate_left
  · intro w hSw
    (try dsimp only at hSw)
    go_simp
    all_goals with_reducible rfl
  try simp only [List.getElem_toArray, List.getElem_cons_succ, List.getElem_cons_zero, Act.put, List.setIfInBounds_toArray, List.set_cons_zero, List.set_cons_succ]
  refine wpAnyH_take (i := 18) (v := ?_) rfl (by kernel_rfl) (by kernel_rfl) (by kernel_rfl) (fun _ _ _ h => h) (Or.inl ⟨by rfl, ?_⟩) hHeld ?_
  rotate_left
  · intro w hSw
    (try dsimp only at hSw)
    go_simp
    all_goals with_reducible rfl
  try simp only [List.getElem_toArray, List.getElem_cons_succ, List.getElem_cons_zero, Act.put, List.setIfInBounds_toArray, List.set_cons_zero, List.set_cons_succ]
  refine wpAnyH_take (i := 19) (v := ?_) rfl (by kernel_rfl) (by kernel_rfl) (by kernel_rfl) (fun _ _ _ h => h) (Or.inl ⟨by rfl, ?_⟩) hHeld ?_
  rotate_left
  · intro w hSw
    (try dsimp only at hSw)
    go_simp
    all_goals with_reducible rfl
  try simp only [List.getElem_toArray, List.getElem_cons_succ, List.getElem_cons_zero, Act.put, List.setIfInBounds_toArray, List.set_cons_zero, List.set_cons_succ]
  refine wpAnyH_take (i := 20) (v := ?_) rfl (by kernel_rfl) (by kernel_rfl) (by kernel_rfl) (fun _ _ _ h => h) (Or.inl ⟨by rfl, ?_⟩) hHeld ?_
  rotate_left
  · intro w hSw
    (try dsimp only at hSw)
    go_simp
    all_goals with_reducible rfl
  try simp only [List.getElem_toArray, List.getElem_cons_succ, List.getElem_cons_zero, Act.put, List.setIfInBounds_toArray, List.set_cons_zero, List.set_cons_succ]
  refine wpAnyH_take (i := 21) (v := ?_) rfl (by kernel_rfl) (by kernel_rfl) (by kernel_rfl) (fun _ _ _ h => h) (Or.inl ⟨by rfl, ?_⟩) hHeld ?_
  rotate_left
  · intro w hSw
    (try dsimp only at hSw)
    go_simp
    all_goals with_reducible rfl
  try simp only [List.getElem_toArray, List.getElem_cons_succ, List.getElem_cons_zero, Act.put, List.setIfInBounds_toArray, List.set_cons_zero, List.set_cons_succ]
  refine wpAnyH_take (i := 22) (v := ?_) rfl (by kernel_rfl) (by kernel_rfl) (by kernel_rfl) (fun _ _ _ h => h) (Or.inl ⟨by rfl, ?_⟩) hHeld ?_
  rotate_left
  · intro w hSw
    (try dsimp only at hSw)
    go_simp
    all_goals with_reducible rfl
  try simp only [List.getElem_toArray, List.getElem_cons_succ, List.getElem_cons_zero, Act.put, List.setIfInBounds_toArray, List.set_cons_zero, List.set_cons_succ]
  refine wpAnyH_take (i := 24) (v := ?_) rfl (by kernel_rfl) (by kernel_rfl) (by kernel_rfl) (fun _ _ _ h => h) (Or.inl ⟨by rfl, ?_⟩) hHeld ?_
  rotate_left
  · intro w hSw
    (try dsimp only at hSw)
    go_simp
    all_goals with_reducible rfl
  try simp only [List.getElem_toArray, List.getElem_cons_succ, List.getElem_cons_zero, Act.put, List.setIfInBounds_toArray, List.set_cons_zero, List.set_cons_succ]
  refine wpAnyH_take (i := 25) (v := ?_) rfl (by kernel_rfl) (by kernel_rfl) (by kernel_rfl) (fun _ _ _ h => h) (Or.inl ⟨by rfl, ?_⟩) hHeld ?_
  rotate_left
  · intro w hSw
    (try dsimp only at hSw)
    go_simp
    all_goals with_reducible rfl
  try simp only [List.getElem_toArray, List.getElem_cons_succ, List.getElem_cons_zero, Act.put, List.setIfInBounds_toArray, List.set_cons_zero, List.set_cons_succ]
  refine wpAnyH_ready (rs := [23]) (by kernel_rfl) (by simp) ?_
  refine AllReadyH.cons rfl (fun K hK => ?_) AllReadyH.nil
  go_simp
  go_at_call 33
  with_reducible refine (tag_eq X3 _).mono ?_
  (try go_split_ands)
  rintro e wn ⟨rfl, hbn⟩
  replace f0 := keeps hbn f0
  replace f1 := keeps hbn f1
  replace f2 := keeps hbn f2
  replace f3 := keeps hbn f3
  replace f4 := keeps hbn f4
  replace f5 := keeps hbn f5
  replace f6 := keeps hbn f6
  replace f7 := keeps hbn f7
  replace f8 := keeps hbn f8
  replace f9 := keeps hbn f9
  replace f10 := keeps hbn f10
  replace f11 := keeps hbn f11
  replace f12 := keeps hbn f12
  replace f13 := keeps hbn f13
  replace f14 := keeps hbn f14
  replace f15 := keeps hbn f15
  replace f16 := keeps hbn f16
  replace f17 := keeps hbn f17
  replace f18 := keeps hbn f18
  replace f19 := keeps hbn f19
  replace KE := mkHid (KE.out.step hbn)
  clear hbn
  go_wp2_with fail
  refine hK.out _ _ ?_ (fun hHeld => ?_)
  · ((try dsimp only); (try go_split_ands); refine ⟨?_, ?_, ?_, ?_, ?_, ?_, ?_, ?_, ?_, ?_, ?_, ?_, ?_, ?_, ?_, ?_, ?_, ?_, ?_, ?_⟩ <;> assumption)
  clear hK K
  try simp only [List.getElem_toArray, List.getElem_cons_succ, List.getElem_cons_zero, Act.put, List.setIfInBounds_toArray, List.set_cons_zero, List.set_cons_succ]
  refine wpAnyH_ready (rs := [26]) (by kernel_rfl) (by simp) ?_
  refine AllReadyH.cons rfl (fun K hK => ?_) AllReadyH.nil
  go_simp
  go_at_call 38
  with_reducible refine (rtag_eq X3 _).mono ?_
  (try go_split_ands)
  rintro e wn ⟨rfl, hbn⟩
  replace f0 := keeps hbn f0
  replace f1 := keeps hbn f1
  replace f2 := keeps hbn f2
  replace f3 := keeps hbn f3
  replace f4 := keeps hbn f4
  replace f5 := keeps hbn f5
  replace f6 := keeps hbn f6
  replace f7 := keeps hbn f7
  replace f8 := keeps hbn f8
  replace f9 := keeps hbn f9
  replace f10 := keeps hbn f10
  replace f11 := keeps hbn f11
  replace f12 := keeps hbn f12
  replace f13 := keeps hbn f13
  replace f14 := keeps hbn f14
  replace f15 := keeps hbn f15
  replace f16 := keeps hbn f16
  replace f17 := keeps hbn f17
  replace f18 := keeps hbn f18
  replace f19 := keeps hbn f19
  replace KE := mkHid (KE.out.step hbn)
  clear hbn
  go_wp2_with fail
  refine hK.out _ _ ?_ (fun hHeld => ?_)
  · ((try dsimp only); (try go_split_ands); refine ⟨?_, ?_, ?_, ?_, ?_, ?_, ?_, ?_, ?_, ?_, ?_, ?_, ?_, ?_, ?_, ?_, ?_, ?_, ?_, ?_⟩ <;> assumption)
  clear hK K
  try simp only [List.getElem_toArray, List.getElem_cons_succ, List.getElem_cons_zero, Act.put, List.setIfInBounds_toArray, List.set_cons_zero, List.set_cons_succ]
  refine wpAnyH_take (i := 27) (v := ?_) rfl (by kernel_rfl) (by kernel_rfl) (by kernel_rfl) (fun _ _ _ h => h) (Or.inl ⟨by rfl, ?_⟩) hHeld ?_
  rotate_left
  · intro w hSw
    (try dsimp only at hSw)
    go_simp
    all_goals with_reducible rfl
  try simp only [List.getElem_toArray, List.getElem_cons_succ, List.getElem_cons_zero, Act.put, List.setIfInBounds_toArray, List.set_cons_zero, List.set_cons_succ]
  refine wpAnyH_take (i := 28) (v := ?_) rfl (by kernel_rfl) (by kernel_rfl) (by kernel_rfl) (fun _ _ _ h => h) (Or.inl ⟨by rfl, ?_⟩) hHeld ?_
  rotate_left
  · intro w hSw
    (try dsimp only at hSw)
    go_simp
    all_goals with_reducible rfl
  try simp only [List.getElem_toArray, List.getElem_cons_succ, List.getElem_cons_zero, Act.put, List.setIfInBounds_toArray, List.set_cons_zero, List.set_cons_succ]
  refine wpAnyH_take (i := 29) (v := ?_) rfl (by kernel_rfl) (by kernel_rfl) (by kernel_rfl) (fun _ _ _ h => h) (Or.inl ⟨by rfl, ?_⟩) hHeld ?_
  rotate_left
  · intro w hSw
    (try dsimp only at hSw)
    go_simp
    all_goals with_reducible rfl
  try simp only [List.getElem_toArray, List.getElem_cons_succ, List.getElem_cons_zero, Act.put, List.setIfInBounds_toArray, List.set_cons_zero, List.set_cons_succ]
  refine wpAnyH_take (i := 30) (v := ?_) rfl (by kernel_rfl) (by kernel_rfl) (by kernel_rfl) (fun _ _ _ h => h) (Or.inl ⟨by rfl, ?_⟩) hHeld ?_
  rotate_left
  · intro w hSw
    (try dsimp only at hSw)
    go_simp
    all_goals with_reducible rfl
  try simp only [List.getElem_toArray, List.getElem_cons_succ, List.getElem_cons_zero, Act.put, List.setIfInBounds_toArray, List.set_cons_zero, List.set_cons_succ]
  refine wpAnyH_take (i := 33) (v := ?_) rfl (by kernel_rfl) (by kernel_rfl) (by kernel_rfl) (fun _ _ _ h => h) (Or.inl ⟨by rfl, ?_⟩) hHeld ?_
  rotate_left
  · intro w hSw
    (try dsimp only at hSw)
    go_simp
    all_goals with_reducible rfl
  try simp only [List.getElem_toArray, List.getElem_cons_succ, List.getElem_cons_zero, Act.put, List.setIfInBounds_toArray, List.set_cons_zero, List.set_cons_succ]
  refine wpAnyH_ready (rs := [31]) (by kernel_rfl) (by simp) ?_
  refine AllReadyH.cons rfl (fun K hK => ?_) AllReadyH.nil
  go_simp
  go_at_call 39
  with_reducible refine (sealoct_any _).mono ?_
  (try go_split_ands)
  rintro e wn ⟨gg, cn, hcn, hO, rfl, hbn⟩
  replace f0 := keeps hbn f0
  replace f1 := keeps hbn f1
  replace f2 := keeps hbn f2
  replace f3 := keeps hbn f3
  replace f4 := keeps hbn f4
  replace f5 := keeps hbn f5
  replace f6 := keeps hbn f6
  replace f7 := keeps hbn f7
  replace f8 := keeps hbn f8
  replace f9 := keeps hbn f9
  replace f10 := keeps hbn f10
  replace f11 := keeps hbn f11
  replace f12 := keeps hbn f12
  replace f13 := keeps hbn f13
  replace f14 := keeps hbn f14
  replace f15 := keeps hbn f15
  replace f16 := keeps hbn f16
  replace f17 := keeps hbn f17
  replace f18 := keeps hbn f18
  replace f19 := keeps hbn f19
  replace KE := mkHid (KE.out.step hbn)
  have cv1 := str_conv L32.out cn hO
  have HO := mkHid hO
  clear hO hcn
  clear hbn
  go_wp2_with fail
  refine hK.out _ _ ?_ (fun hHeld => ?_)
  · ((try dsimp only); (try go_split_ands); refine ⟨?_, ?_, ?_, ?_, ?_, ?_, ?_, ?_, ?_, ?_, ?_, ?_, ?_, ?_, ?_, ?_, ?_, ?_, ?_, ?_⟩ <;> assumption)
  clear hK K
  try simp only [List.getElem_toArray, List.getElem_cons_succ, List.getElem_cons_zero, Act.put, List.setIfInBounds_toArray, List.set_cons_zero, List.set_cons_succ]
  refine wpAnyH_ready (rs := [32, 34]) (by kernel_rfl) (by simp) ?_
  refine AllReadyH.cons rfl (fun K hK => ?_) (AllReadyH.cons rfl (fun K hK => ?_) AllReadyH.nil)
  · go_simp
    refine hK.out _ _ ?_ (fun hHeld => ?_)
    · ((try dsimp only); (try go_split_ands); refine ⟨?_, ?_, ?_, ?_, ?_, ?_, ?_, ?_, ?_, ?_, ?_, ?_, ?_, ?_, ?_, ?_, ?_, ?_, ?_, ?_⟩ <;> assumption)
    clear hK K
    try simp only [List.getElem_toArray, List.getElem_cons_succ, List.getElem_cons_zero, Act.put, List.setIfInBounds_toArray, List.set_cons_zero, List.set_cons_succ]
    refine wpAnyH_ready (rs := [34]) (by kernel_rfl) (by simp) ?_
    refine AllReadyH.cons rfl (fun K hK => ?_) AllReadyH.nil
    go_simp
    go_at_call 40
    with_reducible refine (rsealoct_any _).mono ?_
    (try go_split_ands)
    rintro e wn ⟨g2, cp, _, hY, rfl, hbn⟩
    replace f0 := keeps hbn f0
    replace f1 := keeps hbn f1
    replace f2 := keeps hbn f2
    replace f3 := keeps hbn f3
    replace f4 := keeps hbn f4
    replace f5 := keeps hbn f5
    replace f6 := keeps hbn f6
    replace f7 := keeps hbn f7
    replace f8 := keeps hbn f8
    replace f9 := keeps hbn f9
    replace f10 := keeps hbn f10
    replace f11 := keeps hbn f11
    replace f12 := keeps hbn f12
    replace f13 := keeps hbn f13
    replace f14 := keeps hbn f14
    replace f15 := keeps hbn f15
    replace f16 := keeps hbn f16
    replace f17 := keeps hbn f17
    replace f18 := keeps hbn f18
    replace f19 := keeps hbn f19
    replace KE := mkHid (KE.out.step hbn)
    have cv2 := str_conv L32.out cp hY
    clear cv1
    have cv1 := str_conv L32.out cn (HO.out.below hbn)
    clear hY
    clear hbn
    go_wp2_with fail
    refine hK.out _ _ ?_ (fun hHeld => ?_)
    · ((try dsimp only); (try go_split_ands); refine ⟨?_, ?_, ?_, ?_, ?_, ?_, ?_, ?_, ?_, ?_, ?_, ?_, ?_, ?_, ?_, ?_, ?_, ?_, ?_, ?_⟩ <;> assumption)
    clear hK K
    try simp only [List.getElem_toArray, List.getElem_cons_succ, List.getElem_cons_zero, Act.put, List.setIfInBounds_toArray, List.set_cons_zero, List.set_cons_succ]
    refine wpAnyH_ready (rs := [35]) (by kernel_rfl) (by simp) ?_
    refine AllReadyH.cons rfl (fun K hK => ?_) AllReadyH.nil
    go_simp
    refine hK.out _ _ ?_ (fun hHeld => ?_)
    · ((try dsimp only); (try go_split_ands); refine ⟨?_, ?_, ?_, ?_, ?_, ?_, ?_, ?_, ?_, ?_, ?_, ?_, ?_, ?_, ?_, ?_, ?_, ?_, ?_, ?_⟩ <;> assumption)
    clear hK K
    try simp only [List.getElem_toArray, List.getElem_cons_succ, List.getElem_cons_zero, Act.put, List.setIfInBounds_toArray, List.set_cons_zero, List.set_cons_succ]
    refine wpAnyH_take (i := 36) (v := ?_) rfl (by kernel_rfl) (by kernel_rfl) (by kernel_rfl) (fun _ _ _ h => h) (Or.inl ⟨by rfl, ?_⟩) hHeld ?_
    rotate_left
    · intro w hSw
      (try dsimp only at hSw)
      go_simp
      all_goals with_reducible rfl
    try simp only [List.getElem_toArray, List.getElem_cons_succ, List.getElem_cons_zero, Act.put, List.setIfInBounds_toArray, List.set_cons_zero, List.set_cons_succ]
    refine wpAnyH_take (i := 37) (v := ?_) rfl (by kernel_rfl) (by kernel_rfl) (by kernel_rfl) (fun _ _ _ h => h) (Or.inl ⟨by rfl, ?_⟩) hHeld ?_
    rotate_left
    · intro w hSw
      (try dsimp only at hSw)
      go_simp
      all_goals with_reducible rfl
    try simp only [List.getElem_toArray, List.getElem_cons_succ, List.getElem_cons_zero, Act.put, List.setIfInBounds_toArray, List.set_cons_zero, List.set_cons_succ]
    refine wpAnyH_take (i := 38) (v := ?_) rfl (by kernel_rfl) (by kernel_rfl) (by kernel_rfl) (fun _ _ _ h => h) (Or.inl ⟨by rfl, ?_⟩) hHeld ?_
    rotate_left
    · intro w hSw
      (try dsimp only at hSw)
      go_simp
      all_goals with_reducible rfl
    try simp only [List.getElem_toArray, List.getElem_cons_succ, List.getElem_cons_zero, Act.put, List.setIfInBounds_toArray, List.set_cons_zero, List.set_cons_succ]
    refine wpAnyH_take (i := 39) (v := ?_) rfl (by kernel_rfl) (by kernel_rfl) (by kernel_rfl) (fun _ _ _ h => h) (Or.inl ⟨by rfl, ?_⟩) hHeld ?_
    rotate_left
    · intro w hSw
      (try dsimp only at hSw)
      go_simp
      all_goals with_reducible rfl
    try simp only [List.getElem_toArray, List.getElem_cons_succ, List.getElem_cons_zero, Act.put, List.setIfInBounds_toArray, List.set_cons_zero, List.set_cons_succ]
    refine wpAnyH_take (i := 40) (v := ?_) rfl (by kernel_rfl) (by kernel_rfl) (by kernel_rfl) (fun _ _ _ h => h) (Or.inl ⟨by rfl, ?_⟩) hHeld ?_
    rotate_left
    · intro w hSw
      (try dsimp only at hSw)
      go_simp
      all_goals with_reducible rfl
    try simp only [List.getElem_toArray, List.getElem_cons_succ, List.getElem_cons_zero, Act.put, List.setIfInBounds_toArray, List.set_cons_zero, List.set_cons_succ]
    refine wpAnyH_take (i := 41) (v := ?_) rfl (by kernel_rfl) (by kernel_rfl) (by kernel_rfl) (fun _ _ _ h => h) (Or.inl ⟨by rfl, ?_⟩) hHeld ?_
    rotate_left
    · intro w hSw
      (try dsimp only at hSw)
      go_simp
      all_goals with_reducible rfl
    try simp only [List.getElem_toArray, List.getElem_cons_succ, List.getElem_cons_zero, Act.put, List.setIfInBounds_toArray, List.set_cons_zero, List.set_cons_succ]
    refine wpAnyH_take (i := 42) (v := ?_) rfl (by kernel_rfl) (by kernel_rfl) (by kernel_rfl) (fun _ _ _ h => h) (Or.inl ⟨by rfl, ?_⟩) hHeld ?_
    rotate_left
    · intro w hSw
      (try dsimp only at hSw)
      go_simp
      all_goals with_reducible rfl
    try simp only [List.getElem_toArray, List.getElem_cons_succ, List.getElem_cons_zero, Act.put, List.setIfInBounds_toArray, List.set_cons_zero, List.set_cons_succ]
    refine wpAnyH_take (i := 43) (v := ?_) rfl (by kernel_rfl) (by kernel_rfl) (by kernel_rfl) (fun _ _ _ h => h) (Or.inl ⟨by rfl, ?_⟩) hHeld ?_
    rotate_left
    · intro w hSw
      (try dsimp only at hSw)
      go_simp
      all_goals with_reducible rfl
    try simp only [List.getElem_toArray, List.getElem_cons_succ, List.getElem_cons_zero, Act.put, List.setIfInBounds_toArray, List.set_cons_zero, List.set_cons_succ]
    refine wpAnyH_take (i := 44) (v := ?_) rfl (by kernel_rfl) (by kernel_rfl) (by kernel_rfl) (fun _ _ _ h => h) (Or.inl ⟨by rfl, ?_⟩) hHeld ?_
    rotate_left
    · intro w hSw
      (try dsimp only at hSw)
      go_simp
      all_goals with_reducible rfl
    try simp only [List.getElem_toArray, List.getElem_cons_succ, List.getElem_cons_zero, Act.put, List.setIfInBounds_toArray, List.set_cons_zero, List.set_cons_succ]
    refine wpAnyH_take (i := 45) (v := ?_) rfl (by kernel_rfl) (by kernel_rfl) (by kernel_rfl) (fun _ _ _ h => h) (Or.inl ⟨by rfl, ?_⟩) hHeld ?_
    rotate_left
    · intro w hSw
      (try dsimp only at hSw)
      go_simp
      all_goals with_reducible rfl
    try simp only [List.getElem_toArray, List.getElem_cons_succ, List.getElem_cons_zero, Act.put, List.setIfInBounds_toArray, List.set_cons_zero, List.set_cons_succ]
    refine wpAnyH_take (i := 46) (v := ?_) rfl (by kernel_rfl) (by kernel_rfl) (by kernel_rfl) (fun _ _ _ h => h) (Or.inl ⟨by rfl, ?_⟩) hHeld ?_
    rotate_left
    · intro w hSw
      (try dsimp only at hSw)
      go_simp
      all_goals with_reducible rfl
    try simp only [List.getElem_toArray, List.getElem_cons_succ, List.getElem_cons_zero, Act.put, List.setIfInBounds_toArray, List.set_cons_zero, List.set_cons_succ]
    refine wpAnyH_take (i := 47) (v := ?_) rfl (by kernel_rfl) (by kernel_rfl) (by kernel_rfl) (fun _ _ _ h => h) (Or.inl ⟨by rfl, ?_⟩) hHeld ?_
    rotate_left
    · intro w hSw
      (try dsimp only at hSw)
      go_simp
      all_goals with_reducible rfl
    try simp only [List.getElem_toArray, List.getElem_cons_succ, List.getElem_cons_zero, Act.put, List.setIfInBounds_toArray, List.set_cons_zero, List.set_cons_succ]
    refine wpAnyH_take (i := 48) (v := ?_) rfl (by kernel_rfl) (by kernel_rfl) (by kernel_rfl) (fun _ _ _ h => h) (Or.inl ⟨by rfl, ?_⟩) hHeld ?_
    rotate_left
    · intro w hSw
      (try dsimp only at hSw)
      go_simp
      all_goals with_reducible rfl
    try simp only [List.getElem_toArray, List.getElem_cons_succ, List.getElem_cons_zero, Act.put, List.setIfInBounds_toArray, List.set_cons_zero, List.set_cons_succ]
    refine wpAnyH_done (by kernel_rfl) ?_ _
    go_wp2_with fail
    go_ret
    exact ⟨rfl, KE.out⟩
  · go_simp
    go_at_call 40
    with_reducible refine (rsealoct_any _).mono ?_
    (try go_split_ands)
    rintro e wn ⟨g2, cp, _, hY, rfl, hbn⟩
    replace f0 := keeps hbn f0
    replace f1 := keeps hbn f1
    replace f2 := keeps hbn f2
    replace f3 := keeps hbn f3
    replace f4 := keeps hbn f4
    replace f5 := keeps hbn f5
    replace f6 := keeps hbn f6
    replace f7 := keeps hbn f7
    replace f8 := keeps hbn f8
    replace f9 := keeps hbn f9
    replace f10 := keeps hbn f10
    replace f11 := keeps hbn f11
    replace f12 := keeps hbn f12
    replace f13 := keeps hbn f13
    replace f14 := keeps hbn f14
    replace f15 := keeps hbn f15
    replace f16 := keeps hbn f16
    replace f17 := keeps hbn f17
    replace f18 := keeps hbn f18
    replace f19 := keeps hbn f19
    replace KE := mkHid (KE.out.step hbn)
    have cv2 := str_conv L32.out cp hY
    clear cv1
    have cv1 := str_conv L32.out cn (HO.out.below hbn)
    clear hY
    clear hbn
    go_wp2_with fail
    refine hK.out _ _ ?_ (fun hHeld => ?_)
    · ((try dsimp only); (try go_split_ands); refine ⟨?_, ?_, ?_, ?_, ?_, ?_, ?_, ?_, ?_, ?_, ?_, ?_, ?_, ?_, ?_, ?_, ?_, ?_, ?_, ?_⟩ <;> assumption)
    clear hK K
    try simp only [List.getElem_toArray, List.getElem_cons_succ, List.getElem_cons_zero, Act.put, List.setIfInBounds_toArray, List.set_cons_zero, List.set_cons_succ]
    refine wpAnyH_ready (rs := [32, 35]) (by kernel_rfl) (by simp) ?_
    refine AllReadyH.cons rfl (fun K hK => ?_) (AllReadyH.cons rfl (fun K hK => ?_) AllReadyH.nil)
    · go_simp
      refine hK.out _ _ ?_ (fun hHeld => ?_)
      · ((try dsimp only); (try go_split_ands); refine ⟨?_, ?_, ?_, ?_, ?_, ?_, ?_, ?_, ?_, ?_, ?_, ?_, ?_, ?_, ?_, ?_, ?_, ?_, ?_, ?_⟩ <;> assumption)
      clear hK K
      try simp only [List.getElem_toArray, List.getElem_cons_succ, List.getElem_cons_zero, Act.put, List.setIfInBounds_toArray, List.set_cons_zero, List.set_cons_succ]
      refine wpAnyH_ready (rs := [35]) (by kernel_rfl) (by simp) ?_
      refine AllReadyH.cons rfl (fun K hK => ?_) AllReadyH.nil
      go_simp
      refine hK.out _ _ ?_ (fun hHeld => ?_)
      · ((try dsimp only); (try go_split_ands); refine ⟨?_, ?_, ?_, ?_, ?_, ?_, ?_, ?_, ?_, ?_, ?_, ?_, ?_, ?_, ?_, ?_, ?_, ?_, ?_, ?_⟩ <;> assumption)
      clear hK K
      try simp only [List.getElem_toArray, List.getElem_cons_succ, List.getElem_cons_zero, Act.put, List.setIfInBounds_toArray, List.set_cons_zero, List.set_cons_succ]
      refine wpAnyH_take (i := 36) (v := ?_) rfl (by kernel_rfl) (by kernel_rfl) (by kernel_rfl) (fun _ _ _ h => h) (Or.inl ⟨by rfl, ?_⟩) hHeld ?_
      rotate_left
      · intro w hSw
        (try dsimp only at hSw)
        go_simp
        all_goals with_reducible rfl
      try simp only [List.getElem_toArray, List.getElem_cons_succ, List.getElem_cons_zero, Act.put, List.setIfInBounds_toArray, List.set_cons_zero, List.set_cons_succ]
      refine wpAnyH_take (i := 37) (v := ?_) rfl (by kernel_rfl) (by kernel_rfl) (by kernel_rfl) (fun _ _ _ h => h) (Or.inl ⟨by rfl, ?_⟩) hHeld ?_
      rotate_left
      · intro w hSw
        (try dsimp only at hSw)
        go_simp
        all_goals with_reducible rfl
      try simp only [List.getElem_toArray, List.getElem_cons_succ, List.getElem_cons_zero, Act.put, List.setIfInBounds_toArray, List.set_cons_zero, List.set_cons_succ]
      refine wpAnyH_take (i := 38) (v := ?_) rfl (by kernel_rfl) (by kernel_rfl) (by kernel_rfl) (fun _ _ _ h => h) (Or.inl ⟨by rfl, ?_⟩) hHeld ?_
      rotate_left
      · intro w hSw
        (try dsimp only at hSw)
        go_simp
        all_goals with_reducible rfl
      try simp only [List.getElem_toArray, List.getElem_cons_succ, List.getElem_cons_zero, Act.put, List.setIfInBounds_toArray, List.set_cons_zero, List.set_cons_succ]
      refine wpAnyH_take (i := 39) (v := ?_) rfl (by kernel_rfl) (by kernel_rfl) (by kernel_rfl) (fun _ _ _ h => h) (Or.inl ⟨by rfl, ?_⟩) hHeld ?_
      rotate_left
      · intro w hSw
        (try dsimp only at hSw)
        go_simp
        all_goals with_reducible rfl
      try simp only [List.getElem_toArray, List.getElem_cons_succ, List.getElem_cons_zero, Act.put, List.setIfInBounds_toArray, List.set_cons_zero, List.set_cons_succ]
      refine wpAnyH_take (i := 40) (v := ?_) rfl (by kernel_rfl) (by kernel_rfl) (by kernel_rfl) (fun _ _ _ h => h) (Or.inl ⟨by rfl, ?_⟩) hHeld ?_
      rotate_left
      · intro w hSw
        (try dsimp only at hSw)
        go_simp
        all_goals with_reducible rfl
      try simp only [List.getElem_toArray, List.getElem_cons_succ, List.getElem_cons_zero, Act.put, List.setIfInBounds_toArray, List.set_cons_zero, List.set_cons_succ]
      refine wpAnyH_take (i := 41) (v := ?_) rfl (by kernel_rfl) (by kernel_rfl) (by kernel_rfl) (fun _ _ _ h => h) (Or.inl ⟨by rfl, ?_⟩) hHeld ?_
      rotate_left
      · intro w hSw
        (try dsimp only at hSw)
        go_simp
        all_goals with_reducible rfl
      try simp only [List.getElem_toArray, List.getElem_cons_succ, List.getElem_cons_zero, Act.put, List.setIfInBounds_toArray, List.set_cons_zero, List.set_cons_succ]
      refine wpAnyH_take (i := 42) (v := ?_) rfl (by kernel_rfl) (by kernel_rfl) (by kernel_rfl) (fun _ _ _ h => h) (Or.inl ⟨by rfl, ?_⟩) hHeld ?_
      rotate_left
      · intro w hSw
        (try dsimp only at hSw)
        go_simp
        all_goals with_reducible rfl
      try simp only [List.getElem_toArray, List.getElem_cons_succ, List.getElem_cons_zero, Act.put, List.setIfInBounds_toArray, List.set_cons_zero, List.set_cons_succ]
      refine wpAnyH_take (i := 43) (v := ?_) rfl (by kernel_rfl) (by kernel_rfl) (by kernel_rfl) (fun _ _ _ h => h) (Or.inl ⟨by rfl, ?_⟩) hHeld ?_
      rotate_left
      · intro w hSw
        (try dsimp only at hSw)
        go_simp
        all_goals with_reducible rfl
      try simp only [List.getElem_toArray, List.getElem_cons_succ, List.getElem_cons_zero, Act.put, List.setIfInBounds_toArray, List.set_cons_zero, List.set_cons_succ]
      refine wpAnyH_take (i := 44) (v := ?_) rfl (by kernel_rfl) (by kernel_rfl) (by kernel_rfl) (fun _ _ _ h => h) (Or.inl ⟨by rfl, ?_⟩) hHeld ?_
      rotate_left
      · intro w hSw
        (try dsimp only at hSw)
        go_simp
        all_goals with_reducible rfl
      try simp only [List.getElem_toArray, List.getElem_cons_succ, List.getElem_cons_zero, Act.put, List.setIfInBounds_toArray, List.set_cons_zero, List.set_cons_succ]
      refine wpAnyH_take (i := 45) (v := ?_) rfl (by kernel_rfl) (by kernel_rfl) (by kernel_rfl) (fun _ _ _ h => h) (Or.inl ⟨by rfl, ?_⟩) hHeld ?_
      rotate_left
      · intro w hSw
        (try dsimp only at hSw)
        go_simp
        all_goals with_reducible rfl
      try simp only [List.getElem_toArray, List.getElem_cons_succ, List.getElem_cons_zero, Act.put, List.setIfInBounds_toArray, List.set_cons_zero, List.set_cons_succ]
      refine wpAnyH_take (i := 46) (v := ?_) rfl (by kernel_rfl) (by kernel_rfl) (by kernel_rfl) (fun _ _ _ h => h) (Or.inl ⟨by rfl, ?_⟩) hHeld ?_
      rotate_left
      · intro w hSw
        (try dsimp only at hSw)
        go_simp
        all_goals with_reducible rfl
      try simp only [List.getElem_toArray, List.getElem_cons_succ, List.getElem_cons_zero, Act.put, List.setIfInBounds_toArray, List.set_cons_zero, List.set_cons_succ]
      refine wpAnyH_take (i := 47) (v := ?_) rfl (by kernel_rfl) (by kernel_rfl) (by kernel_rfl) (fun _ _ _ h => h) (Or.inl ⟨by rfl, ?_⟩) hHeld ?_
      rotate_left
      · intro w hSw
        (try dsimp only at hSw)
        go_simp
        all_goals with_reducible rfl
      try simp only [List.getElem_toArray, List.getElem_cons_succ, List.getElem_cons_zero, Act.put, List.setIfInBounds_toArray, List.set_cons_zero, List.set_cons_succ]
      refine wpAnyH_take (i := 48) (v := ?_) rfl (by kernel_rfl) (by kernel_rfl) (by kernel_rfl) (fun _ _ _ h => h) (Or.inl ⟨by rfl, ?_⟩) hHeld ?_
      rotate_left
      · intro w hSw
        (try dsimp only at hSw)
        go_simp
        all_goals with_reducible rfl
      try simp only [List.getElem_toArray, List.getElem_cons_succ, List.getElem_cons_zero, Act.put, List.setIfInBounds_toArray, List.set_cons_zero, List.set_cons_succ]
      refine wpAnyH_done (by kernel_rfl) ?_ _
      go_wp2_with fail
      go_ret
      exact ⟨rfl, KE.out⟩
    · go_simp
      refine hK.out _ _ ?_ (fun hHeld => ?_)
      · ((try dsimp only); (try go_split_ands); refine ⟨?_, ?_, ?_, ?_, ?_, ?_, ?_, ?_, ?_, ?_, ?_, ?_, ?_, ?_, ?_, ?_, ?_, ?_, ?_, ?_⟩ <;> assumption)
      clear hK K
      try simp only [List.getElem_toArray, List.getElem_cons_succ, List.getElem_cons_zero, Act.put, List.setIfInBounds_toArray, List.set_cons_zero, List.set_cons_succ]
      refine wpAnyH_ready (rs := [32]) (by kernel_rfl) (by simp) ?_
      refine AllReadyH.cons rfl (fun K hK => ?_) AllReadyH.nil
      go_simp
      refine hK.out _ _ ?_ (fun hHeld => ?_)
      · ((try dsimp only); (try go_split_ands); refine ⟨?_, ?_, ?_, ?_, ?_, ?_, ?_, ?_, ?_, ?_, ?_, ?_, ?_, ?_, ?_, ?_, ?_, ?_, ?_, ?_⟩ <;> assumption)
      clear hK K
      try simp only [List.getElem_toArray, List.getElem_cons_succ, List.getElem_cons_zero, Act.put, List.setIfInBounds_toArray, List.set_cons_zero, List.set_cons_succ]
      refine wpAnyH_take (i := 36) (v := ?_) rfl (by kernel_rfl) (by kernel_rfl) (by kernel_rfl) (fun _ _ _ h => h) (Or.inl ⟨by rfl, ?_⟩) hHeld ?_
      rotate_left
      · intro w hSw
        (try dsimp only at hSw)
        go_simp
        all_goals with_reducible rfl
      try simp only [List.getElem_toArray, List.getElem_cons_succ, List.getElem_cons_zero, Act.put, List.setIfInBounds_toArray, List.set_cons_zero, List.set_cons_succ]
      refine wpAnyH_take (i := 37) (v := ?_) rfl (by kernel_rfl) (by kernel_rfl) (by kernel_rfl) (fun _ _ _ h => h) (Or.inl ⟨by rfl, ?_⟩) hHeld ?_
      rotate_left
      · intro w hSw
        (try dsimp only at hSw)
        go_simp
        all_goals with_reducible rfl
      try simp only [List.getElem_toArray, List.getElem_cons_succ, List.getElem_cons_zero, Act.put, List.setIfInBounds_toArray, List.set_cons_zero, List.set_cons_succ]
      refine wpAnyH_take (i := 38) (v := ?_) rfl (by kernel_rfl) (by kernel_rfl) (by kernel_rfl) (fun _ _ _ h => h) (Or.inl ⟨by rfl, ?_⟩) hHeld ?_
      rotate_left
      · intro w hSw
        (try dsimp only at hSw)
        go_simp
        all_goals with_reducible rfl
      try simp only [List.getElem_toArray, List.getElem_cons_succ, List.getElem_cons_zero, Act.put, List.setIfInBounds_toArray, List.set_cons_zero, List.set_cons_succ]
      refine wpAnyH_take (i := 39) (v := ?_) rfl (by kernel_rfl) (by kernel_rfl) (by kernel_rfl) (fun _ _ _ h => h) (Or.inl ⟨by rfl, ?_⟩) hHeld ?_
      rotate_left
      · intro w hSw
        (try dsimp only at hSw)
        go_simp
        all_goals with_reducible rfl
      try simp only [List.getElem_toArray, List.getElem_cons_succ, List.getElem_cons_zero, Act.put, List.setIfInBounds_toArray, List.set_cons_zero, List.set_cons_succ]
      refine wpAnyH_take (i := 40) (v := ?_) rfl (by kernel_rfl) (by kernel_rfl) (by kernel_rfl) (fun _ _ _ h => h) (Or.inl ⟨by rfl, ?_⟩) hHeld ?_
      rotate_left
      · intro w hSw
        (try dsimp only at hSw)
        go_simp
        all_goals with_reducible rfl
      try simp only [List.getElem_toArray, List.getElem_cons_succ, List.getElem_cons_zero, Act.put, List.setIfInBounds_toArray, List.set_cons_zero, List.set_cons_succ]
      refine wpAnyH_take (i := 41) (v := ?_) rfl (by kernel_rfl) (by kernel_rfl) (by kernel_rfl) (fun _ _ _ h => h) (Or.inl ⟨by rfl, ?_⟩) hHeld ?_
      rotate_left
      · intro w hSw
        (try dsimp only at hSw)
        go_simp
        all_goals with_reducible rfl
      try simp only [List.getElem_toArray, List.getElem_cons_succ, List.getElem_cons_zero, Act.put, List.setIfInBounds_toArray, List.set_cons_zero, List.set_cons_succ]
      refine wpAnyH_take (i := 42) (v := ?_) rfl (by kernel_rfl) (by kernel_rfl) (by kernel_rfl) (fun _ _ _ h => h) (Or.inl ⟨by rfl, ?_⟩) hHeld ?_
      rotate_left
      · intro w hSw
        (try dsimp only at hSw)
        go_simp
        all_goals with_reducible rfl
      try simp only [List.getElem_toArray, List.getElem_cons_succ, List.getElem_cons_zero, Act.put, List.setIfInBounds_toArray, List.set_cons_zero, List.set_cons_succ]
      refine wpAnyH_take (i := 43) (v := ?_) rfl (by kernel_rfl) (by kernel_rfl) (by kernel_rfl) (fun _ _ _ h => h) (Or.inl ⟨by rfl, ?_⟩) hHeld ?_
      rotate_left
      · intro w hSw
        (try dsimp only at hSw)
        go_simp
        all_goals with_reducible rfl
      try simp only [List.getElem_toArray, List.getElem_cons_succ, List.getElem_cons_zero, Act.put, List.setIfInBounds_toArray, List.set_cons_zero, List.set_cons_succ]
      refine wpAnyH_take (i := 44) (v := ?_) rfl (by kernel_rfl) (by kernel_rfl) (by kernel_rfl) (fun _ _ _ h => h) (Or.inl ⟨by rfl, ?_⟩) hHeld ?_
      rotate_left
      · intro w hSw
        (try dsimp only at hSw)
        go_simp
        all_goals with_reducible rfl
      try simp only [List.getElem_toArray, List.getElem_cons_succ, List.getElem_cons_zero, Act.put, List.setIfInBounds_toArray, List.set_cons_zero, List.set_cons_succ]
      refine wpAnyH_take (i := 45) (v := ?_) rfl (by kernel_rfl) (by kernel_rfl) (by kernel_rfl) (fun _ _ _ h => h) (Or.inl ⟨by rfl, ?_⟩) hHeld ?_
      rotate_left
      · intro w hSw
        (try dsimp only at hSw)
        go_simp
        all_goals with_reducible rfl
      try simp only [List.getElem_toArray, List.getElem_cons_succ, List.getElem_cons_zero, Act.put, List.setIfInBounds_toArray, List.set_cons_zero, List.set_cons_succ]
      refine wpAnyH_take (i := 46) (v := ?_) rfl (by kernel_rfl) (by kernel_rfl) (by kernel_rfl) (fun _ _ _ h => h) (Or.inl ⟨by rfl, ?_⟩) hHeld ?_
      rotate_left
      · intro w hSw
        (try dsimp only at hSw)
        go_simp
        all_goals with_reducible rfl
      try simp only [List.getElem_toArray, List.getElem_cons_succ, List.getElem_cons_zero, Act.put, List.setIfInBounds_toArray, List.set_cons_zero, List.set_cons_succ]
      refine wpAnyH_take (i := 47) (v := ?_) rfl (by kernel_rfl) (by kernel_rfl) (by kernel_rfl) (fun _ _ _ h => h) (Or.inl ⟨by rfl, ?_⟩) hHeld ?_
      rotate_left
      · intro w hSw
        (try dsimp only at hSw)
        go_simp
        all_goals with_reducible rfl
      try simp only [List.getElem_toArray, List.getElem_cons_succ, List.getElem_cons_zero, Act.put, List.setIfInBounds_toArray, List.set_cons_zero, List.set_cons_succ]
      refine wpAnyH_take (i := 48) (v := ?_) rfl (by kernel_rfl) (by kernel_rfl) (by kernel_rfl) (fun _ _ _ h => h) (Or.inl ⟨by rfl, ?_⟩) hHeld ?_
      rotate_left
      · intro w hSw
        (try dsimp only at hSw)
        go_simp
        all_goals with_reducible rfl
      try simp only [List.getElem_toArray, List.getElem_cons_succ, List.getElem_cons_zero, Act.put, List.setIfInBounds_toArray, List.set_cons_zero, List.set_cons_succ]
      refine wpAnyH_done (by kernel_rfl) ?_ _
      go_wp2_with fail
      go_ret
      exact ⟨rfl, KE.out⟩
end Go.Proofs.Ytdaodopeodheeaa
