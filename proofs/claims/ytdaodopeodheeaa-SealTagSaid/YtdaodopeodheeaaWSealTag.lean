/- The walk of SealTag: the Go text answers true and writes nothing that was there. -/
import Derived.Test.YtdaodopeodheeaaLive04
import Derived.Deep.DeepCutAuto
import Derived.Deep.RegionHeld3
namespace Go.Proofs.Ytdaodopeodheeaa
open Go.RowKit

theorem hide_xor {k a b x y : BitVec 64 × BitVec 64} (hx : hideB k a = x) (hy : hideB k b = y) : xorB x y = xorB a b := by
  subst hx hy
  unfold hideB xorB
  dsimp only
  apply Prod.ext <;> dsimp only
  · rw [BitVec.xor_assoc, BitVec.xor_comm (partB 3 k).1, xor_xor_cancel]
  · rw [BitVec.xor_assoc, BitVec.xor_comm (partB 3 k).2, xor_xor_cancel]

set_option maxRecDepth 100000 in
set_option maxHeartbeats 2000000 in
theorem walk_SealTag_yes {k0 k1 a0 a1 b0 b1 x0 x1 u0 u1 : BitVec 64} (X1 : Hid (hideB (k0, k1) (a0, a1) = (x0, x1))) (X2 : Hid (tagB (k0, k1) (x0, x1) = (u0, u1))) (w : World) :
    Calls Try.prog 11 #[.agg #[.int .u64 (U k0), .int .u64 (U k1)], .agg #[.int .u64 (U a0), .int .u64 (U a1)], .agg #[.int .u64 (U b0), .int .u64 (U b1)], .agg #[.int .u64 (U u0), .int .u64 (U u1)]] w fun e w' => e = .returned (.bool true) ∧ Below w.heap.size w w' := by
  have hq := eq_blocks
  have hq4 := eq_sealed
  obtain ⟨y0, y1, hy⟩ := pair_ex (hideB (k0, k1) (b0, b1))
  obtain ⟨v0, v1, hv⟩ := pair_ex (tagB (k0, k1) (y0, y1))
  obtain ⟨s0, s1, hs⟩ := pair_ex (xorB (a0, a1) (b0, b1))
  have S0 : Hid (U (a0 ^^^ b0) = U s0) := mkHid (congrArg U (congrArg Prod.fst hs))
  have S1 : Hid (U (a1 ^^^ b1) = U s1) := mkHid (congrArg U (congrArg Prod.snd hs))
  have T0 : Hid (U (x0 ^^^ y0) = U s0) := mkHid (by rw [← S0.out]; exact congrArg U (congrArg Prod.fst (hide_xor X1.out hy)))
  have T1 : Hid (U (x1 ^^^ y1) = U s1) := mkHid (by rw [← S1.out]; exact congrArg U (congrArg Prod.snd (hide_xor X1.out hy)))
  have Y1 := mkHid hy
  have Y2 := mkHid hv
  have XB : Hid (hideB (k0, k1) (x0, x1) = (a0, a1)) := mkHid (by rw [← X1.out, hide_back])
  clear hy hv hs
  go_enter Try.func11, Try.ntmps11
  go_wp2_with fail
  refine (live04 _).mono ?_
  rintro e w1 ⟨rfl, hb1⟩
  have bK := Blk.keep (n := w.heap.size) (t := 24) (cs := #[.int .u64 (U k0), .int .u64 (U k1)]) (by repeat' first | with_reducible refine Blk.drew ?_ | (with_reducible refine Blk.at _ _ _ ?_; (simp <;> fail)) | with_reducible refine Blk.alloc ?_ _) hb1
  have bA := Blk.keep (n := w.heap.size + 1) (t := 24) (cs := #[.int .u64 (U a0), .int .u64 (U a1)]) (by repeat' first | with_reducible refine Blk.drew ?_ | (with_reducible refine Blk.at _ _ _ ?_; (simp <;> fail)) | with_reducible refine Blk.alloc ?_ _) hb1
  have bB := Blk.keep (n := w.heap.size + 1 + 1) (t := 24) (cs := #[.int .u64 (U b0), .int .u64 (U b1)]) (by repeat' first | with_reducible refine Blk.drew ?_ | (with_reducible refine Blk.at _ _ _ ?_; (simp <;> fail)) | with_reducible refine Blk.alloc ?_ _) hb1
  have bO := Blk.keep (n := w.heap.size + 1 + 1 + 1) (t := 24) (cs := #[.int .u64 (U u0), .int .u64 (U u1)]) (by repeat' first | with_reducible refine Blk.drew ?_ | (with_reducible refine Blk.at _ _ _ ?_; (simp <;> fail)) | with_reducible refine Blk.alloc ?_ _) hb1
  have hBN := Below.step (w := w) (by repeat' first | with_reducible exact Below.refl _ _ | with_reducible refine Below.drew ?_ | with_reducible refine below_drewN ?_ _ | with_reducible refine Below.setCell ?_ ?_ _ | with_reducible refine Below.alloc ?_ ?_ _ | (dsimp only; omega) | (simp <;> fail) | (simp; omega)) hb1
  clear hb1
  have cK := bK.two
  have HK := mkHid bK
  have lK := bK.lt
  clear bK
  have cA := bA.two
  have HA := mkHid bA
  have lA := bA.lt
  clear bA
  have cB := bB.two
  have HB := mkHid bB
  have lB := bB.lt
  clear bB
  have cO := bO.two
  have HO := mkHid bO
  have lO := bO.lt
  clear bO
  have HBel := mkHid hBN
  clear hBN
  go_wp2_with fail
  refine (wrap_eq X1 X2 _).mono ?_
  rintro e w2 ⟨rfl, hb2⟩
  have bK := Blk.keep (n := w.heap.size) (t := 24) (cs := #[.int .u64 (U k0), .int .u64 (U k1)]) (by repeat' first | with_reducible exact HK.out | with_reducible refine Blk.drew ?_ | (with_reducible refine Blk.at _ _ _ ?_; (simp <;> fail)) | with_reducible refine Blk.alloc ?_ _) hb2
  have bA := Blk.keep (n := w.heap.size + 1) (t := 24) (cs := #[.int .u64 (U a0), .int .u64 (U a1)]) (by repeat' first | with_reducible exact HA.out | with_reducible refine Blk.drew ?_ | (with_reducible refine Blk.at _ _ _ ?_; (simp <;> fail)) | with_reducible refine Blk.alloc ?_ _) hb2
  have bB := Blk.keep (n := w.heap.size + 1 + 1) (t := 24) (cs := #[.int .u64 (U b0), .int .u64 (U b1)]) (by repeat' first | with_reducible exact HB.out | with_reducible refine Blk.drew ?_ | (with_reducible refine Blk.at _ _ _ ?_; (simp <;> fail)) | with_reducible refine Blk.alloc ?_ _) hb2
  have bO := Blk.keep (n := w.heap.size + 1 + 1 + 1) (t := 24) (cs := #[.int .u64 (U u0), .int .u64 (U u1)]) (by repeat' first | with_reducible exact HO.out | with_reducible refine Blk.drew ?_ | (with_reducible refine Blk.at _ _ _ ?_; (simp <;> fail)) | with_reducible refine Blk.alloc ?_ _) hb2
  have hBN := Below.step (w := w) (by repeat' first | with_reducible exact HBel.out | with_reducible exact Below.refl _ _ | with_reducible refine Below.drew ?_ | with_reducible refine below_drewN ?_ _ | with_reducible refine Below.setCell ?_ ?_ _ | with_reducible refine Below.alloc ?_ ?_ _ | (dsimp only; omega) | (simp <;> fail) | (have := HBel.out.size; simp; omega)) hb2
  try clear cK
  try clear cA
  try clear cB
  try clear cO
  clear HK lK HA lA HB lB HO lO HBel hb2
  have cK := bK.two
  have HK := mkHid bK
  have lK := bK.lt
  clear bK
  have cA := bA.two
  have HA := mkHid bA
  have lA := bA.lt
  clear bA
  have cB := bB.two
  have HB := mkHid bB
  have lB := bB.lt
  clear bB
  have cO := bO.two
  have HO := mkHid bO
  have lO := bO.lt
  clear bO
  have HBel := mkHid hBN
  clear hBN
  go_wp2_with fail
  have dXK : w.heap.size < w2.heap.size := lK
  have dXA : w.heap.size + 1 < w2.heap.size := lA
  have dXB : w.heap.size + 1 + 1 < w2.heap.size := lB
  have dXO : w.heap.size + 1 + 1 + 1 < w2.heap.size := lO
  refine (wrap_eq Y1 Y2 _).mono ?_
  rintro e w3 ⟨rfl, hb3⟩
  have bK := Blk.keep (n := w.heap.size) (t := 24) (cs := #[.int .u64 (U k0), .int .u64 (U k1)]) (by repeat' first | with_reducible exact HK.out | with_reducible refine Blk.drew ?_ | (with_reducible refine Blk.at _ _ _ ?_; (simp <;> fail)) | with_reducible refine Blk.alloc ?_ _) hb3
  have bA := Blk.keep (n := w.heap.size + 1) (t := 24) (cs := #[.int .u64 (U a0), .int .u64 (U a1)]) (by repeat' first | with_reducible exact HA.out | with_reducible refine Blk.drew ?_ | (with_reducible refine Blk.at _ _ _ ?_; (simp <;> fail)) | with_reducible refine Blk.alloc ?_ _) hb3
  have bB := Blk.keep (n := w.heap.size + 1 + 1) (t := 24) (cs := #[.int .u64 (U b0), .int .u64 (U b1)]) (by repeat' first | with_reducible exact HB.out | with_reducible refine Blk.drew ?_ | (with_reducible refine Blk.at _ _ _ ?_; (simp <;> fail)) | with_reducible refine Blk.alloc ?_ _) hb3
  have bO := Blk.keep (n := w.heap.size + 1 + 1 + 1) (t := 24) (cs := #[.int .u64 (U u0), .int .u64 (U u1)]) (by repeat' first | with_reducible exact HO.out | with_reducible refine Blk.drew ?_ | (with_reducible refine Blk.at _ _ _ ?_; (simp <;> fail)) | with_reducible refine Blk.alloc ?_ _) hb3
  have bX := Blk.keep (n := w2.heap.size) (t := 43) (cs := #[.int .u64 (U x0), .int .u64 (U x1), .int .u64 (U u0), .int .u64 (U u1)]) (by repeat' first | with_reducible refine Blk.drew ?_ | (with_reducible refine Blk.at _ _ _ ?_; (simp <;> fail)) | with_reducible refine Blk.alloc ?_ _) hb3
  have hBN := Below.step (w := w) (by repeat' first | with_reducible exact HBel.out | with_reducible exact Below.refl _ _ | with_reducible refine Below.drew ?_ | with_reducible refine below_drewN ?_ _ | with_reducible refine Below.setCell ?_ ?_ _ | with_reducible refine Below.alloc ?_ ?_ _ | (dsimp only; omega) | (simp <;> fail) | (have := HBel.out.size; simp; omega)) hb3
  try clear cK
  try clear cA
  try clear cB
  try clear cO
  clear HK lK HA lA HB lB HO lO HBel hb3
  have cK := bK.two
  have HK := mkHid bK
  have lK := bK.lt
  clear bK
  have cA := bA.two
  have HA := mkHid bA
  have lA := bA.lt
  clear bA
  have cB := bB.two
  have HB := mkHid bB
  have lB := bB.lt
  clear bB
  have cO := bO.two
  have HO := mkHid bO
  have lO := bO.lt
  clear bO
  have cX := bX.four
  have HX := mkHid bX
  have lX := bX.lt
  clear bX
  have HBel := mkHid hBN
  clear hBN
  go_wp2_with fail
  have dYK : w.heap.size < w3.heap.size := lK
  have dYA : w.heap.size + 1 < w3.heap.size := lA
  have dYB : w.heap.size + 1 + 1 < w3.heap.size := lB
  have dYO : w.heap.size + 1 + 1 + 1 < w3.heap.size := lO
  have dYX : w2.heap.size < w3.heap.size := lX
  have cN := (Blk.at w3 (n := w3.heap.size) 43 #[.int .u64 (U y0), .int .u64 (U y1), .int .u64 (U v0), .int .u64 (U v1)] rfl).drew.four
  have HBeg0 : Hid (Below ((w3.alloc (.cells #[.int .u64 (U y0), .int .u64 (U y1), .int .u64 (U v0), .int .u64 (U v1)] 43)).drew).heap.size ((w3.alloc (.cells #[.int .u64 (U y0), .int .u64 (U y1), .int .u64 (U v0), .int .u64 (U v1)] 43)).drew) ((w3.alloc (.cells #[.int .u64 (U y0), .int .u64 (U y1), .int .u64 (U v0), .int .u64 (U v1)] 43)).drew)) := mkHid (Below.refl _ _)
  have HBel0 := mkHid (HBel.out.alloc HBel.out.size (.cells #[.int .u64 (U y0), .int .u64 (U y1), .int .u64 (U v0), .int .u64 (U v1)] 43)).drew
  go_region_held3 (fun w' => w'.cell? ⟨w.heap.size, 0, none⟩ = some (.int .u64 (U k0)) ∧ w'.cell? ⟨w.heap.size, 1, none⟩ = some (.int .u64 (U k1)) ∧ w'.cell? ⟨w.heap.size + 1, 0, none⟩ = some (.int .u64 (U a0)) ∧ w'.cell? ⟨w.heap.size + 1, 1, none⟩ = some (.int .u64 (U a1)) ∧ w'.cell? ⟨w.heap.size + 1 + 1, 0, none⟩ = some (.int .u64 (U b0)) ∧ w'.cell? ⟨w.heap.size + 1 + 1, 1, none⟩ = some (.int .u64 (U b1)) ∧ w'.cell? ⟨w.heap.size + 1 + 1 + 1, 0, none⟩ = some (.int .u64 (U u0)) ∧ w'.cell? ⟨w.heap.size + 1 + 1 + 1, 1, none⟩ = some (.int .u64 (U u1)) ∧ w'.cell? ⟨w2.heap.size, 0, none⟩ = some (.int .u64 (U x0)) ∧ w'.cell? ⟨w2.heap.size, 1, none⟩ = some (.int .u64 (U x1)) ∧ w'.cell? ⟨w2.heap.size, 2, none⟩ = some (.int .u64 (U u0)) ∧ w'.cell? ⟨w2.heap.size, 3, none⟩ = some (.int .u64 (U u1)) ∧ w'.cell? ⟨w3.heap.size, 0, none⟩ = some (.int .u64 (U y0)) ∧ w'.cell? ⟨w3.heap.size, 1, none⟩ = some (.int .u64 (U y1)) ∧ w'.cell? ⟨w3.heap.size, 2, none⟩ = some (.int .u64 (U v0)) ∧ w'.cell? ⟨w3.heap.size, 3, none⟩ = some (.int .u64 (U v1)))
    (first | ((try dsimp only); (try go_split_ands); refine ⟨?_, ?_, ?_, ?_, ?_, ?_, ?_, ?_, ?_, ?_, ?_, ?_, ?_, ?_, ?_, ?_⟩ <;> assumption) | (go_keep; done))
    (first
        | (go_at_call 18; ((with_reducible refine (xor_to (x0 := x0) (x1 := x1) (y0 := y0) (y1 := y1) rfl rfl rfl rfl T0.out T1.out _).mono ?_); (try go_split_ands); rintro e wn ⟨rfl, hbn⟩; have fc0 := keeps hbn (p := ⟨w.heap.size, 0, none⟩) (v := .int .u64 (U k0)) (by first | assumption | (simp [*] <;> fail)); have fc1 := keeps hbn (p := ⟨w.heap.size, 1, none⟩) (v := .int .u64 (U k1)) (by first | assumption | (simp [*] <;> fail)); have fc2 := keeps hbn (p := ⟨w.heap.size + 1, 0, none⟩) (v := .int .u64 (U a0)) (by first | assumption | (simp [*] <;> fail)); have fc3 := keeps hbn (p := ⟨w.heap.size + 1, 1, none⟩) (v := .int .u64 (U a1)) (by first | assumption | (simp [*] <;> fail)); have fc4 := keeps hbn (p := ⟨w.heap.size + 1 + 1, 0, none⟩) (v := .int .u64 (U b0)) (by first | assumption | (simp [*] <;> fail)); have fc5 := keeps hbn (p := ⟨w.heap.size + 1 + 1, 1, none⟩) (v := .int .u64 (U b1)) (by first | assumption | (simp [*] <;> fail)); have fc6 := keeps hbn (p := ⟨w.heap.size + 1 + 1 + 1, 0, none⟩) (v := .int .u64 (U u0)) (by first | assumption | (simp [*] <;> fail)); have fc7 := keeps hbn (p := ⟨w.heap.size + 1 + 1 + 1, 1, none⟩) (v := .int .u64 (U u1)) (by first | assumption | (simp [*] <;> fail)); have fc8 := keeps hbn (p := ⟨w2.heap.size, 0, none⟩) (v := .int .u64 (U x0)) (by first | assumption | (simp [*] <;> fail)); have fc9 := keeps hbn (p := ⟨w2.heap.size, 1, none⟩) (v := .int .u64 (U x1)) (by first | assumption | (simp [*] <;> fail)); have fc10 := keeps hbn (p := ⟨w2.heap.size, 2, none⟩) (v := .int .u64 (U u0)) (by first | assumption | (simp [*] <;> fail)); have fc11 := keeps hbn (p := ⟨w2.heap.size, 3, none⟩) (v := .int .u64 (U u1)) (by first | assumption | (simp [*] <;> fail)); have fc12 := keeps hbn (p := ⟨w3.heap.size, 0, none⟩) (v := .int .u64 (U y0)) (by first | assumption | (simp [*] <;> fail)); have fc13 := keeps hbn (p := ⟨w3.heap.size, 1, none⟩) (v := .int .u64 (U y1)) (by first | assumption | (simp [*] <;> fail)); have fc14 := keeps hbn (p := ⟨w3.heap.size, 2, none⟩) (v := .int .u64 (U v0)) (by first | assumption | (simp [*] <;> fail)); have fc15 := keeps hbn (p := ⟨w3.heap.size, 3, none⟩) (v := .int .u64 (U v1)) (by first | assumption | (simp [*] <;> fail)); have hBn := mkHid (Below.step (w := w) (Hid.out (by assumption)) hbn); have hBeg := mkHid (Below.step (w := (w3.alloc (.cells #[.int .u64 (U y0), .int .u64 (U y1), .int .u64 (U v0), .int .u64 (U v1)] 43)).drew) (Hid.out (by assumption)) hbn)))
        | (go_at_call 18; ((with_reducible refine (xor_to (x0 := a0) (x1 := a1) (y0 := b0) (y1 := b1) rfl rfl rfl rfl S0.out S1.out _).mono ?_); (try go_split_ands); rintro e wn ⟨rfl, hbn⟩; have fc0 := keeps hbn (p := ⟨w.heap.size, 0, none⟩) (v := .int .u64 (U k0)) (by first | assumption | (simp [*] <;> fail)); have fc1 := keeps hbn (p := ⟨w.heap.size, 1, none⟩) (v := .int .u64 (U k1)) (by first | assumption | (simp [*] <;> fail)); have fc2 := keeps hbn (p := ⟨w.heap.size + 1, 0, none⟩) (v := .int .u64 (U a0)) (by first | assumption | (simp [*] <;> fail)); have fc3 := keeps hbn (p := ⟨w.heap.size + 1, 1, none⟩) (v := .int .u64 (U a1)) (by first | assumption | (simp [*] <;> fail)); have fc4 := keeps hbn (p := ⟨w.heap.size + 1 + 1, 0, none⟩) (v := .int .u64 (U b0)) (by first | assumption | (simp [*] <;> fail)); have fc5 := keeps hbn (p := ⟨w.heap.size + 1 + 1, 1, none⟩) (v := .int .u64 (U b1)) (by first | assumption | (simp [*] <;> fail)); have fc6 := keeps hbn (p := ⟨w.heap.size + 1 + 1 + 1, 0, none⟩) (v := .int .u64 (U u0)) (by first | assumption | (simp [*] <;> fail)); have fc7 := keeps hbn (p := ⟨w.heap.size + 1 + 1 + 1, 1, none⟩) (v := .int .u64 (U u1)) (by first | assumption | (simp [*] <;> fail)); have fc8 := keeps hbn (p := ⟨w2.heap.size, 0, none⟩) (v := .int .u64 (U x0)) (by first | assumption | (simp [*] <;> fail)); have fc9 := keeps hbn (p := ⟨w2.heap.size, 1, none⟩) (v := .int .u64 (U x1)) (by first | assumption | (simp [*] <;> fail)); have fc10 := keeps hbn (p := ⟨w2.heap.size, 2, none⟩) (v := .int .u64 (U u0)) (by first | assumption | (simp [*] <;> fail)); have fc11 := keeps hbn (p := ⟨w2.heap.size, 3, none⟩) (v := .int .u64 (U u1)) (by first | assumption | (simp [*] <;> fail)); have fc12 := keeps hbn (p := ⟨w3.heap.size, 0, none⟩) (v := .int .u64 (U y0)) (by first | assumption | (simp [*] <;> fail)); have fc13 := keeps hbn (p := ⟨w3.heap.size, 1, none⟩) (v := .int .u64 (U y1)) (by first | assumption | (simp [*] <;> fail)); have fc14 := keeps hbn (p := ⟨w3.heap.size, 2, none⟩) (v := .int .u64 (U v0)) (by first | assumption | (simp [*] <;> fail)); have fc15 := keeps hbn (p := ⟨w3.heap.size, 3, none⟩) (v := .int .u64 (U v1)) (by first | assumption | (simp [*] <;> fail)); have hBn := mkHid (Below.step (w := w) (Hid.out (by assumption)) hbn); have hBeg := mkHid (Below.step (w := (w3.alloc (.cells #[.int .u64 (U y0), .int .u64 (U y1), .int .u64 (U v0), .int .u64 (U v1)] 43)).drew) (Hid.out (by assumption)) hbn)))
        | (go_at_call 33; ((with_reducible refine (tag_eq X2 _).mono ?_); (try go_split_ands); rintro e wn ⟨rfl, hbn⟩; have fc0 := keeps hbn (p := ⟨w.heap.size, 0, none⟩) (v := .int .u64 (U k0)) (by first | assumption | (simp [*] <;> fail)); have fc1 := keeps hbn (p := ⟨w.heap.size, 1, none⟩) (v := .int .u64 (U k1)) (by first | assumption | (simp [*] <;> fail)); have fc2 := keeps hbn (p := ⟨w.heap.size + 1, 0, none⟩) (v := .int .u64 (U a0)) (by first | assumption | (simp [*] <;> fail)); have fc3 := keeps hbn (p := ⟨w.heap.size + 1, 1, none⟩) (v := .int .u64 (U a1)) (by first | assumption | (simp [*] <;> fail)); have fc4 := keeps hbn (p := ⟨w.heap.size + 1 + 1, 0, none⟩) (v := .int .u64 (U b0)) (by first | assumption | (simp [*] <;> fail)); have fc5 := keeps hbn (p := ⟨w.heap.size + 1 + 1, 1, none⟩) (v := .int .u64 (U b1)) (by first | assumption | (simp [*] <;> fail)); have fc6 := keeps hbn (p := ⟨w.heap.size + 1 + 1 + 1, 0, none⟩) (v := .int .u64 (U u0)) (by first | assumption | (simp [*] <;> fail)); have fc7 := keeps hbn (p := ⟨w.heap.size + 1 + 1 + 1, 1, none⟩) (v := .int .u64 (U u1)) (by first | assumption | (simp [*] <;> fail)); have fc8 := keeps hbn (p := ⟨w2.heap.size, 0, none⟩) (v := .int .u64 (U x0)) (by first | assumption | (simp [*] <;> fail)); have fc9 := keeps hbn (p := ⟨w2.heap.size, 1, none⟩) (v := .int .u64 (U x1)) (by first | assumption | (simp [*] <;> fail)); have fc10 := keeps hbn (p := ⟨w2.heap.size, 2, none⟩) (v := .int .u64 (U u0)) (by first | assumption | (simp [*] <;> fail)); have fc11 := keeps hbn (p := ⟨w2.heap.size, 3, none⟩) (v := .int .u64 (U u1)) (by first | assumption | (simp [*] <;> fail)); have fc12 := keeps hbn (p := ⟨w3.heap.size, 0, none⟩) (v := .int .u64 (U y0)) (by first | assumption | (simp [*] <;> fail)); have fc13 := keeps hbn (p := ⟨w3.heap.size, 1, none⟩) (v := .int .u64 (U y1)) (by first | assumption | (simp [*] <;> fail)); have fc14 := keeps hbn (p := ⟨w3.heap.size, 2, none⟩) (v := .int .u64 (U v0)) (by first | assumption | (simp [*] <;> fail)); have fc15 := keeps hbn (p := ⟨w3.heap.size, 3, none⟩) (v := .int .u64 (U v1)) (by first | assumption | (simp [*] <;> fail)); have hBn := mkHid (Below.step (w := w) (Hid.out (by assumption)) hbn); have hBeg := mkHid (Below.step (w := (w3.alloc (.cells #[.int .u64 (U y0), .int .u64 (U y1), .int .u64 (U v0), .int .u64 (U v1)] 43)).drew) (Hid.out (by assumption)) hbn))))
  go_wp2_with fail
  have hb4 := hBeg.out
  have bK := Blk.keep (n := w.heap.size) (t := 24) (cs := #[.int .u64 (U k0), .int .u64 (U k1)]) (by repeat' first | with_reducible exact HK.out | with_reducible refine Blk.drew ?_ | (with_reducible refine Blk.at _ _ _ ?_; (simp <;> fail)) | with_reducible refine Blk.alloc ?_ _) hb4
  have bA := Blk.keep (n := w.heap.size + 1) (t := 24) (cs := #[.int .u64 (U a0), .int .u64 (U a1)]) (by repeat' first | with_reducible exact HA.out | with_reducible refine Blk.drew ?_ | (with_reducible refine Blk.at _ _ _ ?_; (simp <;> fail)) | with_reducible refine Blk.alloc ?_ _) hb4
  have bB := Blk.keep (n := w.heap.size + 1 + 1) (t := 24) (cs := #[.int .u64 (U b0), .int .u64 (U b1)]) (by repeat' first | with_reducible exact HB.out | with_reducible refine Blk.drew ?_ | (with_reducible refine Blk.at _ _ _ ?_; (simp <;> fail)) | with_reducible refine Blk.alloc ?_ _) hb4
  have bO := Blk.keep (n := w.heap.size + 1 + 1 + 1) (t := 24) (cs := #[.int .u64 (U u0), .int .u64 (U u1)]) (by repeat' first | with_reducible exact HO.out | with_reducible refine Blk.drew ?_ | (with_reducible refine Blk.at _ _ _ ?_; (simp <;> fail)) | with_reducible refine Blk.alloc ?_ _) hb4
  have bX := Blk.keep (n := w2.heap.size) (t := 43) (cs := #[.int .u64 (U x0), .int .u64 (U x1), .int .u64 (U u0), .int .u64 (U u1)]) (by repeat' first | with_reducible exact HX.out | with_reducible refine Blk.drew ?_ | (with_reducible refine Blk.at _ _ _ ?_; (simp <;> fail)) | with_reducible refine Blk.alloc ?_ _) hb4
  have bY := Blk.keep (n := w3.heap.size) (t := 43) (cs := #[.int .u64 (U y0), .int .u64 (U y1), .int .u64 (U v0), .int .u64 (U v1)]) (by repeat' first | with_reducible refine Blk.drew ?_ | (with_reducible refine Blk.at _ _ _ ?_; (simp <;> fail)) | with_reducible refine Blk.alloc ?_ _) hb4
  have hBN := Below.step (w := w) (by repeat' first | with_reducible exact HBel.out | with_reducible exact Below.refl _ _ | with_reducible refine Below.drew ?_ | with_reducible refine below_drewN ?_ _ | with_reducible refine Below.setCell ?_ ?_ _ | with_reducible refine Below.alloc ?_ ?_ _ | (dsimp only; omega) | (simp <;> fail) | (have := HBel.out.size; simp; omega)) hb4
  try clear cK
  try clear cA
  try clear cB
  try clear cO
  try clear cX
  clear HK lK HA lA HB lB HO lO HX lX HBel hb4
  have cK := bK.two
  have HK := mkHid bK
  have lK := bK.lt
  clear bK
  have cA := bA.two
  have HA := mkHid bA
  have lA := bA.lt
  clear bA
  have cB := bB.two
  have HB := mkHid bB
  have lB := bB.lt
  clear bB
  have cO := bO.two
  have HO := mkHid bO
  have lO := bO.lt
  clear bO
  have cX := bX.four
  have HX := mkHid bX
  have lX := bX.lt
  clear bX
  have cY := bY.four
  have HY := mkHid bY
  have lY := bY.lt
  clear bY
  have HBel := mkHid hBN
  clear hBN
  refine (unwrap_yes XB X2 _).mono ?_
  rintro e w5 ⟨rfl, hb5⟩
  have bK := Blk.keep (n := w.heap.size) (t := 24) (cs := #[.int .u64 (U k0), .int .u64 (U k1)]) (by repeat' first | with_reducible exact HK.out | with_reducible refine Blk.drew ?_ | (with_reducible refine Blk.at _ _ _ ?_; (simp <;> fail)) | with_reducible refine Blk.alloc ?_ _) hb5
  have bA := Blk.keep (n := w.heap.size + 1) (t := 24) (cs := #[.int .u64 (U a0), .int .u64 (U a1)]) (by repeat' first | with_reducible exact HA.out | with_reducible refine Blk.drew ?_ | (with_reducible refine Blk.at _ _ _ ?_; (simp <;> fail)) | with_reducible refine Blk.alloc ?_ _) hb5
  have bB := Blk.keep (n := w.heap.size + 1 + 1) (t := 24) (cs := #[.int .u64 (U b0), .int .u64 (U b1)]) (by repeat' first | with_reducible exact HB.out | with_reducible refine Blk.drew ?_ | (with_reducible refine Blk.at _ _ _ ?_; (simp <;> fail)) | with_reducible refine Blk.alloc ?_ _) hb5
  have bO := Blk.keep (n := w.heap.size + 1 + 1 + 1) (t := 24) (cs := #[.int .u64 (U u0), .int .u64 (U u1)]) (by repeat' first | with_reducible exact HO.out | with_reducible refine Blk.drew ?_ | (with_reducible refine Blk.at _ _ _ ?_; (simp <;> fail)) | with_reducible refine Blk.alloc ?_ _) hb5
  have bX := Blk.keep (n := w2.heap.size) (t := 43) (cs := #[.int .u64 (U x0), .int .u64 (U x1), .int .u64 (U u0), .int .u64 (U u1)]) (by repeat' first | with_reducible exact HX.out | with_reducible refine Blk.drew ?_ | (with_reducible refine Blk.at _ _ _ ?_; (simp <;> fail)) | with_reducible refine Blk.alloc ?_ _) hb5
  have bY := Blk.keep (n := w3.heap.size) (t := 43) (cs := #[.int .u64 (U y0), .int .u64 (U y1), .int .u64 (U v0), .int .u64 (U v1)]) (by repeat' first | with_reducible exact HY.out | with_reducible refine Blk.drew ?_ | (with_reducible refine Blk.at _ _ _ ?_; (simp <;> fail)) | with_reducible refine Blk.alloc ?_ _) hb5
  have hBN := Below.step (w := w) (by repeat' first | with_reducible exact HBel.out | with_reducible exact Below.refl _ _ | with_reducible refine Below.drew ?_ | with_reducible refine below_drewN ?_ _ | with_reducible refine Below.setCell ?_ ?_ _ | with_reducible refine Below.alloc ?_ ?_ _ | (dsimp only; omega) | (simp <;> fail) | (have := HBel.out.size; simp; omega)) hb5
  try clear cK
  try clear cA
  try clear cB
  try clear cO
  try clear cX
  try clear cY
  clear HK lK HA lA HB lB HO lO HX lX HY lY HBel hb5
  have cK := bK.two
  have HK := mkHid bK
  have lK := bK.lt
  clear bK
  have cA := bA.two
  have HA := mkHid bA
  have lA := bA.lt
  clear bA
  have cB := bB.two
  have HB := mkHid bB
  have lB := bB.lt
  clear bB
  have cO := bO.two
  have HO := mkHid bO
  have lO := bO.lt
  clear bO
  have cX := bX.four
  have HX := mkHid bX
  have lX := bX.lt
  clear bX
  have cY := bY.four
  have HY := mkHid bY
  have lY := bY.lt
  clear bY
  have HBel := mkHid hBN
  clear hBN
  go_wp2_with fail
  go_ret
  exact ⟨rfl, HBel.out.alloc HBel.out.size _⟩

set_option maxRecDepth 100000 in
set_option maxHeartbeats 2000000 in
theorem walk_SealTag_no {k0 k1 a0 a1 b0 b1 x0 x1 u0 u1 q0 q1 : BitVec 64} (X1 : Hid (hideB (k0, k1) (a0, a1) = (x0, x1))) (X2 : Hid (tagB (k0, k1) (x0, x1) = (u0, u1))) (hne : (U u0 == U q0 && U u1 == U q1) = false) (w : World) :
    Calls Try.prog 11 #[.agg #[.int .u64 (U k0), .int .u64 (U k1)], .agg #[.int .u64 (U a0), .int .u64 (U a1)], .agg #[.int .u64 (U b0), .int .u64 (U b1)], .agg #[.int .u64 (U q0), .int .u64 (U q1)]] w fun e w' => e = .returned (.bool true) ∧ Below w.heap.size w w' := by
  have hq := eq_blocks
  have hq4 := eq_sealed
  obtain ⟨y0, y1, hy⟩ := pair_ex (hideB (k0, k1) (b0, b1))
  obtain ⟨v0, v1, hv⟩ := pair_ex (tagB (k0, k1) (y0, y1))
  obtain ⟨s0, s1, hs⟩ := pair_ex (xorB (a0, a1) (b0, b1))
  have S0 : Hid (U (a0 ^^^ b0) = U s0) := mkHid (congrArg U (congrArg Prod.fst hs))
  have S1 : Hid (U (a1 ^^^ b1) = U s1) := mkHid (congrArg U (congrArg Prod.snd hs))
  have T0 : Hid (U (x0 ^^^ y0) = U s0) := mkHid (by rw [← S0.out]; exact congrArg U (congrArg Prod.fst (hide_xor X1.out hy)))
  have T1 : Hid (U (x1 ^^^ y1) = U s1) := mkHid (by rw [← S1.out]; exact congrArg U (congrArg Prod.snd (hide_xor X1.out hy)))
  have Y1 := mkHid hy
  have Y2 := mkHid hv
  have XB : Hid (hideB (k0, k1) (x0, x1) = (a0, a1)) := mkHid (by rw [← X1.out, hide_back])
  clear hy hv hs
  have hne' : (U q0 == U u0 && U q1 == U u1) = false := by rw [← hne, Bool.beq_comm, Bool.beq_comm (a := U q1)]
  go_enter Try.func11, Try.ntmps11
  go_wp2_with fail
  refine (live04 _).mono ?_
  rintro e w1 ⟨rfl, hb1⟩
  have bK := Blk.keep (n := w.heap.size) (t := 24) (cs := #[.int .u64 (U k0), .int .u64 (U k1)]) (by repeat' first | with_reducible refine Blk.drew ?_ | (with_reducible refine Blk.at _ _ _ ?_; (simp <;> fail)) | with_reducible refine Blk.alloc ?_ _) hb1
  have bA := Blk.keep (n := w.heap.size + 1) (t := 24) (cs := #[.int .u64 (U a0), .int .u64 (U a1)]) (by repeat' first | with_reducible refine Blk.drew ?_ | (with_reducible refine Blk.at _ _ _ ?_; (simp <;> fail)) | with_reducible refine Blk.alloc ?_ _) hb1
  have bB := Blk.keep (n := w.heap.size + 1 + 1) (t := 24) (cs := #[.int .u64 (U b0), .int .u64 (U b1)]) (by repeat' first | with_reducible refine Blk.drew ?_ | (with_reducible refine Blk.at _ _ _ ?_; (simp <;> fail)) | with_reducible refine Blk.alloc ?_ _) hb1
  have bO := Blk.keep (n := w.heap.size + 1 + 1 + 1) (t := 24) (cs := #[.int .u64 (U q0), .int .u64 (U q1)]) (by repeat' first | with_reducible refine Blk.drew ?_ | (with_reducible refine Blk.at _ _ _ ?_; (simp <;> fail)) | with_reducible refine Blk.alloc ?_ _) hb1
  have hBN := Below.step (w := w) (by repeat' first | with_reducible exact Below.refl _ _ | with_reducible refine Below.drew ?_ | with_reducible refine below_drewN ?_ _ | with_reducible refine Below.setCell ?_ ?_ _ | with_reducible refine Below.alloc ?_ ?_ _ | (dsimp only; omega) | (simp <;> fail) | (simp; omega)) hb1
  clear hb1
  have cK := bK.two
  have HK := mkHid bK
  have lK := bK.lt
  clear bK
  have cA := bA.two
  have HA := mkHid bA
  have lA := bA.lt
  clear bA
  have cB := bB.two
  have HB := mkHid bB
  have lB := bB.lt
  clear bB
  have cO := bO.two
  have HO := mkHid bO
  have lO := bO.lt
  clear bO
  have HBel := mkHid hBN
  clear hBN
  go_wp2_with fail
  refine (wrap_eq X1 X2 _).mono ?_
  rintro e w2 ⟨rfl, hb2⟩
  have bK := Blk.keep (n := w.heap.size) (t := 24) (cs := #[.int .u64 (U k0), .int .u64 (U k1)]) (by repeat' first | with_reducible exact HK.out | with_reducible refine Blk.drew ?_ | (with_reducible refine Blk.at _ _ _ ?_; (simp <;> fail)) | with_reducible refine Blk.alloc ?_ _) hb2
  have bA := Blk.keep (n := w.heap.size + 1) (t := 24) (cs := #[.int .u64 (U a0), .int .u64 (U a1)]) (by repeat' first | with_reducible exact HA.out | with_reducible refine Blk.drew ?_ | (with_reducible refine Blk.at _ _ _ ?_; (simp <;> fail)) | with_reducible refine Blk.alloc ?_ _) hb2
  have bB := Blk.keep (n := w.heap.size + 1 + 1) (t := 24) (cs := #[.int .u64 (U b0), .int .u64 (U b1)]) (by repeat' first | with_reducible exact HB.out | with_reducible refine Blk.drew ?_ | (with_reducible refine Blk.at _ _ _ ?_; (simp <;> fail)) | with_reducible refine Blk.alloc ?_ _) hb2
  have bO := Blk.keep (n := w.heap.size + 1 + 1 + 1) (t := 24) (cs := #[.int .u64 (U q0), .int .u64 (U q1)]) (by repeat' first | with_reducible exact HO.out | with_reducible refine Blk.drew ?_ | (with_reducible refine Blk.at _ _ _ ?_; (simp <;> fail)) | with_reducible refine Blk.alloc ?_ _) hb2
  have hBN := Below.step (w := w) (by repeat' first | with_reducible exact HBel.out | with_reducible exact Below.refl _ _ | with_reducible refine Below.drew ?_ | with_reducible refine below_drewN ?_ _ | with_reducible refine Below.setCell ?_ ?_ _ | with_reducible refine Below.alloc ?_ ?_ _ | (dsimp only; omega) | (simp <;> fail) | (have := HBel.out.size; simp; omega)) hb2
  try clear cK
  try clear cA
  try clear cB
  try clear cO
  clear HK lK HA lA HB lB HO lO HBel hb2
  have cK := bK.two
  have HK := mkHid bK
  have lK := bK.lt
  clear bK
  have cA := bA.two
  have HA := mkHid bA
  have lA := bA.lt
  clear bA
  have cB := bB.two
  have HB := mkHid bB
  have lB := bB.lt
  clear bB
  have cO := bO.two
  have HO := mkHid bO
  have lO := bO.lt
  clear bO
  have HBel := mkHid hBN
  clear hBN
  go_wp2_with fail
  have dXK : w.heap.size < w2.heap.size := lK
  have dXA : w.heap.size + 1 < w2.heap.size := lA
  have dXB : w.heap.size + 1 + 1 < w2.heap.size := lB
  have dXO : w.heap.size + 1 + 1 + 1 < w2.heap.size := lO
  refine (wrap_eq Y1 Y2 _).mono ?_
  rintro e w3 ⟨rfl, hb3⟩
  have bK := Blk.keep (n := w.heap.size) (t := 24) (cs := #[.int .u64 (U k0), .int .u64 (U k1)]) (by repeat' first | with_reducible exact HK.out | with_reducible refine Blk.drew ?_ | (with_reducible refine Blk.at _ _ _ ?_; (simp <;> fail)) | with_reducible refine Blk.alloc ?_ _) hb3
  have bA := Blk.keep (n := w.heap.size + 1) (t := 24) (cs := #[.int .u64 (U a0), .int .u64 (U a1)]) (by repeat' first | with_reducible exact HA.out | with_reducible refine Blk.drew ?_ | (with_reducible refine Blk.at _ _ _ ?_; (simp <;> fail)) | with_reducible refine Blk.alloc ?_ _) hb3
  have bB := Blk.keep (n := w.heap.size + 1 + 1) (t := 24) (cs := #[.int .u64 (U b0), .int .u64 (U b1)]) (by repeat' first | with_reducible exact HB.out | with_reducible refine Blk.drew ?_ | (with_reducible refine Blk.at _ _ _ ?_; (simp <;> fail)) | with_reducible refine Blk.alloc ?_ _) hb3
  have bO := Blk.keep (n := w.heap.size + 1 + 1 + 1) (t := 24) (cs := #[.int .u64 (U q0), .int .u64 (U q1)]) (by repeat' first | with_reducible exact HO.out | with_reducible refine Blk.drew ?_ | (with_reducible refine Blk.at _ _ _ ?_; (simp <;> fail)) | with_reducible refine Blk.alloc ?_ _) hb3
  have bX := Blk.keep (n := w2.heap.size) (t := 43) (cs := #[.int .u64 (U x0), .int .u64 (U x1), .int .u64 (U u0), .int .u64 (U u1)]) (by repeat' first | with_reducible refine Blk.drew ?_ | (with_reducible refine Blk.at _ _ _ ?_; (simp <;> fail)) | with_reducible refine Blk.alloc ?_ _) hb3
  have hBN := Below.step (w := w) (by repeat' first | with_reducible exact HBel.out | with_reducible exact Below.refl _ _ | with_reducible refine Below.drew ?_ | with_reducible refine below_drewN ?_ _ | with_reducible refine Below.setCell ?_ ?_ _ | with_reducible refine Below.alloc ?_ ?_ _ | (dsimp only; omega) | (simp <;> fail) | (have := HBel.out.size; simp; omega)) hb3
  try clear cK
  try clear cA
  try clear cB
  try clear cO
  clear HK lK HA lA HB lB HO lO HBel hb3
  have cK := bK.two
  have HK := mkHid bK
  have lK := bK.lt
  clear bK
  have cA := bA.two
  have HA := mkHid bA
  have lA := bA.lt
  clear bA
  have cB := bB.two
  have HB := mkHid bB
  have lB := bB.lt
  clear bB
  have cO := bO.two
  have HO := mkHid bO
  have lO := bO.lt
  clear bO
  have cX := bX.four
  have HX := mkHid bX
  have lX := bX.lt
  clear bX
  have HBel := mkHid hBN
  clear hBN
  go_wp2_with fail
  have dYK : w.heap.size < w3.heap.size := lK
  have dYA : w.heap.size + 1 < w3.heap.size := lA
  have dYB : w.heap.size + 1 + 1 < w3.heap.size := lB
  have dYO : w.heap.size + 1 + 1 + 1 < w3.heap.size := lO
  have dYX : w2.heap.size < w3.heap.size := lX
  have cN := (Blk.at w3 (n := w3.heap.size) 43 #[.int .u64 (U y0), .int .u64 (U y1), .int .u64 (U v0), .int .u64 (U v1)] rfl).drew.four
  have HBeg0 : Hid (Below ((w3.alloc (.cells #[.int .u64 (U y0), .int .u64 (U y1), .int .u64 (U v0), .int .u64 (U v1)] 43)).drew).heap.size ((w3.alloc (.cells #[.int .u64 (U y0), .int .u64 (U y1), .int .u64 (U v0), .int .u64 (U v1)] 43)).drew) ((w3.alloc (.cells #[.int .u64 (U y0), .int .u64 (U y1), .int .u64 (U v0), .int .u64 (U v1)] 43)).drew)) := mkHid (Below.refl _ _)
  have HBel0 := mkHid (HBel.out.alloc HBel.out.size (.cells #[.int .u64 (U y0), .int .u64 (U y1), .int .u64 (U v0), .int .u64 (U v1)] 43)).drew
  go_region_held3 (fun w' => w'.cell? ⟨w.heap.size, 0, none⟩ = some (.int .u64 (U k0)) ∧ w'.cell? ⟨w.heap.size, 1, none⟩ = some (.int .u64 (U k1)) ∧ w'.cell? ⟨w.heap.size + 1, 0, none⟩ = some (.int .u64 (U a0)) ∧ w'.cell? ⟨w.heap.size + 1, 1, none⟩ = some (.int .u64 (U a1)) ∧ w'.cell? ⟨w.heap.size + 1 + 1, 0, none⟩ = some (.int .u64 (U b0)) ∧ w'.cell? ⟨w.heap.size + 1 + 1, 1, none⟩ = some (.int .u64 (U b1)) ∧ w'.cell? ⟨w.heap.size + 1 + 1 + 1, 0, none⟩ = some (.int .u64 (U q0)) ∧ w'.cell? ⟨w.heap.size + 1 + 1 + 1, 1, none⟩ = some (.int .u64 (U q1)) ∧ w'.cell? ⟨w2.heap.size, 0, none⟩ = some (.int .u64 (U x0)) ∧ w'.cell? ⟨w2.heap.size, 1, none⟩ = some (.int .u64 (U x1)) ∧ w'.cell? ⟨w2.heap.size, 2, none⟩ = some (.int .u64 (U u0)) ∧ w'.cell? ⟨w2.heap.size, 3, none⟩ = some (.int .u64 (U u1)) ∧ w'.cell? ⟨w3.heap.size, 0, none⟩ = some (.int .u64 (U y0)) ∧ w'.cell? ⟨w3.heap.size, 1, none⟩ = some (.int .u64 (U y1)) ∧ w'.cell? ⟨w3.heap.size, 2, none⟩ = some (.int .u64 (U v0)) ∧ w'.cell? ⟨w3.heap.size, 3, none⟩ = some (.int .u64 (U v1)))
    (first | ((try dsimp only); (try go_split_ands); refine ⟨?_, ?_, ?_, ?_, ?_, ?_, ?_, ?_, ?_, ?_, ?_, ?_, ?_, ?_, ?_, ?_⟩ <;> assumption) | (go_keep; done))
    (first
        | (go_at_call 18; ((with_reducible refine (xor_to (x0 := x0) (x1 := x1) (y0 := y0) (y1 := y1) rfl rfl rfl rfl T0.out T1.out _).mono ?_); (try go_split_ands); rintro e wn ⟨rfl, hbn⟩; have fc0 := keeps hbn (p := ⟨w.heap.size, 0, none⟩) (v := .int .u64 (U k0)) (by first | assumption | (simp [*] <;> fail)); have fc1 := keeps hbn (p := ⟨w.heap.size, 1, none⟩) (v := .int .u64 (U k1)) (by first | assumption | (simp [*] <;> fail)); have fc2 := keeps hbn (p := ⟨w.heap.size + 1, 0, none⟩) (v := .int .u64 (U a0)) (by first | assumption | (simp [*] <;> fail)); have fc3 := keeps hbn (p := ⟨w.heap.size + 1, 1, none⟩) (v := .int .u64 (U a1)) (by first | assumption | (simp [*] <;> fail)); have fc4 := keeps hbn (p := ⟨w.heap.size + 1 + 1, 0, none⟩) (v := .int .u64 (U b0)) (by first | assumption | (simp [*] <;> fail)); have fc5 := keeps hbn (p := ⟨w.heap.size + 1 + 1, 1, none⟩) (v := .int .u64 (U b1)) (by first | assumption | (simp [*] <;> fail)); have fc6 := keeps hbn (p := ⟨w.heap.size + 1 + 1 + 1, 0, none⟩) (v := .int .u64 (U q0)) (by first | assumption | (simp [*] <;> fail)); have fc7 := keeps hbn (p := ⟨w.heap.size + 1 + 1 + 1, 1, none⟩) (v := .int .u64 (U q1)) (by first | assumption | (simp [*] <;> fail)); have fc8 := keeps hbn (p := ⟨w2.heap.size, 0, none⟩) (v := .int .u64 (U x0)) (by first | assumption | (simp [*] <;> fail)); have fc9 := keeps hbn (p := ⟨w2.heap.size, 1, none⟩) (v := .int .u64 (U x1)) (by first | assumption | (simp [*] <;> fail)); have fc10 := keeps hbn (p := ⟨w2.heap.size, 2, none⟩) (v := .int .u64 (U u0)) (by first | assumption | (simp [*] <;> fail)); have fc11 := keeps hbn (p := ⟨w2.heap.size, 3, none⟩) (v := .int .u64 (U u1)) (by first | assumption | (simp [*] <;> fail)); have fc12 := keeps hbn (p := ⟨w3.heap.size, 0, none⟩) (v := .int .u64 (U y0)) (by first | assumption | (simp [*] <;> fail)); have fc13 := keeps hbn (p := ⟨w3.heap.size, 1, none⟩) (v := .int .u64 (U y1)) (by first | assumption | (simp [*] <;> fail)); have fc14 := keeps hbn (p := ⟨w3.heap.size, 2, none⟩) (v := .int .u64 (U v0)) (by first | assumption | (simp [*] <;> fail)); have fc15 := keeps hbn (p := ⟨w3.heap.size, 3, none⟩) (v := .int .u64 (U v1)) (by first | assumption | (simp [*] <;> fail)); have hBn := mkHid (Below.step (w := w) (Hid.out (by assumption)) hbn); have hBeg := mkHid (Below.step (w := (w3.alloc (.cells #[.int .u64 (U y0), .int .u64 (U y1), .int .u64 (U v0), .int .u64 (U v1)] 43)).drew) (Hid.out (by assumption)) hbn)))
        | (go_at_call 18; ((with_reducible refine (xor_to (x0 := a0) (x1 := a1) (y0 := b0) (y1 := b1) rfl rfl rfl rfl S0.out S1.out _).mono ?_); (try go_split_ands); rintro e wn ⟨rfl, hbn⟩; have fc0 := keeps hbn (p := ⟨w.heap.size, 0, none⟩) (v := .int .u64 (U k0)) (by first | assumption | (simp [*] <;> fail)); have fc1 := keeps hbn (p := ⟨w.heap.size, 1, none⟩) (v := .int .u64 (U k1)) (by first | assumption | (simp [*] <;> fail)); have fc2 := keeps hbn (p := ⟨w.heap.size + 1, 0, none⟩) (v := .int .u64 (U a0)) (by first | assumption | (simp [*] <;> fail)); have fc3 := keeps hbn (p := ⟨w.heap.size + 1, 1, none⟩) (v := .int .u64 (U a1)) (by first | assumption | (simp [*] <;> fail)); have fc4 := keeps hbn (p := ⟨w.heap.size + 1 + 1, 0, none⟩) (v := .int .u64 (U b0)) (by first | assumption | (simp [*] <;> fail)); have fc5 := keeps hbn (p := ⟨w.heap.size + 1 + 1, 1, none⟩) (v := .int .u64 (U b1)) (by first | assumption | (simp [*] <;> fail)); have fc6 := keeps hbn (p := ⟨w.heap.size + 1 + 1 + 1, 0, none⟩) (v := .int .u64 (U q0)) (by first | assumption | (simp [*] <;> fail)); have fc7 := keeps hbn (p := ⟨w.heap.size + 1 + 1 + 1, 1, none⟩) (v := .int .u64 (U q1)) (by first | assumption | (simp [*] <;> fail)); have fc8 := keeps hbn (p := ⟨w2.heap.size, 0, none⟩) (v := .int .u64 (U x0)) (by first | assumption | (simp [*] <;> fail)); have fc9 := keeps hbn (p := ⟨w2.heap.size, 1, none⟩) (v := .int .u64 (U x1)) (by first | assumption | (simp [*] <;> fail)); have fc10 := keeps hbn (p := ⟨w2.heap.size, 2, none⟩) (v := .int .u64 (U u0)) (by first | assumption | (simp [*] <;> fail)); have fc11 := keeps hbn (p := ⟨w2.heap.size, 3, none⟩) (v := .int .u64 (U u1)) (by first | assumption | (simp [*] <;> fail)); have fc12 := keeps hbn (p := ⟨w3.heap.size, 0, none⟩) (v := .int .u64 (U y0)) (by first | assumption | (simp [*] <;> fail)); have fc13 := keeps hbn (p := ⟨w3.heap.size, 1, none⟩) (v := .int .u64 (U y1)) (by first | assumption | (simp [*] <;> fail)); have fc14 := keeps hbn (p := ⟨w3.heap.size, 2, none⟩) (v := .int .u64 (U v0)) (by first | assumption | (simp [*] <;> fail)); have fc15 := keeps hbn (p := ⟨w3.heap.size, 3, none⟩) (v := .int .u64 (U v1)) (by first | assumption | (simp [*] <;> fail)); have hBn := mkHid (Below.step (w := w) (Hid.out (by assumption)) hbn); have hBeg := mkHid (Below.step (w := (w3.alloc (.cells #[.int .u64 (U y0), .int .u64 (U y1), .int .u64 (U v0), .int .u64 (U v1)] 43)).drew) (Hid.out (by assumption)) hbn)))
        | (go_at_call 33; ((with_reducible refine (tag_eq X2 _).mono ?_); (try go_split_ands); rintro e wn ⟨rfl, hbn⟩; have fc0 := keeps hbn (p := ⟨w.heap.size, 0, none⟩) (v := .int .u64 (U k0)) (by first | assumption | (simp [*] <;> fail)); have fc1 := keeps hbn (p := ⟨w.heap.size, 1, none⟩) (v := .int .u64 (U k1)) (by first | assumption | (simp [*] <;> fail)); have fc2 := keeps hbn (p := ⟨w.heap.size + 1, 0, none⟩) (v := .int .u64 (U a0)) (by first | assumption | (simp [*] <;> fail)); have fc3 := keeps hbn (p := ⟨w.heap.size + 1, 1, none⟩) (v := .int .u64 (U a1)) (by first | assumption | (simp [*] <;> fail)); have fc4 := keeps hbn (p := ⟨w.heap.size + 1 + 1, 0, none⟩) (v := .int .u64 (U b0)) (by first | assumption | (simp [*] <;> fail)); have fc5 := keeps hbn (p := ⟨w.heap.size + 1 + 1, 1, none⟩) (v := .int .u64 (U b1)) (by first | assumption | (simp [*] <;> fail)); have fc6 := keeps hbn (p := ⟨w.heap.size + 1 + 1 + 1, 0, none⟩) (v := .int .u64 (U q0)) (by first | assumption | (simp [*] <;> fail)); have fc7 := keeps hbn (p := ⟨w.heap.size + 1 + 1 + 1, 1, none⟩) (v := .int .u64 (U q1)) (by first | assumption | (simp [*] <;> fail)); have fc8 := keeps hbn (p := ⟨w2.heap.size, 0, none⟩) (v := .int .u64 (U x0)) (by first | assumption | (simp [*] <;> fail)); have fc9 := keeps hbn (p := ⟨w2.heap.size, 1, none⟩) (v := .int .u64 (U x1)) (by first | assumption | (simp [*] <;> fail)); have fc10 := keeps hbn (p := ⟨w2.heap.size, 2, none⟩) (v := .int .u64 (U u0)) (by first | assumption | (simp [*] <;> fail)); have fc11 := keeps hbn (p := ⟨w2.heap.size, 3, none⟩) (v := .int .u64 (U u1)) (by first | assumption | (simp [*] <;> fail)); have fc12 := keeps hbn (p := ⟨w3.heap.size, 0, none⟩) (v := .int .u64 (U y0)) (by first | assumption | (simp [*] <;> fail)); have fc13 := keeps hbn (p := ⟨w3.heap.size, 1, none⟩) (v := .int .u64 (U y1)) (by first | assumption | (simp [*] <;> fail)); have fc14 := keeps hbn (p := ⟨w3.heap.size, 2, none⟩) (v := .int .u64 (U v0)) (by first | assumption | (simp [*] <;> fail)); have fc15 := keeps hbn (p := ⟨w3.heap.size, 3, none⟩) (v := .int .u64 (U v1)) (by first | assumption | (simp [*] <;> fail)); have hBn := mkHid (Below.step (w := w) (Hid.out (by assumption)) hbn); have hBeg := mkHid (Below.step (w := (w3.alloc (.cells #[.int .u64 (U y0), .int .u64 (U y1), .int .u64 (U v0), .int .u64 (U v1)] 43)).drew) (Hid.out (by assumption)) hbn))))
  go_wp2_with fail
  have hb4 := hBeg.out
  have bK := Blk.keep (n := w.heap.size) (t := 24) (cs := #[.int .u64 (U k0), .int .u64 (U k1)]) (by repeat' first | with_reducible exact HK.out | with_reducible refine Blk.drew ?_ | (with_reducible refine Blk.at _ _ _ ?_; (simp <;> fail)) | with_reducible refine Blk.alloc ?_ _) hb4
  have bA := Blk.keep (n := w.heap.size + 1) (t := 24) (cs := #[.int .u64 (U a0), .int .u64 (U a1)]) (by repeat' first | with_reducible exact HA.out | with_reducible refine Blk.drew ?_ | (with_reducible refine Blk.at _ _ _ ?_; (simp <;> fail)) | with_reducible refine Blk.alloc ?_ _) hb4
  have bB := Blk.keep (n := w.heap.size + 1 + 1) (t := 24) (cs := #[.int .u64 (U b0), .int .u64 (U b1)]) (by repeat' first | with_reducible exact HB.out | with_reducible refine Blk.drew ?_ | (with_reducible refine Blk.at _ _ _ ?_; (simp <;> fail)) | with_reducible refine Blk.alloc ?_ _) hb4
  have bO := Blk.keep (n := w.heap.size + 1 + 1 + 1) (t := 24) (cs := #[.int .u64 (U q0), .int .u64 (U q1)]) (by repeat' first | with_reducible exact HO.out | with_reducible refine Blk.drew ?_ | (with_reducible refine Blk.at _ _ _ ?_; (simp <;> fail)) | with_reducible refine Blk.alloc ?_ _) hb4
  have bX := Blk.keep (n := w2.heap.size) (t := 43) (cs := #[.int .u64 (U x0), .int .u64 (U x1), .int .u64 (U u0), .int .u64 (U u1)]) (by repeat' first | with_reducible exact HX.out | with_reducible refine Blk.drew ?_ | (with_reducible refine Blk.at _ _ _ ?_; (simp <;> fail)) | with_reducible refine Blk.alloc ?_ _) hb4
  have bY := Blk.keep (n := w3.heap.size) (t := 43) (cs := #[.int .u64 (U y0), .int .u64 (U y1), .int .u64 (U v0), .int .u64 (U v1)]) (by repeat' first | with_reducible refine Blk.drew ?_ | (with_reducible refine Blk.at _ _ _ ?_; (simp <;> fail)) | with_reducible refine Blk.alloc ?_ _) hb4
  have hBN := Below.step (w := w) (by repeat' first | with_reducible exact HBel.out | with_reducible exact Below.refl _ _ | with_reducible refine Below.drew ?_ | with_reducible refine below_drewN ?_ _ | with_reducible refine Below.setCell ?_ ?_ _ | with_reducible refine Below.alloc ?_ ?_ _ | (dsimp only; omega) | (simp <;> fail) | (have := HBel.out.size; simp; omega)) hb4
  try clear cK
  try clear cA
  try clear cB
  try clear cO
  try clear cX
  clear HK lK HA lA HB lB HO lO HX lX HBel hb4
  have cK := bK.two
  have HK := mkHid bK
  have lK := bK.lt
  clear bK
  have cA := bA.two
  have HA := mkHid bA
  have lA := bA.lt
  clear bA
  have cB := bB.two
  have HB := mkHid bB
  have lB := bB.lt
  clear bB
  have cO := bO.two
  have HO := mkHid bO
  have lO := bO.lt
  clear bO
  have cX := bX.four
  have HX := mkHid bX
  have lX := bX.lt
  clear bX
  have cY := bY.four
  have HY := mkHid bY
  have lY := bY.lt
  clear bY
  have HBel := mkHid hBN
  clear hBN
  refine (unwrap_no X2 hne _).mono ?_
  rintro e w5 ⟨rfl, hb5⟩
  have bK := Blk.keep (n := w.heap.size) (t := 24) (cs := #[.int .u64 (U k0), .int .u64 (U k1)]) (by repeat' first | with_reducible exact HK.out | with_reducible refine Blk.drew ?_ | (with_reducible refine Blk.at _ _ _ ?_; (simp <;> fail)) | with_reducible refine Blk.alloc ?_ _) hb5
  have bA := Blk.keep (n := w.heap.size + 1) (t := 24) (cs := #[.int .u64 (U a0), .int .u64 (U a1)]) (by repeat' first | with_reducible exact HA.out | with_reducible refine Blk.drew ?_ | (with_reducible refine Blk.at _ _ _ ?_; (simp <;> fail)) | with_reducible refine Blk.alloc ?_ _) hb5
  have bB := Blk.keep (n := w.heap.size + 1 + 1) (t := 24) (cs := #[.int .u64 (U b0), .int .u64 (U b1)]) (by repeat' first | with_reducible exact HB.out | with_reducible refine Blk.drew ?_ | (with_reducible refine Blk.at _ _ _ ?_; (simp <;> fail)) | with_reducible refine Blk.alloc ?_ _) hb5
  have bO := Blk.keep (n := w.heap.size + 1 + 1 + 1) (t := 24) (cs := #[.int .u64 (U q0), .int .u64 (U q1)]) (by repeat' first | with_reducible exact HO.out | with_reducible refine Blk.drew ?_ | (with_reducible refine Blk.at _ _ _ ?_; (simp <;> fail)) | with_reducible refine Blk.alloc ?_ _) hb5
  have bX := Blk.keep (n := w2.heap.size) (t := 43) (cs := #[.int .u64 (U x0), .int .u64 (U x1), .int .u64 (U u0), .int .u64 (U u1)]) (by repeat' first | with_reducible exact HX.out | with_reducible refine Blk.drew ?_ | (with_reducible refine Blk.at _ _ _ ?_; (simp <;> fail)) | with_reducible refine Blk.alloc ?_ _) hb5
  have bY := Blk.keep (n := w3.heap.size) (t := 43) (cs := #[.int .u64 (U y0), .int .u64 (U y1), .int .u64 (U v0), .int .u64 (U v1)]) (by repeat' first | with_reducible exact HY.out | with_reducible refine Blk.drew ?_ | (with_reducible refine Blk.at _ _ _ ?_; (simp <;> fail)) | with_reducible refine Blk.alloc ?_ _) hb5
  have hBN := Below.step (w := w) (by repeat' first | with_reducible exact HBel.out | with_reducible exact Below.refl _ _ | with_reducible refine Below.drew ?_ | with_reducible refine below_drewN ?_ _ | with_reducible refine Below.setCell ?_ ?_ _ | with_reducible refine Below.alloc ?_ ?_ _ | (dsimp only; omega) | (simp <;> fail) | (have := HBel.out.size; simp; omega)) hb5
  try clear cK
  try clear cA
  try clear cB
  try clear cO
  try clear cX
  try clear cY
  clear HK lK HA lA HB lB HO lO HX lX HY lY HBel hb5
  have cK := bK.two
  have HK := mkHid bK
  have lK := bK.lt
  clear bK
  have cA := bA.two
  have HA := mkHid bA
  have lA := bA.lt
  clear bA
  have cB := bB.two
  have HB := mkHid bB
  have lB := bB.lt
  clear bB
  have cO := bO.two
  have HO := mkHid bO
  have lO := bO.lt
  clear bO
  have cX := bX.four
  have HX := mkHid bX
  have lX := bX.lt
  clear bX
  have cY := bY.four
  have HY := mkHid bY
  have lY := bY.lt
  clear bY
  have HBel := mkHid hBN
  clear hBN
  go_wp2_with fail
  go_ret
  exact ⟨rfl, HBel.out.alloc HBel.out.size _⟩

theorem walk_SealTag (k0 k1 a0 a1 b0 b1 q0 q1 : BitVec 64) (w : World) :
    Calls Try.prog 11 #[.agg #[.int .u64 (U k0), .int .u64 (U k1)], .agg #[.int .u64 (U a0), .int .u64 (U a1)], .agg #[.int .u64 (U b0), .int .u64 (U b1)], .agg #[.int .u64 (U q0), .int .u64 (U q1)]] w fun e w' => e = .returned (.bool true) ∧ Below w.heap.size w w' := by
  obtain ⟨x0, x1, hx⟩ := pair_ex (hideB (k0, k1) (a0, a1))
  obtain ⟨u0, u1, hu⟩ := pair_ex (tagB (k0, k1) (x0, x1))
  cases h : (U u0 == U q0 && U u1 == U q1)
  · exact walk_SealTag_no (mkHid hx) (mkHid hu) h w
  · rw [Bool.and_eq_true, beq_iff_eq, beq_iff_eq] at h
    obtain rfl := U_inj h.1
    obtain rfl := U_inj h.2
    exact walk_SealTag_yes (mkHid hx) (mkHid hu) w
end Go.Proofs.Ytdaodopeodheeaa
