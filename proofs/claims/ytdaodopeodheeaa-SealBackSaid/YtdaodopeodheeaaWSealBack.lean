/- The walk of SealBack: the Go text answers true and writes nothing that was there. -/
import Derived.Test.YtdaodopeodheeaaLive04
import Derived.Deep.DeepCutAuto
import Derived.Deep.RegionHeld3
namespace Go.Proofs.Ytdaodopeodheeaa
open Go.RowKit

theorem sealed_same {k a b x y u v : BitVec 64 × BitVec 64} (hx : hideB k a = x) (hu : tagB k x = u) (hy : hideB k b = y) (hv : tagB k y = v) :
    ((U x.1 == U y.1 && U x.2 == U y.2 && (U u.1 == U v.1 && U u.2 == U v.2)) == (U a.1 == U b.1 && U a.2 == U b.2)) = true := by
  rw [pair_beq, pair_beq, pair_beq]
  by_cases h : a = b
  · subst h
    rw [hx] at hy; subst hy
    rw [hu] at hv; subst hv
    simp
  · have h2 : x ≠ y := fun e => h (by rw [← hide_back k a, hx, e, ← hy, hide_back])
    simp [h, h2]

set_option maxRecDepth 100000 in
set_option maxHeartbeats 2000000 in
theorem walk_SealBack_yes {k0 k1 a0 a1 b0 b1 c0 c1 t0 t1 : BitVec 64} (h : Hid (tagB (k0, k1) (c0, c1) = (t0, t1)))  (w : World) :
    Calls Try.prog 10 #[.agg #[.int .u64 (U k0), .int .u64 (U k1)], .agg #[.int .u64 (U a0), .int .u64 (U a1)], .agg #[.int .u64 (U b0), .int .u64 (U b1)], .agg #[.int .u64 (U c0), .int .u64 (U c1), .int .u64 (U t0), .int .u64 (U t1)]] w fun e w' => e = .returned (.bool true) ∧ Below w.heap.size w w' := by
  have hq := eq_blocks
  have hq4 := eq_sealed
  obtain ⟨x0, x1, hx⟩ := pair_ex (hideB (k0, k1) (a0, a1))
  obtain ⟨u0, u1, hu⟩ := pair_ex (tagB (k0, k1) (x0, x1))
  obtain ⟨y0, y1, hy⟩ := pair_ex (hideB (k0, k1) (b0, b1))
  obtain ⟨v0, v1, hv⟩ := pair_ex (tagB (k0, k1) (y0, y1))
  obtain ⟨o0, o1, ho⟩ := pair_ex (hideB (k0, k1) (c0, c1))
  have hs : ((U x0 == U y0 && U x1 == U y1 && (U u0 == U v0 && U u1 == U v1)) == (U a0 == U b0 && U a1 == U b1)) = true := sealed_same hx hu hy hv
  have X1 := mkHid hx
  have X2 := mkHid hu
  have Y1 := mkHid hy
  have Y2 := mkHid hv
  have O1 := mkHid ho
  have XB : Hid (hideB (k0, k1) (x0, x1) = (a0, a1)) := mkHid (by rw [← hx, hide_back])
  have OB : Hid (hideB (k0, k1) (o0, o1) = (c0, c1)) := mkHid (by rw [← ho, hide_back])
  clear hx hu hy hv ho
  go_enter Try.func10, Try.ntmps10
  go_wp2_with fail
  refine (live04 _).mono ?_
  rintro e w1 ⟨rfl, hb1⟩
  have bK := Blk.keep (n := w.heap.size) (t := 24) (cs := #[.int .u64 (U k0), .int .u64 (U k1)]) (by repeat' first | with_reducible refine Blk.drew ?_ | (with_reducible refine Blk.at _ _ _ ?_; (simp <;> fail)) | with_reducible refine Blk.alloc ?_ _) hb1
  have bA := Blk.keep (n := w.heap.size + 1) (t := 24) (cs := #[.int .u64 (U a0), .int .u64 (U a1)]) (by repeat' first | with_reducible refine Blk.drew ?_ | (with_reducible refine Blk.at _ _ _ ?_; (simp <;> fail)) | with_reducible refine Blk.alloc ?_ _) hb1
  have bB := Blk.keep (n := w.heap.size + 1 + 1) (t := 24) (cs := #[.int .u64 (U b0), .int .u64 (U b1)]) (by repeat' first | with_reducible refine Blk.drew ?_ | (with_reducible refine Blk.at _ _ _ ?_; (simp <;> fail)) | with_reducible refine Blk.alloc ?_ _) hb1
  have bS := Blk.keep (n := w.heap.size + 1 + 1 + 1) (t := 43) (cs := #[.int .u64 (U c0), .int .u64 (U c1), .int .u64 (U t0), .int .u64 (U t1)]) (by repeat' first | with_reducible refine Blk.drew ?_ | (with_reducible refine Blk.at _ _ _ ?_; (simp <;> fail)) | with_reducible refine Blk.alloc ?_ _) hb1
  have hBN := Below.step (w := w) (by repeat' first | with_reducible exact Below.refl _ _ | with_reducible refine Below.drew ?_ | with_reducible refine below_drewN ?_ _ | with_reducible refine Below.setCell ?_ ?_ _ | with_reducible refine Below.alloc ?_ ?_ _ | (dsimp only; omega) | (simp <;> fail) | (simp; omega)) hb1
  clear hb1
  have cK := bK.two
  have HK := mkHid bK
  have lK := bK.lt
  clear bK
  have cA := bA.two
  have HA := mkHid bA
  have lA := bA.lt
  clear bA
  have cB := bB.two
  have HB := mkHid bB
  have lB := bB.lt
  clear bB
  have cS := bS.four
  have HS := mkHid bS
  have lS := bS.lt
  clear bS
  have HBel := mkHid hBN
  clear hBN
  go_wp2_with fail
  refine (wrap_eq X1 X2 _).mono ?_
  rintro e w2 ⟨rfl, hb2⟩
  have bK := Blk.keep (n := w.heap.size) (t := 24) (cs := #[.int .u64 (U k0), .int .u64 (U k1)]) (by repeat' first | with_reducible exact HK.out | with_reducible refine Blk.drew ?_ | (with_reducible refine Blk.at _ _ _ ?_; (simp <;> fail)) | with_reducible refine Blk.alloc ?_ _) hb2
  have bA := Blk.keep (n := w.heap.size + 1) (t := 24) (cs := #[.int .u64 (U a0), .int .u64 (U a1)]) (by repeat' first | with_reducible exact HA.out | with_reducible refine Blk.drew ?_ | (with_reducible refine Blk.at _ _ _ ?_; (simp <;> fail)) | with_reducible refine Blk.alloc ?_ _) hb2
  have bB := Blk.keep (n := w.heap.size + 1 + 1) (t := 24) (cs := #[.int .u64 (U b0), .int .u64 (U b1)]) (by repeat' first | with_reducible exact HB.out | with_reducible refine Blk.drew ?_ | (with_reducible refine Blk.at _ _ _ ?_; (simp <;> fail)) | with_reducible refine Blk.alloc ?_ _) hb2
  have bS := Blk.keep (n := w.heap.size + 1 + 1 + 1) (t := 43) (cs := #[.int .u64 (U c0), .int .u64 (U c1), .int .u64 (U t0), .int .u64 (U t1)]) (by repeat' first | with_reducible exact HS.out | with_reducible refine Blk.drew ?_ | (with_reducible refine Blk.at _ _ _ ?_; (simp <;> fail)) | with_reducible refine Blk.alloc ?_ _) hb2
  have hBN := Below.step (w := w) (by repeat' first | with_reducible exact HBel.out | with_reducible exact Below.refl _ _ | with_reducible refine Below.drew ?_ | with_reducible refine below_drewN ?_ _ | with_reducible refine Below.setCell ?_ ?_ _ | with_reducible refine Below.alloc ?_ ?_ _ | (dsimp only; omega) | (simp <;> fail) | (have := HBel.out.size; simp; omega)) hb2
  try clear cK
  try clear cA
  try clear cB
  try clear cS
  clear HK lK HA lA HB lB HS lS HBel hb2
  have cK := bK.two
  have HK := mkHid bK
  have lK := bK.lt
  clear bK
  have cA := bA.two
  have HA := mkHid bA
  have lA := bA.lt
  clear bA
  have cB := bB.two
  have HB := mkHid bB
  have lB := bB.lt
  clear bB
  have cS := bS.four
  have HS := mkHid bS
  have lS := bS.lt
  clear bS
  have HBel := mkHid hBN
  clear hBN
  go_wp2_with fail
  have dXK : w.heap.size < w2.heap.size := lK
  have dXA : w.heap.size + 1 < w2.heap.size := lA
  have dXB : w.heap.size + 1 + 1 < w2.heap.size := lB
  have dXS : w.heap.size + 1 + 1 + 1 < w2.heap.size := lS
  refine (unwrap_yes XB X2 _).mono ?_
  rintro e w3 ⟨rfl, hb3⟩
  have bK := Blk.keep (n := w.heap.size) (t := 24) (cs := #[.int .u64 (U k0), .int .u64 (U k1)]) (by repeat' first | with_reducible exact HK.out | with_reducible refine Blk.drew ?_ | (with_reducible refine Blk.at _ _ _ ?_; (simp <;> fail)) | with_reducible refine Blk.alloc ?_ _) hb3
  have bA := Blk.keep (n := w.heap.size + 1) (t := 24) (cs := #[.int .u64 (U a0), .int .u64 (U a1)]) (by repeat' first | with_reducible exact HA.out | with_reducible refine Blk.drew ?_ | (with_reducible refine Blk.at _ _ _ ?_; (simp <;> fail)) | with_reducible refine Blk.alloc ?_ _) hb3
  have bB := Blk.keep (n := w.heap.size + 1 + 1) (t := 24) (cs := #[.int .u64 (U b0), .int .u64 (U b1)]) (by repeat' first | with_reducible exact HB.out | with_reducible refine Blk.drew ?_ | (with_reducible refine Blk.at _ _ _ ?_; (simp <;> fail)) | with_reducible refine Blk.alloc ?_ _) hb3
  have bS := Blk.keep (n := w.heap.size + 1 + 1 + 1) (t := 43) (cs := #[.int .u64 (U c0), .int .u64 (U c1), .int .u64 (U t0), .int .u64 (U t1)]) (by repeat' first | with_reducible exact HS.out | with_reducible refine Blk.drew ?_ | (with_reducible refine Blk.at _ _ _ ?_; (simp <;> fail)) | with_reducible refine Blk.alloc ?_ _) hb3
  have bX := Blk.keep (n := w2.heap.size) (t := 43) (cs := #[.int .u64 (U x0), .int .u64 (U x1), .int .u64 (U u0), .int .u64 (U u1)]) (by repeat' first | with_reducible refine Blk.drew ?_ | (with_reducible refine Blk.at _ _ _ ?_; (simp <;> fail)) | with_reducible refine Blk.alloc ?_ _) hb3
  have hBN := Below.step (w := w) (by repeat' first | with_reducible exact HBel.out | with_reducible exact Below.refl _ _ | with_reducible refine Below.drew ?_ | with_reducible refine below_drewN ?_ _ | with_reducible refine Below.setCell ?_ ?_ _ | with_reducible refine Below.alloc ?_ ?_ _ | (dsimp only; omega) | (simp <;> fail) | (have := HBel.out.size; simp; omega)) hb3
  try clear cK
  try clear cA
  try clear cB
  try clear cS
  clear HK lK HA lA HB lB HS lS HBel hb3
  have cK := bK.two
  have HK := mkHid bK
  have lK := bK.lt
  clear bK
  have cA := bA.two
  have HA := mkHid bA
  have lA := bA.lt
  clear bA
  have cB := bB.two
  have HB := mkHid bB
  have lB := bB.lt
  clear bB
  have cS := bS.four
  have HS := mkHid bS
  have lS := bS.lt
  clear bS
  have cX := bX.four
  have HX := mkHid bX
  have lX := bX.lt
  clear bX
  have HBel := mkHid hBN
  clear hBN
  go_wp2_with fail
  have dGK : w.heap.size < w3.heap.size := lK
  have dGA : w.heap.size + 1 < w3.heap.size := lA
  have dGB : w.heap.size + 1 + 1 < w3.heap.size := lB
  have dGS : w.heap.size + 1 + 1 + 1 < w3.heap.size := lS
  have dGX : w2.heap.size < w3.heap.size := lX
  have cG := (Blk.at w3 (n := w3.heap.size) 24 #[.int .u64 (U a0), .int .u64 (U a1)] rfl).drew.two
  have HBel0 := mkHid (HBel.out.alloc HBel.out.size (.cells #[.int .u64 (U a0), .int .u64 (U a1)] 24)).drew
  go_region_held3 (fun w' => w'.cell? ⟨w.heap.size, 0, none⟩ = some (.int .u64 (U k0)) ∧ w'.cell? ⟨w.heap.size, 1, none⟩ = some (.int .u64 (U k1)) ∧ w'.cell? ⟨w.heap.size + 1, 0, none⟩ = some (.int .u64 (U a0)) ∧ w'.cell? ⟨w.heap.size + 1, 1, none⟩ = some (.int .u64 (U a1)) ∧ w'.cell? ⟨w.heap.size + 1 + 1, 0, none⟩ = some (.int .u64 (U b0)) ∧ w'.cell? ⟨w.heap.size + 1 + 1, 1, none⟩ = some (.int .u64 (U b1)) ∧ w'.cell? ⟨w.heap.size + 1 + 1 + 1, 0, none⟩ = some (.int .u64 (U c0)) ∧ w'.cell? ⟨w.heap.size + 1 + 1 + 1, 1, none⟩ = some (.int .u64 (U c1)) ∧ w'.cell? ⟨w.heap.size + 1 + 1 + 1, 2, none⟩ = some (.int .u64 (U t0)) ∧ w'.cell? ⟨w.heap.size + 1 + 1 + 1, 3, none⟩ = some (.int .u64 (U t1)) ∧ w'.cell? ⟨w2.heap.size, 0, none⟩ = some (.int .u64 (U x0)) ∧ w'.cell? ⟨w2.heap.size, 1, none⟩ = some (.int .u64 (U x1)) ∧ w'.cell? ⟨w2.heap.size, 2, none⟩ = some (.int .u64 (U u0)) ∧ w'.cell? ⟨w2.heap.size, 3, none⟩ = some (.int .u64 (U u1)) ∧ w'.cell? ⟨w3.heap.size, 0, none⟩ = some (.int .u64 (U a0)) ∧ w'.cell? ⟨w3.heap.size, 1, none⟩ = some (.int .u64 (U a1)))
    (first | ((try dsimp only); (try go_split_ands); refine ⟨?_, ?_, ?_, ?_, ?_, ?_, ?_, ?_, ?_, ?_, ?_, ?_, ?_, ?_, ?_, ?_⟩ <;> assumption) | (go_keep; done))
    (first
        | (go_at_call 31; ((with_reducible refine (wrap_eq Y1 Y2 _).mono ?_); (try go_split_ands); rintro e wn ⟨rfl, hbn⟩; have fc0 := keeps hbn (p := ⟨w.heap.size, 0, none⟩) (v := .int .u64 (U k0)) (by first | assumption | (simp [*] <;> fail)); have fc1 := keeps hbn (p := ⟨w.heap.size, 1, none⟩) (v := .int .u64 (U k1)) (by first | assumption | (simp [*] <;> fail)); have fc2 := keeps hbn (p := ⟨w.heap.size + 1, 0, none⟩) (v := .int .u64 (U a0)) (by first | assumption | (simp [*] <;> fail)); have fc3 := keeps hbn (p := ⟨w.heap.size + 1, 1, none⟩) (v := .int .u64 (U a1)) (by first | assumption | (simp [*] <;> fail)); have fc4 := keeps hbn (p := ⟨w.heap.size + 1 + 1, 0, none⟩) (v := .int .u64 (U b0)) (by first | assumption | (simp [*] <;> fail)); have fc5 := keeps hbn (p := ⟨w.heap.size + 1 + 1, 1, none⟩) (v := .int .u64 (U b1)) (by first | assumption | (simp [*] <;> fail)); have fc6 := keeps hbn (p := ⟨w.heap.size + 1 + 1 + 1, 0, none⟩) (v := .int .u64 (U c0)) (by first | assumption | (simp [*] <;> fail)); have fc7 := keeps hbn (p := ⟨w.heap.size + 1 + 1 + 1, 1, none⟩) (v := .int .u64 (U c1)) (by first | assumption | (simp [*] <;> fail)); have fc8 := keeps hbn (p := ⟨w.heap.size + 1 + 1 + 1, 2, none⟩) (v := .int .u64 (U t0)) (by first | assumption | (simp [*] <;> fail)); have fc9 := keeps hbn (p := ⟨w.heap.size + 1 + 1 + 1, 3, none⟩) (v := .int .u64 (U t1)) (by first | assumption | (simp [*] <;> fail)); have fc10 := keeps hbn (p := ⟨w2.heap.size, 0, none⟩) (v := .int .u64 (U x0)) (by first | assumption | (simp [*] <;> fail)); have fc11 := keeps hbn (p := ⟨w2.heap.size, 1, none⟩) (v := .int .u64 (U x1)) (by first | assumption | (simp [*] <;> fail)); have fc12 := keeps hbn (p := ⟨w2.heap.size, 2, none⟩) (v := .int .u64 (U u0)) (by first | assumption | (simp [*] <;> fail)); have fc13 := keeps hbn (p := ⟨w2.heap.size, 3, none⟩) (v := .int .u64 (U u1)) (by first | assumption | (simp [*] <;> fail)); have fc14 := keeps hbn (p := ⟨w3.heap.size, 0, none⟩) (v := .int .u64 (U a0)) (by first | assumption | (simp [*] <;> fail)); have fc15 := keeps hbn (p := ⟨w3.heap.size, 1, none⟩) (v := .int .u64 (U a1)) (by first | assumption | (simp [*] <;> fail)); have hBn := mkHid (Below.step (w := w) (Hid.out (by assumption)) hbn))))
  go_wp2_with fail
  have hb4 := hbn
  have wsize4 := hbn.size
  have bK := Blk.keep (n := w.heap.size) (t := 24) (cs := #[.int .u64 (U k0), .int .u64 (U k1)]) (by repeat' first | with_reducible exact HK.out | with_reducible refine Blk.drew ?_ | (with_reducible refine Blk.at _ _ _ ?_; (simp <;> fail)) | with_reducible refine Blk.alloc ?_ _) hb4
  have bA := Blk.keep (n := w.heap.size + 1) (t := 24) (cs := #[.int .u64 (U a0), .int .u64 (U a1)]) (by repeat' first | with_reducible exact HA.out | with_reducible refine Blk.drew ?_ | (with_reducible refine Blk.at _ _ _ ?_; (simp <;> fail)) | with_reducible refine Blk.alloc ?_ _) hb4
  have bB := Blk.keep (n := w.heap.size + 1 + 1) (t := 24) (cs := #[.int .u64 (U b0), .int .u64 (U b1)]) (by repeat' first | with_reducible exact HB.out | with_reducible refine Blk.drew ?_ | (with_reducible refine Blk.at _ _ _ ?_; (simp <;> fail)) | with_reducible refine Blk.alloc ?_ _) hb4
  have bS := Blk.keep (n := w.heap.size + 1 + 1 + 1) (t := 43) (cs := #[.int .u64 (U c0), .int .u64 (U c1), .int .u64 (U t0), .int .u64 (U t1)]) (by repeat' first | with_reducible exact HS.out | with_reducible refine Blk.drew ?_ | (with_reducible refine Blk.at _ _ _ ?_; (simp <;> fail)) | with_reducible refine Blk.alloc ?_ _) hb4
  have bX := Blk.keep (n := w2.heap.size) (t := 43) (cs := #[.int .u64 (U x0), .int .u64 (U x1), .int .u64 (U u0), .int .u64 (U u1)]) (by repeat' first | with_reducible exact HX.out | with_reducible refine Blk.drew ?_ | (with_reducible refine Blk.at _ _ _ ?_; (simp <;> fail)) | with_reducible refine Blk.alloc ?_ _) hb4
  have bG := Blk.keep (n := w3.heap.size) (t := 24) (cs := #[.int .u64 (U a0), .int .u64 (U a1)]) (by repeat' first | with_reducible refine Blk.drew ?_ | (with_reducible refine Blk.at _ _ _ ?_; (simp <;> fail)) | with_reducible refine Blk.alloc ?_ _) hb4
  have hBN := Below.step (w := w) (by repeat' first | with_reducible exact HBel.out | with_reducible exact Below.refl _ _ | with_reducible refine Below.drew ?_ | with_reducible refine below_drewN ?_ _ | with_reducible refine Below.setCell ?_ ?_ _ | with_reducible refine Below.alloc ?_ ?_ _ | (dsimp only; omega) | (simp <;> fail) | (have := HBel.out.size; simp; omega)) hb4
  try clear cK
  try clear cA
  try clear cB
  try clear cS
  try clear cX
  clear HK lK HA lA HB lB HS lS HX lX HBel hb4
  have cK := bK.two
  have HK := mkHid bK
  have lK := bK.lt
  clear bK
  have cA := bA.two
  have HA := mkHid bA
  have lA := bA.lt
  clear bA
  have cB := bB.two
  have HB := mkHid bB
  have lB := bB.lt
  clear bB
  have cS := bS.four
  have HS := mkHid bS
  have lS := bS.lt
  clear bS
  have cX := bX.four
  have HX := mkHid bX
  have lX := bX.lt
  clear bX
  have cG := bG.two
  have HG := mkHid bG
  have lG := bG.lt
  clear bG
  have HBel := mkHid hBN
  clear hBN
  refine (unwrap_yes O1 h _).mono ?_
  rintro e w5 ⟨rfl, hb5⟩
  have bK := Blk.keep (n := w.heap.size) (t := 24) (cs := #[.int .u64 (U k0), .int .u64 (U k1)]) (by repeat' first | with_reducible exact HK.out | with_reducible refine Blk.drew ?_ | (with_reducible refine Blk.at _ _ _ ?_; (simp <;> fail)) | with_reducible refine Blk.alloc ?_ _) hb5
  have bA := Blk.keep (n := w.heap.size + 1) (t := 24) (cs := #[.int .u64 (U a0), .int .u64 (U a1)]) (by repeat' first | with_reducible exact HA.out | with_reducible refine Blk.drew ?_ | (with_reducible refine Blk.at _ _ _ ?_; (simp <;> fail)) | with_reducible refine Blk.alloc ?_ _) hb5
  have bB := Blk.keep (n := w.heap.size + 1 + 1) (t := 24) (cs := #[.int .u64 (U b0), .int .u64 (U b1)]) (by repeat' first | with_reducible exact HB.out | with_reducible refine Blk.drew ?_ | (with_reducible refine Blk.at _ _ _ ?_; (simp <;> fail)) | with_reducible refine Blk.alloc ?_ _) hb5
  have bS := Blk.keep (n := w.heap.size + 1 + 1 + 1) (t := 43) (cs := #[.int .u64 (U c0), .int .u64 (U c1), .int .u64 (U t0), .int .u64 (U t1)]) (by repeat' first | with_reducible exact HS.out | with_reducible refine Blk.drew ?_ | (with_reducible refine Blk.at _ _ _ ?_; (simp <;> fail)) | with_reducible refine Blk.alloc ?_ _) hb5
  have bX := Blk.keep (n := w2.heap.size) (t := 43) (cs := #[.int .u64 (U x0), .int .u64 (U x1), .int .u64 (U u0), .int .u64 (U u1)]) (by repeat' first | with_reducible exact HX.out | with_reducible refine Blk.drew ?_ | (with_reducible refine Blk.at _ _ _ ?_; (simp <;> fail)) | with_reducible refine Blk.alloc ?_ _) hb5
  have bG := Blk.keep (n := w3.heap.size) (t := 24) (cs := #[.int .u64 (U a0), .int .u64 (U a1)]) (by repeat' first | with_reducible exact HG.out | with_reducible refine Blk.drew ?_ | (with_reducible refine Blk.at _ _ _ ?_; (simp <;> fail)) | with_reducible refine Blk.alloc ?_ _) hb5
  have hBN := Below.step (w := w) (by repeat' first | with_reducible exact HBel.out | with_reducible exact Below.refl _ _ | with_reducible refine Below.drew ?_ | with_reducible refine below_drewN ?_ _ | with_reducible refine Below.setCell ?_ ?_ _ | with_reducible refine Below.alloc ?_ ?_ _ | (dsimp only; omega) | (simp <;> fail) | (have := HBel.out.size; simp; omega)) hb5
  try clear cK
  try clear cA
  try clear cB
  try clear cS
  try clear cX
  try clear cG
  clear HK lK HA lA HB lB HS lS HX lX HG lG HBel hb5
  have cK := bK.two
  have HK := mkHid bK
  have lK := bK.lt
  clear bK
  have cA := bA.two
  have HA := mkHid bA
  have lA := bA.lt
  clear bA
  have cB := bB.two
  have HB := mkHid bB
  have lB := bB.lt
  clear bB
  have cS := bS.four
  have HS := mkHid bS
  have lS := bS.lt
  clear bS
  have cX := bX.four
  have HX := mkHid bX
  have lX := bX.lt
  clear bX
  have cG := bG.two
  have HG := mkHid bG
  have lG := bG.lt
  clear bG
  have HBel := mkHid hBN
  clear hBN
  go_wp2_with fail
  have dOK : w.heap.size < w5.heap.size := lK
  have dOA : w.heap.size + 1 < w5.heap.size := lA
  have dOB : w.heap.size + 1 + 1 < w5.heap.size := lB
  have dOS : w.heap.size + 1 + 1 + 1 < w5.heap.size := lS
  have dOX : w2.heap.size < w5.heap.size := lX
  have dOG : w3.heap.size < w5.heap.size := lG
  have cO := (Blk.at w5 (n := w5.heap.size) 24 #[.int .u64 (U o0), .int .u64 (U o1)] rfl).drew.two
  have HBel0 := mkHid (HBel.out.alloc HBel.out.size (.cells #[.int .u64 (U o0), .int .u64 (U o1)] 24)).drew
  go_region_held3 (fun w' => w'.cell? ⟨w.heap.size, 0, none⟩ = some (.int .u64 (U k0)) ∧ w'.cell? ⟨w.heap.size, 1, none⟩ = some (.int .u64 (U k1)) ∧ w'.cell? ⟨w.heap.size + 1, 0, none⟩ = some (.int .u64 (U a0)) ∧ w'.cell? ⟨w.heap.size + 1, 1, none⟩ = some (.int .u64 (U a1)) ∧ w'.cell? ⟨w.heap.size + 1 + 1, 0, none⟩ = some (.int .u64 (U b0)) ∧ w'.cell? ⟨w.heap.size + 1 + 1, 1, none⟩ = some (.int .u64 (U b1)) ∧ w'.cell? ⟨w.heap.size + 1 + 1 + 1, 0, none⟩ = some (.int .u64 (U c0)) ∧ w'.cell? ⟨w.heap.size + 1 + 1 + 1, 1, none⟩ = some (.int .u64 (U c1)) ∧ w'.cell? ⟨w.heap.size + 1 + 1 + 1, 2, none⟩ = some (.int .u64 (U t0)) ∧ w'.cell? ⟨w.heap.size + 1 + 1 + 1, 3, none⟩ = some (.int .u64 (U t1)) ∧ w'.cell? ⟨w2.heap.size, 0, none⟩ = some (.int .u64 (U x0)) ∧ w'.cell? ⟨w2.heap.size, 1, none⟩ = some (.int .u64 (U x1)) ∧ w'.cell? ⟨w2.heap.size, 2, none⟩ = some (.int .u64 (U u0)) ∧ w'.cell? ⟨w2.heap.size, 3, none⟩ = some (.int .u64 (U u1)) ∧ w'.cell? ⟨w3.heap.size, 0, none⟩ = some (.int .u64 (U a0)) ∧ w'.cell? ⟨w3.heap.size, 1, none⟩ = some (.int .u64 (U a1)) ∧ w'.cell? ⟨w5.heap.size, 0, none⟩ = some (.int .u64 (U o0)) ∧ w'.cell? ⟨w5.heap.size, 1, none⟩ = some (.int .u64 (U o1)))
    (first | ((try dsimp only); (try go_split_ands); refine ⟨?_, ?_, ?_, ?_, ?_, ?_, ?_, ?_, ?_, ?_, ?_, ?_, ?_, ?_, ?_, ?_, ?_, ?_⟩ <;> assumption) | (go_keep; done))
    (first
        | (go_at_call 31; ((with_reducible refine (wrap_eq OB h _).mono ?_); (try go_split_ands); rintro e wn ⟨rfl, hbn⟩; have fc0 := keeps hbn (p := ⟨w.heap.size, 0, none⟩) (v := .int .u64 (U k0)) (by first | assumption | (simp [*] <;> fail)); have fc1 := keeps hbn (p := ⟨w.heap.size, 1, none⟩) (v := .int .u64 (U k1)) (by first | assumption | (simp [*] <;> fail)); have fc2 := keeps hbn (p := ⟨w.heap.size + 1, 0, none⟩) (v := .int .u64 (U a0)) (by first | assumption | (simp [*] <;> fail)); have fc3 := keeps hbn (p := ⟨w.heap.size + 1, 1, none⟩) (v := .int .u64 (U a1)) (by first | assumption | (simp [*] <;> fail)); have fc4 := keeps hbn (p := ⟨w.heap.size + 1 + 1, 0, none⟩) (v := .int .u64 (U b0)) (by first | assumption | (simp [*] <;> fail)); have fc5 := keeps hbn (p := ⟨w.heap.size + 1 + 1, 1, none⟩) (v := .int .u64 (U b1)) (by first | assumption | (simp [*] <;> fail)); have fc6 := keeps hbn (p := ⟨w.heap.size + 1 + 1 + 1, 0, none⟩) (v := .int .u64 (U c0)) (by first | assumption | (simp [*] <;> fail)); have fc7 := keeps hbn (p := ⟨w.heap.size + 1 + 1 + 1, 1, none⟩) (v := .int .u64 (U c1)) (by first | assumption | (simp [*] <;> fail)); have fc8 := keeps hbn (p := ⟨w.heap.size + 1 + 1 + 1, 2, none⟩) (v := .int .u64 (U t0)) (by first | assumption | (simp [*] <;> fail)); have fc9 := keeps hbn (p := ⟨w.heap.size + 1 + 1 + 1, 3, none⟩) (v := .int .u64 (U t1)) (by first | assumption | (simp [*] <;> fail)); have fc10 := keeps hbn (p := ⟨w2.heap.size, 0, none⟩) (v := .int .u64 (U x0)) (by first | assumption | (simp [*] <;> fail)); have fc11 := keeps hbn (p := ⟨w2.heap.size, 1, none⟩) (v := .int .u64 (U x1)) (by first | assumption | (simp [*] <;> fail)); have fc12 := keeps hbn (p := ⟨w2.heap.size, 2, none⟩) (v := .int .u64 (U u0)) (by first | assumption | (simp [*] <;> fail)); have fc13 := keeps hbn (p := ⟨w2.heap.size, 3, none⟩) (v := .int .u64 (U u1)) (by first | assumption | (simp [*] <;> fail)); have fc14 := keeps hbn (p := ⟨w3.heap.size, 0, none⟩) (v := .int .u64 (U a0)) (by first | assumption | (simp [*] <;> fail)); have fc15 := keeps hbn (p := ⟨w3.heap.size, 1, none⟩) (v := .int .u64 (U a1)) (by first | assumption | (simp [*] <;> fail)); have fc16 := keeps hbn (p := ⟨w5.heap.size, 0, none⟩) (v := .int .u64 (U o0)) (by first | assumption | (simp [*] <;> fail)); have fc17 := keeps hbn (p := ⟨w5.heap.size, 1, none⟩) (v := .int .u64 (U o1)) (by first | assumption | (simp [*] <;> fail)); have hBn := mkHid (Below.step (w := w) (Hid.out (by assumption)) hbn))))
  go_wp2_with fail
  go_ret
  exact ⟨rfl, Hid.out (by assumption)⟩

set_option maxRecDepth 100000 in
set_option maxHeartbeats 2000000 in
theorem walk_SealBack_no {k0 k1 a0 a1 b0 b1 c0 c1 t0 t1 r0 r1 : BitVec 64} (h : Hid (tagB (k0, k1) (c0, c1) = (r0, r1))) (hne : (U r0 == U t0 && U r1 == U t1) = false) (w : World) :
    Calls Try.prog 10 #[.agg #[.int .u64 (U k0), .int .u64 (U k1)], .agg #[.int .u64 (U a0), .int .u64 (U a1)], .agg #[.int .u64 (U b0), .int .u64 (U b1)], .agg #[.int .u64 (U c0), .int .u64 (U c1), .int .u64 (U t0), .int .u64 (U t1)]] w fun e w' => e = .returned (.bool true) ∧ Below w.heap.size w w' := by
  have hq := eq_blocks
  have hq4 := eq_sealed
  obtain ⟨x0, x1, hx⟩ := pair_ex (hideB (k0, k1) (a0, a1))
  obtain ⟨u0, u1, hu⟩ := pair_ex (tagB (k0, k1) (x0, x1))
  obtain ⟨y0, y1, hy⟩ := pair_ex (hideB (k0, k1) (b0, b1))
  obtain ⟨v0, v1, hv⟩ := pair_ex (tagB (k0, k1) (y0, y1))
  obtain ⟨o0, o1, ho⟩ := pair_ex (hideB (k0, k1) (c0, c1))
  have hs : ((U x0 == U y0 && U x1 == U y1 && (U u0 == U v0 && U u1 == U v1)) == (U a0 == U b0 && U a1 == U b1)) = true := sealed_same hx hu hy hv
  have X1 := mkHid hx
  have X2 := mkHid hu
  have Y1 := mkHid hy
  have Y2 := mkHid hv
  have O1 := mkHid ho
  have XB : Hid (hideB (k0, k1) (x0, x1) = (a0, a1)) := mkHid (by rw [← hx, hide_back])
  have OB : Hid (hideB (k0, k1) (o0, o1) = (c0, c1)) := mkHid (by rw [← ho, hide_back])
  clear hx hu hy hv ho
  go_enter Try.func10, Try.ntmps10
  go_wp2_with fail
  refine (live04 _).mono ?_
  rintro e w1 ⟨rfl, hb1⟩
  have bK := Blk.keep (n := w.heap.size) (t := 24) (cs := #[.int .u64 (U k0), .int .u64 (U k1)]) (by repeat' first | with_reducible refine Blk.drew ?_ | (with_reducible refine Blk.at _ _ _ ?_; (simp <;> fail)) | with_reducible refine Blk.alloc ?_ _) hb1
  have bA := Blk.keep (n := w.heap.size + 1) (t := 24) (cs := #[.int .u64 (U a0), .int .u64 (U a1)]) (by repeat' first | with_reducible refine Blk.drew ?_ | (with_reducible refine Blk.at _ _ _ ?_; (simp <;> fail)) | with_reducible refine Blk.alloc ?_ _) hb1
  have bB := Blk.keep (n := w.heap.size + 1 + 1) (t := 24) (cs := #[.int .u64 (U b0), .int .u64 (U b1)]) (by repeat' first | with_reducible refine Blk.drew ?_ | (with_reducible refine Blk.at _ _ _ ?_; (simp <;> fail)) | with_reducible refine Blk.alloc ?_ _) hb1
  have bS := Blk.keep (n := w.heap.size + 1 + 1 + 1) (t := 43) (cs := #[.int .u64 (U c0), .int .u64 (U c1), .int .u64 (U t0), .int .u64 (U t1)]) (by repeat' first | with_reducible refine Blk.drew ?_ | (with_reducible refine Blk.at _ _ _ ?_; (simp <;> fail)) | with_reducible refine Blk.alloc ?_ _) hb1
  have hBN := Below.step (w := w) (by repeat' first | with_reducible exact Below.refl _ _ | with_reducible refine Below.drew ?_ | with_reducible refine below_drewN ?_ _ | with_reducible refine Below.setCell ?_ ?_ _ | with_reducible refine Below.alloc ?_ ?_ _ | (dsimp only; omega) | (simp <;> fail) | (simp; omega)) hb1
  clear hb1
  have cK := bK.two
  have HK := mkHid bK
  have lK := bK.lt
  clear bK
  have cA := bA.two
  have HA := mkHid bA
  have lA := bA.lt
  clear bA
  have cB := bB.two
  have HB := mkHid bB
  have lB := bB.lt
  clear bB
  have cS := bS.four
  have HS := mkHid bS
  have lS := bS.lt
  clear bS
  have HBel := mkHid hBN
  clear hBN
  go_wp2_with fail
  refine (wrap_eq X1 X2 _).mono ?_
  rintro e w2 ⟨rfl, hb2⟩
  have bK := Blk.keep (n := w.heap.size) (t := 24) (cs := #[.int .u64 (U k0), .int .u64 (U k1)]) (by repeat' first | with_reducible exact HK.out | with_reducible refine Blk.drew ?_ | (with_reducible refine Blk.at _ _ _ ?_; (simp <;> fail)) | with_reducible refine Blk.alloc ?_ _) hb2
  have bA := Blk.keep (n := w.heap.size + 1) (t := 24) (cs := #[.int .u64 (U a0), .int .u64 (U a1)]) (by repeat' first | with_reducible exact HA.out | with_reducible refine Blk.drew ?_ | (with_reducible refine Blk.at _ _ _ ?_; (simp <;> fail)) | with_reducible refine Blk.alloc ?_ _) hb2
  have bB := Blk.keep (n := w.heap.size + 1 + 1) (t := 24) (cs := #[.int .u64 (U b0), .int .u64 (U b1)]) (by repeat' first | with_reducible exact HB.out | with_reducible refine Blk.drew ?_ | (with_reducible refine Blk.at _ _ _ ?_; (simp <;> fail)) | with_reducible refine Blk.alloc ?_ _) hb2
  have bS := Blk.keep (n := w.heap.size + 1 + 1 + 1) (t := 43) (cs := #[.int .u64 (U c0), .int .u64 (U c1), .int .u64 (U t0), .int .u64 (U t1)]) (by repeat' first | with_reducible exact HS.out | with_reducible refine Blk.drew ?_ | (with_reducible refine Blk.at _ _ _ ?_; (simp <;> fail)) | with_reducible refine Blk.alloc ?_ _) hb2
  have hBN := Below.step (w := w) (by repeat' first | with_reducible exact HBel.out | with_reducible exact Below.refl _ _ | with_reducible refine Below.drew ?_ | with_reducible refine below_drewN ?_ _ | with_reducible refine Below.setCell ?_ ?_ _ | with_reducible refine Below.alloc ?_ ?_ _ | (dsimp only; omega) | (simp <;> fail) | (have := HBel.out.size; simp; omega)) hb2
  try clear cK
  try clear cA
  try clear cB
  try clear cS
  clear HK lK HA lA HB lB HS lS HBel hb2
  have cK := bK.two
  have HK := mkHid bK
  have lK := bK.lt
  clear bK
  have cA := bA.two
  have HA := mkHid bA
  have lA := bA.lt
  clear bA
  have cB := bB.two
  have HB := mkHid bB
  have lB := bB.lt
  clear bB
  have cS := bS.four
  have HS := mkHid bS
  have lS := bS.lt
  clear bS
  have HBel := mkHid hBN
  clear hBN
  go_wp2_with fail
  have dXK : w.heap.size < w2.heap.size := lK
  have dXA : w.heap.size + 1 < w2.heap.size := lA
  have dXB : w.heap.size + 1 + 1 < w2.heap.size := lB
  have dXS : w.heap.size + 1 + 1 + 1 < w2.heap.size := lS
  refine (unwrap_yes XB X2 _).mono ?_
  rintro e w3 ⟨rfl, hb3⟩
  have bK := Blk.keep (n := w.heap.size) (t := 24) (cs := #[.int .u64 (U k0), .int .u64 (U k1)]) (by repeat' first | with_reducible exact HK.out | with_reducible refine Blk.drew ?_ | (with_reducible refine Blk.at _ _ _ ?_; (simp <;> fail)) | with_reducible refine Blk.alloc ?_ _) hb3
  have bA := Blk.keep (n := w.heap.size + 1) (t := 24) (cs := #[.int .u64 (U a0), .int .u64 (U a1)]) (by repeat' first | with_reducible exact HA.out | with_reducible refine Blk.drew ?_ | (with_reducible refine Blk.at _ _ _ ?_; (simp <;> fail)) | with_reducible refine Blk.alloc ?_ _) hb3
  have bB := Blk.keep (n := w.heap.size + 1 + 1) (t := 24) (cs := #[.int .u64 (U b0), .int .u64 (U b1)]) (by repeat' first | with_reducible exact HB.out | with_reducible refine Blk.drew ?_ | (with_reducible refine Blk.at _ _ _ ?_; (simp <;> fail)) | with_reducible refine Blk.alloc ?_ _) hb3
  have bS := Blk.keep (n := w.heap.size + 1 + 1 + 1) (t := 43) (cs := #[.int .u64 (U c0), .int .u64 (U c1), .int .u64 (U t0), .int .u64 (U t1)]) (by repeat' first | with_reducible exact HS.out | with_reducible refine Blk.drew ?_ | (with_reducible refine Blk.at _ _ _ ?_; (simp <;> fail)) | with_reducible refine Blk.alloc ?_ _) hb3
  have bX := Blk.keep (n := w2.heap.size) (t := 43) (cs := #[.int .u64 (U x0), .int .u64 (U x1), .int .u64 (U u0), .int .u64 (U u1)]) (by repeat' first | with_reducible refine Blk.drew ?_ | (with_reducible refine Blk.at _ _ _ ?_; (simp <;> fail)) | with_reducible refine Blk.alloc ?_ _) hb3
  have hBN := Below.step (w := w) (by repeat' first | with_reducible exact HBel.out | with_reducible exact Below.refl _ _ | with_reducible refine Below.drew ?_ | with_reducible refine below_drewN ?_ _ | with_reducible refine Below.setCell ?_ ?_ _ | with_reducible refine Below.alloc ?_ ?_ _ | (dsimp only; omega) | (simp <;> fail) | (have := HBel.out.size; simp; omega)) hb3
  try clear cK
  try clear cA
  try clear cB
  try clear cS
  clear HK lK HA lA HB lB HS lS HBel hb3
  have cK := bK.two
  have HK := mkHid bK
  have lK := bK.lt
  clear bK
  have cA := bA.two
  have HA := mkHid bA
  have lA := bA.lt
  clear bA
  have cB := bB.two
  have HB := mkHid bB
  have lB := bB.lt
  clear bB
  have cS := bS.four
  have HS := mkHid bS
  have lS := bS.lt
  clear bS
  have cX := bX.four
  have HX := mkHid bX
  have lX := bX.lt
  clear bX
  have HBel := mkHid hBN
  clear hBN
  go_wp2_with fail
  have dGK : w.heap.size < w3.heap.size := lK
  have dGA : w.heap.size + 1 < w3.heap.size := lA
  have dGB : w.heap.size + 1 + 1 < w3.heap.size := lB
  have dGS : w.heap.size + 1 + 1 + 1 < w3.heap.size := lS
  have dGX : w2.heap.size < w3.heap.size := lX
  have cG := (Blk.at w3 (n := w3.heap.size) 24 #[.int .u64 (U a0), .int .u64 (U a1)] rfl).drew.two
  have HBel0 := mkHid (HBel.out.alloc HBel.out.size (.cells #[.int .u64 (U a0), .int .u64 (U a1)] 24)).drew
  go_region_held3 (fun w' => w'.cell? ⟨w.heap.size, 0, none⟩ = some (.int .u64 (U k0)) ∧ w'.cell? ⟨w.heap.size, 1, none⟩ = some (.int .u64 (U k1)) ∧ w'.cell? ⟨w.heap.size + 1, 0, none⟩ = some (.int .u64 (U a0)) ∧ w'.cell? ⟨w.heap.size + 1, 1, none⟩ = some (.int .u64 (U a1)) ∧ w'.cell? ⟨w.heap.size + 1 + 1, 0, none⟩ = some (.int .u64 (U b0)) ∧ w'.cell? ⟨w.heap.size + 1 + 1, 1, none⟩ = some (.int .u64 (U b1)) ∧ w'.cell? ⟨w.heap.size + 1 + 1 + 1, 0, none⟩ = some (.int .u64 (U c0)) ∧ w'.cell? ⟨w.heap.size + 1 + 1 + 1, 1, none⟩ = some (.int .u64 (U c1)) ∧ w'.cell? ⟨w.heap.size + 1 + 1 + 1, 2, none⟩ = some (.int .u64 (U t0)) ∧ w'.cell? ⟨w.heap.size + 1 + 1 + 1, 3, none⟩ = some (.int .u64 (U t1)) ∧ w'.cell? ⟨w2.heap.size, 0, none⟩ = some (.int .u64 (U x0)) ∧ w'.cell? ⟨w2.heap.size, 1, none⟩ = some (.int .u64 (U x1)) ∧ w'.cell? ⟨w2.heap.size, 2, none⟩ = some (.int .u64 (U u0)) ∧ w'.cell? ⟨w2.heap.size, 3, none⟩ = some (.int .u64 (U u1)) ∧ w'.cell? ⟨w3.heap.size, 0, none⟩ = some (.int .u64 (U a0)) ∧ w'.cell? ⟨w3.heap.size, 1, none⟩ = some (.int .u64 (U a1)))
    (first | ((try dsimp only); (try go_split_ands); refine ⟨?_, ?_, ?_, ?_, ?_, ?_, ?_, ?_, ?_, ?_, ?_, ?_, ?_, ?_, ?_, ?_⟩ <;> assumption) | (go_keep; done))
    (first
        | (go_at_call 31; ((with_reducible refine (wrap_eq Y1 Y2 _).mono ?_); (try go_split_ands); rintro e wn ⟨rfl, hbn⟩; have fc0 := keeps hbn (p := ⟨w.heap.size, 0, none⟩) (v := .int .u64 (U k0)) (by first | assumption | (simp [*] <;> fail)); have fc1 := keeps hbn (p := ⟨w.heap.size, 1, none⟩) (v := .int .u64 (U k1)) (by first | assumption | (simp [*] <;> fail)); have fc2 := keeps hbn (p := ⟨w.heap.size + 1, 0, none⟩) (v := .int .u64 (U a0)) (by first | assumption | (simp [*] <;> fail)); have fc3 := keeps hbn (p := ⟨w.heap.size + 1, 1, none⟩) (v := .int .u64 (U a1)) (by first | assumption | (simp [*] <;> fail)); have fc4 := keeps hbn (p := ⟨w.heap.size + 1 + 1, 0, none⟩) (v := .int .u64 (U b0)) (by first | assumption | (simp [*] <;> fail)); have fc5 := keeps hbn (p := ⟨w.heap.size + 1 + 1, 1, none⟩) (v := .int .u64 (U b1)) (by first | assumption | (simp [*] <;> fail)); have fc6 := keeps hbn (p := ⟨w.heap.size + 1 + 1 + 1, 0, none⟩) (v := .int .u64 (U c0)) (by first | assumption | (simp [*] <;> fail)); have fc7 := keeps hbn (p := ⟨w.heap.size + 1 + 1 + 1, 1, none⟩) (v := .int .u64 (U c1)) (by first | assumption | (simp [*] <;> fail)); have fc8 := keeps hbn (p := ⟨w.heap.size + 1 + 1 + 1, 2, none⟩) (v := .int .u64 (U t0)) (by first | assumption | (simp [*] <;> fail)); have fc9 := keeps hbn (p := ⟨w.heap.size + 1 + 1 + 1, 3, none⟩) (v := .int .u64 (U t1)) (by first | assumption | (simp [*] <;> fail)); have fc10 := keeps hbn (p := ⟨w2.heap.size, 0, none⟩) (v := .int .u64 (U x0)) (by first | assumption | (simp [*] <;> fail)); have fc11 := keeps hbn (p := ⟨w2.heap.size, 1, none⟩) (v := .int .u64 (U x1)) (by first | assumption | (simp [*] <;> fail)); have fc12 := keeps hbn (p := ⟨w2.heap.size, 2, none⟩) (v := .int .u64 (U u0)) (by first | assumption | (simp [*] <;> fail)); have fc13 := keeps hbn (p := ⟨w2.heap.size, 3, none⟩) (v := .int .u64 (U u1)) (by first | assumption | (simp [*] <;> fail)); have fc14 := keeps hbn (p := ⟨w3.heap.size, 0, none⟩) (v := .int .u64 (U a0)) (by first | assumption | (simp [*] <;> fail)); have fc15 := keeps hbn (p := ⟨w3.heap.size, 1, none⟩) (v := .int .u64 (U a1)) (by first | assumption | (simp [*] <;> fail)); have hBn := mkHid (Below.step (w := w) (Hid.out (by assumption)) hbn))))
  go_wp2_with fail
  have hb4 := hbn
  have wsize4 := hbn.size
  have bK := Blk.keep (n := w.heap.size) (t := 24) (cs := #[.int .u64 (U k0), .int .u64 (U k1)]) (by repeat' first | with_reducible exact HK.out | with_reducible refine Blk.drew ?_ | (with_reducible refine Blk.at _ _ _ ?_; (simp <;> fail)) | with_reducible refine Blk.alloc ?_ _) hb4
  have bA := Blk.keep (n := w.heap.size + 1) (t := 24) (cs := #[.int .u64 (U a0), .int .u64 (U a1)]) (by repeat' first | with_reducible exact HA.out | with_reducible refine Blk.drew ?_ | (with_reducible refine Blk.at _ _ _ ?_; (simp <;> fail)) | with_reducible refine Blk.alloc ?_ _) hb4
  have bB := Blk.keep (n := w.heap.size + 1 + 1) (t := 24) (cs := #[.int .u64 (U b0), .int .u64 (U b1)]) (by repeat' first | with_reducible exact HB.out | with_reducible refine Blk.drew ?_ | (with_reducible refine Blk.at _ _ _ ?_; (simp <;> fail)) | with_reducible refine Blk.alloc ?_ _) hb4
  have bS := Blk.keep (n := w.heap.size + 1 + 1 + 1) (t := 43) (cs := #[.int .u64 (U c0), .int .u64 (U c1), .int .u64 (U t0), .int .u64 (U t1)]) (by repeat' first | with_reducible exact HS.out | with_reducible refine Blk.drew ?_ | (with_reducible refine Blk.at _ _ _ ?_; (simp <;> fail)) | with_reducible refine Blk.alloc ?_ _) hb4
  have bX := Blk.keep (n := w2.heap.size) (t := 43) (cs := #[.int .u64 (U x0), .int .u64 (U x1), .int .u64 (U u0), .int .u64 (U u1)]) (by repeat' first | with_reducible exact HX.out | with_reducible refine Blk.drew ?_ | (with_reducible refine Blk.at _ _ _ ?_; (simp <;> fail)) | with_reducible refine Blk.alloc ?_ _) hb4
  have bG := Blk.keep (n := w3.heap.size) (t := 24) (cs := #[.int .u64 (U a0), .int .u64 (U a1)]) (by repeat' first | with_reducible refine Blk.drew ?_ | (with_reducible refine Blk.at _ _ _ ?_; (simp <;> fail)) | with_reducible refine Blk.alloc ?_ _) hb4
  have hBN := Below.step (w := w) (by repeat' first | with_reducible exact HBel.out | with_reducible exact Below.refl _ _ | with_reducible refine Below.drew ?_ | with_reducible refine below_drewN ?_ _ | with_reducible refine Below.setCell ?_ ?_ _ | with_reducible refine Below.alloc ?_ ?_ _ | (dsimp only; omega) | (simp <;> fail) | (have := HBel.out.size; simp; omega)) hb4
  try clear cK
  try clear cA
  try clear cB
  try clear cS
  try clear cX
  clear HK lK HA lA HB lB HS lS HX lX HBel hb4
  have cK := bK.two
  have HK := mkHid bK
  have lK := bK.lt
  clear bK
  have cA := bA.two
  have HA := mkHid bA
  have lA := bA.lt
  clear bA
  have cB := bB.two
  have HB := mkHid bB
  have lB := bB.lt
  clear bB
  have cS := bS.four
  have HS := mkHid bS
  have lS := bS.lt
  clear bS
  have cX := bX.four
  have HX := mkHid bX
  have lX := bX.lt
  clear bX
  have cG := bG.two
  have HG := mkHid bG
  have lG := bG.lt
  clear bG
  have HBel := mkHid hBN
  clear hBN
  refine (unwrap_no h hne _).mono ?_
  rintro e w5 ⟨rfl, hb5⟩
  have bK := Blk.keep (n := w.heap.size) (t := 24) (cs := #[.int .u64 (U k0), .int .u64 (U k1)]) (by repeat' first | with_reducible exact HK.out | with_reducible refine Blk.drew ?_ | (with_reducible refine Blk.at _ _ _ ?_; (simp <;> fail)) | with_reducible refine Blk.alloc ?_ _) hb5
  have bA := Blk.keep (n := w.heap.size + 1) (t := 24) (cs := #[.int .u64 (U a0), .int .u64 (U a1)]) (by repeat' first | with_reducible exact HA.out | with_reducible refine Blk.drew ?_ | (with_reducible refine Blk.at _ _ _ ?_; (simp <;> fail)) | with_reducible refine Blk.alloc ?_ _) hb5
  have bB := Blk.keep (n := w.heap.size + 1 + 1) (t := 24) (cs := #[.int .u64 (U b0), .int .u64 (U b1)]) (by repeat' first | with_reducible exact HB.out | with_reducible refine Blk.drew ?_ | (with_reducible refine Blk.at _ _ _ ?_; (simp <;> fail)) | with_reducible refine Blk.alloc ?_ _) hb5
  have bS := Blk.keep (n := w.heap.size + 1 + 1 + 1) (t := 43) (cs := #[.int .u64 (U c0), .int .u64 (U c1), .int .u64 (U t0), .int .u64 (U t1)]) (by repeat' first | with_reducible exact HS.out | with_reducible refine Blk.drew ?_ | (with_reducible refine Blk.at _ _ _ ?_; (simp <;> fail)) | with_reducible refine Blk.alloc ?_ _) hb5
  have bX := Blk.keep (n := w2.heap.size) (t := 43) (cs := #[.int .u64 (U x0), .int .u64 (U x1), .int .u64 (U u0), .int .u64 (U u1)]) (by repeat' first | with_reducible exact HX.out | with_reducible refine Blk.drew ?_ | (with_reducible refine Blk.at _ _ _ ?_; (simp <;> fail)) | with_reducible refine Blk.alloc ?_ _) hb5
  have bG := Blk.keep (n := w3.heap.size) (t := 24) (cs := #[.int .u64 (U a0), .int .u64 (U a1)]) (by repeat' first | with_reducible exact HG.out | with_reducible refine Blk.drew ?_ | (with_reducible refine Blk.at _ _ _ ?_; (simp <;> fail)) | with_reducible refine Blk.alloc ?_ _) hb5
  have hBN := Below.step (w := w) (by repeat' first | with_reducible exact HBel.out | with_reducible exact Below.refl _ _ | with_reducible refine Below.drew ?_ | with_reducible refine below_drewN ?_ _ | with_reducible refine Below.setCell ?_ ?_ _ | with_reducible refine Below.alloc ?_ ?_ _ | (dsimp only; omega) | (simp <;> fail) | (have := HBel.out.size; simp; omega)) hb5
  try clear cK
  try clear cA
  try clear cB
  try clear cS
  try clear cX
  try clear cG
  clear HK lK HA lA HB lB HS lS HX lX HG lG HBel hb5
  have cK := bK.two
  have HK := mkHid bK
  have lK := bK.lt
  clear bK
  have cA := bA.two
  have HA := mkHid bA
  have lA := bA.lt
  clear bA
  have cB := bB.two
  have HB := mkHid bB
  have lB := bB.lt
  clear bB
  have cS := bS.four
  have HS := mkHid bS
  have lS := bS.lt
  clear bS
  have cX := bX.four
  have HX := mkHid bX
  have lX := bX.lt
  clear bX
  have cG := bG.two
  have HG := mkHid bG
  have lG := bG.lt
  clear bG
  have HBel := mkHid hBN
  clear hBN
  go_wp2_with fail
  go_ret
  exact ⟨rfl, HBel.out.alloc HBel.out.size _⟩

theorem walk_SealBack (k0 k1 a0 a1 b0 b1 c0 c1 t0 t1 : BitVec 64) (w : World) :
    Calls Try.prog 10 #[.agg #[.int .u64 (U k0), .int .u64 (U k1)], .agg #[.int .u64 (U a0), .int .u64 (U a1)], .agg #[.int .u64 (U b0), .int .u64 (U b1)], .agg #[.int .u64 (U c0), .int .u64 (U c1), .int .u64 (U t0), .int .u64 (U t1)]] w fun e w' => e = .returned (.bool true) ∧ Below w.heap.size w w' := by
  obtain ⟨r0, r1, hr⟩ := pair_ex (tagB (k0, k1) (c0, c1))
  cases h : (U r0 == U t0 && U r1 == U t1)
  · exact walk_SealBack_no (mkHid hr) h w
  · rw [Bool.and_eq_true, beq_iff_eq, beq_iff_eq] at h
    obtain rfl := U_inj h.1
    obtain rfl := U_inj h.2
    exact walk_SealBack_yes (mkHid hr) w
end Go.Proofs.Ytdaodopeodheeaa
