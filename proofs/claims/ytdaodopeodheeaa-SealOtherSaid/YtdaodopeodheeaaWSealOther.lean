/- The walk of SealOther: the Go text answers true and writes nothing that was there. -/
import Derived.Test.YtdaodopeodheeaaLive04
import Derived.Deep.DeepCutAuto
import Derived.Deep.RegionHeld3
namespace Go.Proofs.Ytdaodopeodheeaa
open Go.RowKit

set_option maxRecDepth 100000 in
set_option maxHeartbeats 8000000 in
theorem walk_SealOther_yes {k0 k1 o0 o1 b0 b1 c0 c1 t0 t1 : BitVec 64} (X1 : Hid (hideB (k0, k1) (b0, b1) = (c0, c1))) (X2 : Hid (tagB (k0, k1) (c0, c1) = (t0, t1))) (X3 : Hid (tagB (o0, o1) (c0, c1) = (t0, t1))) (w : World) :
    Calls Try.prog 12 #[.agg #[.int .u64 (U k0), .int .u64 (U k1)], .agg #[.int .u64 (U o0), .int .u64 (U o1)], .agg #[.int .u64 (U b0), .int .u64 (U b1)]] w fun e w' => e = .returned (.bool true) ∧ Below w.heap.size w w' := by
  have hq := eq_blocks
  have hq4 := eq_sealed
  obtain ⟨p0, p1, hp⟩ := pair_ex (hideB (o0, o1) (c0, c1))
  have P1 := mkHid hp
  have PB : Hid (hideB (o0, o1) (p0, p1) = (c0, c1)) := mkHid (by rw [← hp, hide_back])
  clear hp
  go_enter Try.func12, Try.ntmps12
  go_wp2_with fail
  refine (live04 _).mono ?_
  rintro e w1 ⟨rfl, hb1⟩
  have bK := Blk.keep (n := w.heap.size) (t := 24) (cs := #[.int .u64 (U k0), .int .u64 (U k1)]) (by repeat' first | with_reducible refine Blk.drew ?_ | (with_reducible refine Blk.at _ _ _ ?_; (simp <;> fail)) | with_reducible refine Blk.alloc ?_ _) hb1
  have bO := Blk.keep (n := w.heap.size + 1) (t := 24) (cs := #[.int .u64 (U o0), .int .u64 (U o1)]) (by repeat' first | with_reducible refine Blk.drew ?_ | (with_reducible refine Blk.at _ _ _ ?_; (simp <;> fail)) | with_reducible refine Blk.alloc ?_ _) hb1
  have bB := Blk.keep (n := w.heap.size + 1 + 1) (t := 24) (cs := #[.int .u64 (U b0), .int .u64 (U b1)]) (by repeat' first | with_reducible refine Blk.drew ?_ | (with_reducible refine Blk.at _ _ _ ?_; (simp <;> fail)) | with_reducible refine Blk.alloc ?_ _) hb1
  have hBN := Below.step (w := w) (by repeat' first | with_reducible exact Below.refl _ _ | with_reducible refine Below.drew ?_ | with_reducible refine below_drewN ?_ _ | with_reducible refine Below.setCell ?_ ?_ _ | with_reducible refine Below.alloc ?_ ?_ _ | (dsimp only; omega) | (simp <;> fail) | (simp; omega)) hb1
  clear hb1
  have cK := bK.two
  have HK := mkHid bK
  have lK := bK.lt
  clear bK
  have cO := bO.two
  have HO := mkHid bO
  have lO := bO.lt
  clear bO
  have cB := bB.two
  have HB := mkHid bB
  have lB := bB.lt
  clear bB
  have HBel := mkHid hBN
  clear hBN
  go_wp2_with fail
  refine (wrap_eq X1 X2 _).mono ?_
  rintro e w2 ⟨rfl, hb2⟩
  have bK := Blk.keep (n := w.heap.size) (t := 24) (cs := #[.int .u64 (U k0), .int .u64 (U k1)]) (by repeat' first | with_reducible exact HK.out | with_reducible refine Blk.drew ?_ | (with_reducible refine Blk.at _ _ _ ?_; (simp <;> fail)) | with_reducible refine Blk.alloc ?_ _) hb2
  have bO := Blk.keep (n := w.heap.size + 1) (t := 24) (cs := #[.int .u64 (U o0), .int .u64 (U o1)]) (by repeat' first | with_reducible exact HO.out | with_reducible refine Blk.drew ?_ | (with_reducible refine Blk.at _ _ _ ?_; (simp <;> fail)) | with_reducible refine Blk.alloc ?_ _) hb2
  have bB := Blk.keep (n := w.heap.size + 1 + 1) (t := 24) (cs := #[.int .u64 (U b0), .int .u64 (U b1)]) (by repeat' first | with_reducible exact HB.out | with_reducible refine Blk.drew ?_ | (with_reducible refine Blk.at _ _ _ ?_; (simp <;> fail)) | with_reducible refine Blk.alloc ?_ _) hb2
  have hBN := Below.step (w := w) (by repeat' first | with_reducible exact HBel.out | with_reducible exact Below.refl _ _ | with_reducible refine Below.drew ?_ | with_reducible refine below_drewN ?_ _ | with_reducible refine Below.setCell ?_ ?_ _ | with_reducible refine Below.alloc ?_ ?_ _ | (dsimp only; omega) | (simp <;> fail) | (have := HBel.out.size; simp; omega)) hb2
  try clear cK
  try clear cO
  try clear cB
  clear HK lK HO lO HB lB HBel hb2
  have cK := bK.two
  have HK := mkHid bK
  have lK := bK.lt
  clear bK
  have cO := bO.two
  have HO := mkHid bO
  have lO := bO.lt
  clear bO
  have cB := bB.two
  have HB := mkHid bB
  have lB := bB.lt
  clear bB
  have HBel := mkHid hBN
  clear hBN
  go_wp2_with fail
  have dSK : w.heap.size < w2.heap.size := lK
  have dSO : w.heap.size + 1 < w2.heap.size := lO
  have dSB : w.heap.size + 1 + 1 < w2.heap.size := lB
  refine (unwrap_yes P1 X3 _).mono ?_
  rintro e w3 ⟨rfl, hb3⟩
  have bK := Blk.keep (n := w.heap.size) (t := 24) (cs := #[.int .u64 (U k0), .int .u64 (U k1)]) (by repeat' first | with_reducible exact HK.out | with_reducible refine Blk.drew ?_ | (with_reducible refine Blk.at _ _ _ ?_; (simp <;> fail)) | with_reducible refine Blk.alloc ?_ _) hb3
  have bO := Blk.keep (n := w.heap.size + 1) (t := 24) (cs := #[.int .u64 (U o0), .int .u64 (U o1)]) (by repeat' first | with_reducible exact HO.out | with_reducible refine Blk.drew ?_ | (with_reducible refine Blk.at _ _ _ ?_; (simp <;> fail)) | with_reducible refine Blk.alloc ?_ _) hb3
  have bB := Blk.keep (n := w.heap.size + 1 + 1) (t := 24) (cs := #[.int .u64 (U b0), .int .u64 (U b1)]) (by repeat' first | with_reducible exact HB.out | with_reducible refine Blk.drew ?_ | (with_reducible refine Blk.at _ _ _ ?_; (simp <;> fail)) | with_reducible refine Blk.alloc ?_ _) hb3
  have bS := Blk.keep (n := w2.heap.size) (t := 43) (cs := #[.int .u64 (U c0), .int .u64 (U c1), .int .u64 (U t0), .int .u64 (U t1)]) (by repeat' first | with_reducible refine Blk.drew ?_ | (with_reducible refine Blk.at _ _ _ ?_; (simp <;> fail)) | with_reducible refine Blk.alloc ?_ _) hb3
  have hBN := Below.step (w := w) (by repeat' first | with_reducible exact HBel.out | with_reducible exact Below.refl _ _ | with_reducible refine Below.drew ?_ | with_reducible refine below_drewN ?_ _ | with_reducible refine Below.setCell ?_ ?_ _ | with_reducible refine Below.alloc ?_ ?_ _ | (dsimp only; omega) | (simp <;> fail) | (have := HBel.out.size; simp; omega)) hb3
  try clear cK
  try clear cO
  try clear cB
  clear HK lK HO lO HB lB HBel hb3
  have cK := bK.two
  have HK := mkHid bK
  have lK := bK.lt
  clear bK
  have cO := bO.two
  have HO := mkHid bO
  have lO := bO.lt
  clear bO
  have cB := bB.two
  have HB := mkHid bB
  have lB := bB.lt
  clear bB
  have cS := bS.four
  have HS := mkHid bS
  have lS := bS.lt
  clear bS
  have HBel := mkHid hBN
  clear hBN
  go_wp2_with fail
  have dGK : w.heap.size < w3.heap.size := lK
  have dGO : w.heap.size + 1 < w3.heap.size := lO
  have dGB : w.heap.size + 1 + 1 < w3.heap.size := lB
  have dGS : w2.heap.size < w3.heap.size := lS
  have cN := (Blk.at w3 (n := w3.heap.size) 24 #[.int .u64 (U p0), .int .u64 (U p1)] rfl).drew.two
  have HBeg0 : Hid (Below ((w3.alloc (.cells #[.int .u64 (U p0), .int .u64 (U p1)] 24)).drew).heap.size ((w3.alloc (.cells #[.int .u64 (U p0), .int .u64 (U p1)] 24)).drew) ((w3.alloc (.cells #[.int .u64 (U p0), .int .u64 (U p1)] 24)).drew)) := mkHid (Below.refl _ _)
  have HBel0 := mkHid (HBel.out.alloc HBel.out.size (.cells #[.int .u64 (U p0), .int .u64 (U p1)] 24)).drew
  go_region_held3 (fun w' => w'.cell? ⟨w.heap.size, 0, none⟩ = some (.int .u64 (U k0)) ∧ w'.cell? ⟨w.heap.size, 1, none⟩ = some (.int .u64 (U k1)) ∧ w'.cell? ⟨w.heap.size + 1, 0, none⟩ = some (.int .u64 (U o0)) ∧ w'.cell? ⟨w.heap.size + 1, 1, none⟩ = some (.int .u64 (U o1)) ∧ w'.cell? ⟨w.heap.size + 1 + 1, 0, none⟩ = some (.int .u64 (U b0)) ∧ w'.cell? ⟨w.heap.size + 1 + 1, 1, none⟩ = some (.int .u64 (U b1)) ∧ w'.cell? ⟨w2.heap.size, 0, none⟩ = some (.int .u64 (U c0)) ∧ w'.cell? ⟨w2.heap.size, 1, none⟩ = some (.int .u64 (U c1)) ∧ w'.cell? ⟨w2.heap.size, 2, none⟩ = some (.int .u64 (U t0)) ∧ w'.cell? ⟨w2.heap.size, 3, none⟩ = some (.int .u64 (U t1)) ∧ w'.cell? ⟨w3.heap.size, 0, none⟩ = some (.int .u64 (U p0)) ∧ w'.cell? ⟨w3.heap.size, 1, none⟩ = some (.int .u64 (U p1)))
    (first | ((try dsimp only); (try go_split_ands); refine ⟨?_, ?_, ?_, ?_, ?_, ?_, ?_, ?_, ?_, ?_, ?_, ?_⟩ <;> assumption) | (go_keep; done))
    (first
        | (go_at_call 33; ((with_reducible refine (tag_eq X2 _).mono ?_); (try go_split_ands); rintro e wn ⟨rfl, hbn⟩; have fc0 := keeps hbn (p := ⟨w.heap.size, 0, none⟩) (v := .int .u64 (U k0)) (by first | assumption | (simp [*] <;> fail)); have fc1 := keeps hbn (p := ⟨w.heap.size, 1, none⟩) (v := .int .u64 (U k1)) (by first | assumption | (simp [*] <;> fail)); have fc2 := keeps hbn (p := ⟨w.heap.size + 1, 0, none⟩) (v := .int .u64 (U o0)) (by first | assumption | (simp [*] <;> fail)); have fc3 := keeps hbn (p := ⟨w.heap.size + 1, 1, none⟩) (v := .int .u64 (U o1)) (by first | assumption | (simp [*] <;> fail)); have fc4 := keeps hbn (p := ⟨w.heap.size + 1 + 1, 0, none⟩) (v := .int .u64 (U b0)) (by first | assumption | (simp [*] <;> fail)); have fc5 := keeps hbn (p := ⟨w.heap.size + 1 + 1, 1, none⟩) (v := .int .u64 (U b1)) (by first | assumption | (simp [*] <;> fail)); have fc6 := keeps hbn (p := ⟨w2.heap.size, 0, none⟩) (v := .int .u64 (U c0)) (by first | assumption | (simp [*] <;> fail)); have fc7 := keeps hbn (p := ⟨w2.heap.size, 1, none⟩) (v := .int .u64 (U c1)) (by first | assumption | (simp [*] <;> fail)); have fc8 := keeps hbn (p := ⟨w2.heap.size, 2, none⟩) (v := .int .u64 (U t0)) (by first | assumption | (simp [*] <;> fail)); have fc9 := keeps hbn (p := ⟨w2.heap.size, 3, none⟩) (v := .int .u64 (U t1)) (by first | assumption | (simp [*] <;> fail)); have fc10 := keeps hbn (p := ⟨w3.heap.size, 0, none⟩) (v := .int .u64 (U p0)) (by first | assumption | (simp [*] <;> fail)); have fc11 := keeps hbn (p := ⟨w3.heap.size, 1, none⟩) (v := .int .u64 (U p1)) (by first | assumption | (simp [*] <;> fail)); have hBn := mkHid (Below.step (w := w) (Hid.out (by assumption)) hbn); have hBeg := mkHid (Below.step (w := (w3.alloc (.cells #[.int .u64 (U p0), .int .u64 (U p1)] 24)).drew) (Hid.out (by assumption)) hbn)))
        | (go_at_call 33; ((with_reducible refine (tag_eq X3 _).mono ?_); (try go_split_ands); rintro e wn ⟨rfl, hbn⟩; have fc0 := keeps hbn (p := ⟨w.heap.size, 0, none⟩) (v := .int .u64 (U k0)) (by first | assumption | (simp [*] <;> fail)); have fc1 := keeps hbn (p := ⟨w.heap.size, 1, none⟩) (v := .int .u64 (U k1)) (by first | assumption | (simp [*] <;> fail)); have fc2 := keeps hbn (p := ⟨w.heap.size + 1, 0, none⟩) (v := .int .u64 (U o0)) (by first | assumption | (simp [*] <;> fail)); have fc3 := keeps hbn (p := ⟨w.heap.size + 1, 1, none⟩) (v := .int .u64 (U o1)) (by first | assumption | (simp [*] <;> fail)); have fc4 := keeps hbn (p := ⟨w.heap.size + 1 + 1, 0, none⟩) (v := .int .u64 (U b0)) (by first | assumption | (simp [*] <;> fail)); have fc5 := keeps hbn (p := ⟨w.heap.size + 1 + 1, 1, none⟩) (v := .int .u64 (U b1)) (by first | assumption | (simp [*] <;> fail)); have fc6 := keeps hbn (p := ⟨w2.heap.size, 0, none⟩) (v := .int .u64 (U c0)) (by first | assumption | (simp [*] <;> fail)); have fc7 := keeps hbn (p := ⟨w2.heap.size, 1, none⟩) (v := .int .u64 (U c1)) (by first | assumption | (simp [*] <;> fail)); have fc8 := keeps hbn (p := ⟨w2.heap.size, 2, none⟩) (v := .int .u64 (U t0)) (by first | assumption | (simp [*] <;> fail)); have fc9 := keeps hbn (p := ⟨w2.heap.size, 3, none⟩) (v := .int .u64 (U t1)) (by first | assumption | (simp [*] <;> fail)); have fc10 := keeps hbn (p := ⟨w3.heap.size, 0, none⟩) (v := .int .u64 (U p0)) (by first | assumption | (simp [*] <;> fail)); have fc11 := keeps hbn (p := ⟨w3.heap.size, 1, none⟩) (v := .int .u64 (U p1)) (by first | assumption | (simp [*] <;> fail)); have hBn := mkHid (Below.step (w := w) (Hid.out (by assumption)) hbn); have hBeg := mkHid (Below.step (w := (w3.alloc (.cells #[.int .u64 (U p0), .int .u64 (U p1)] 24)).drew) (Hid.out (by assumption)) hbn))))
  go_wp2_with fail
  have hb4 := hBeg.out
  have bK := Blk.keep (n := w.heap.size) (t := 24) (cs := #[.int .u64 (U k0), .int .u64 (U k1)]) (by repeat' first | with_reducible exact HK.out | with_reducible refine Blk.drew ?_ | (with_reducible refine Blk.at _ _ _ ?_; (simp <;> fail)) | with_reducible refine Blk.alloc ?_ _) hb4
  have bO := Blk.keep (n := w.heap.size + 1) (t := 24) (cs := #[.int .u64 (U o0), .int .u64 (U o1)]) (by repeat' first | with_reducible exact HO.out | with_reducible refine Blk.drew ?_ | (with_reducible refine Blk.at _ _ _ ?_; (simp <;> fail)) | with_reducible refine Blk.alloc ?_ _) hb4
  have bB := Blk.keep (n := w.heap.size + 1 + 1) (t := 24) (cs := #[.int .u64 (U b0), .int .u64 (U b1)]) (by repeat' first | with_reducible exact HB.out | with_reducible refine Blk.drew ?_ | (with_reducible refine Blk.at _ _ _ ?_; (simp <;> fail)) | with_reducible refine Blk.alloc ?_ _) hb4
  have bS := Blk.keep (n := w2.heap.size) (t := 43) (cs := #[.int .u64 (U c0), .int .u64 (U c1), .int .u64 (U t0), .int .u64 (U t1)]) (by repeat' first | with_reducible exact HS.out | with_reducible refine Blk.drew ?_ | (with_reducible refine Blk.at _ _ _ ?_; (simp <;> fail)) | with_reducible refine Blk.alloc ?_ _) hb4
  have bG := Blk.keep (n := w3.heap.size) (t := 24) (cs := #[.int .u64 (U p0), .int .u64 (U p1)]) (by repeat' first | with_reducible refine Blk.drew ?_ | (with_reducible refine Blk.at _ _ _ ?_; (simp <;> fail)) | with_reducible refine Blk.alloc ?_ _) hb4
  have hBN := Below.step (w := w) (by repeat' first | with_reducible exact HBel.out | with_reducible exact Below.refl _ _ | with_reducible refine Below.drew ?_ | with_reducible refine below_drewN ?_ _ | with_reducible refine Below.setCell ?_ ?_ _ | with_reducible refine Below.alloc ?_ ?_ _ | (dsimp only; omega) | (simp <;> fail) | (have := HBel.out.size; simp; omega)) hb4
  try clear cK
  try clear cO
  try clear cB
  try clear cS
  clear HK lK HO lO HB lB HS lS HBel hb4
  have cK := bK.two
  have HK := mkHid bK
  have lK := bK.lt
  clear bK
  have cO := bO.two
  have HO := mkHid bO
  have lO := bO.lt
  clear bO
  have cB := bB.two
  have HB := mkHid bB
  have lB := bB.lt
  clear bB
  have cS := bS.four
  have HS := mkHid bS
  have lS := bS.lt
  clear bS
  have cG := bG.two
  have HG := mkHid bG
  have lG := bG.lt
  clear bG
  have HBel := mkHid hBN
  clear hBN
  have HBel0 : Hid (Below w.heap.size w (World.drew _)) := mkHid (Below.drew HBel.out)
  first
  | go_region_with
    (first
        | (go_at_call 31; ((with_reducible refine (wrap_eq PB X3 _).mono ?_); (try go_split_ands); rintro e wn ⟨rfl, hbn⟩; have fc0 := keeps hbn (p := ⟨w2.heap.size, 0, none⟩) (v := .int .u64 (U c0)) (by first | assumption | (simp [*] <;> fail)); have fc1 := keeps hbn (p := ⟨w2.heap.size, 1, none⟩) (v := .int .u64 (U c1)) (by first | assumption | (simp [*] <;> fail)); have fc2 := keeps hbn (p := ⟨w2.heap.size, 2, none⟩) (v := .int .u64 (U t0)) (by first | assumption | (simp [*] <;> fail)); have fc3 := keeps hbn (p := ⟨w2.heap.size, 3, none⟩) (v := .int .u64 (U t1)) (by first | assumption | (simp [*] <;> fail)); have hBn := mkHid (Below.step (w := w) (Hid.out (by assumption)) hbn))))
  | fail
  all_goals go_wp2_with fail
  all_goals go_ret
  all_goals exact ⟨rfl, Hid.out (by assumption)⟩

set_option maxRecDepth 100000 in
set_option maxHeartbeats 8000000 in
theorem walk_SealOther_no {k0 k1 o0 o1 b0 b1 c0 c1 t0 t1 r0 r1 : BitVec 64} (X1 : Hid (hideB (k0, k1) (b0, b1) = (c0, c1))) (X2 : Hid (tagB (k0, k1) (c0, c1) = (t0, t1))) (X3 : Hid (tagB (o0, o1) (c0, c1) = (r0, r1))) (hne : (U r0 == U t0 && U r1 == U t1) = false) (w : World) :
    Calls Try.prog 12 #[.agg #[.int .u64 (U k0), .int .u64 (U k1)], .agg #[.int .u64 (U o0), .int .u64 (U o1)], .agg #[.int .u64 (U b0), .int .u64 (U b1)]] w fun e w' => e = .returned (.bool true) ∧ Below w.heap.size w w' := by
  have hq := eq_blocks
  have hq4 := eq_sealed
  go_enter Try.func12, Try.ntmps12
  go_wp2_with fail
  refine (live04 _).mono ?_
  rintro e w1 ⟨rfl, hb1⟩
  have bK := Blk.keep (n := w.heap.size) (t := 24) (cs := #[.int .u64 (U k0), .int .u64 (U k1)]) (by repeat' first | with_reducible refine Blk.drew ?_ | (with_reducible refine Blk.at _ _ _ ?_; (simp <;> fail)) | with_reducible refine Blk.alloc ?_ _) hb1
  have bO := Blk.keep (n := w.heap.size + 1) (t := 24) (cs := #[.int .u64 (U o0), .int .u64 (U o1)]) (by repeat' first | with_reducible refine Blk.drew ?_ | (with_reducible refine Blk.at _ _ _ ?_; (simp <;> fail)) | with_reducible refine Blk.alloc ?_ _) hb1
  have bB := Blk.keep (n := w.heap.size + 1 + 1) (t := 24) (cs := #[.int .u64 (U b0), .int .u64 (U b1)]) (by repeat' first | with_reducible refine Blk.drew ?_ | (with_reducible refine Blk.at _ _ _ ?_; (simp <;> fail)) | with_reducible refine Blk.alloc ?_ _) hb1
  have hBN := Below.step (w := w) (by repeat' first | with_reducible exact Below.refl _ _ | with_reducible refine Below.drew ?_ | with_reducible refine below_drewN ?_ _ | with_reducible refine Below.setCell ?_ ?_ _ | with_reducible refine Below.alloc ?_ ?_ _ | (dsimp only; omega) | (simp <;> fail) | (simp; omega)) hb1
  clear hb1
  have cK := bK.two
  have HK := mkHid bK
  have lK := bK.lt
  clear bK
  have cO := bO.two
  have HO := mkHid bO
  have lO := bO.lt
  clear bO
  have cB := bB.two
  have HB := mkHid bB
  have lB := bB.lt
  clear bB
  have HBel := mkHid hBN
  clear hBN
  go_wp2_with fail
  refine (wrap_eq X1 X2 _).mono ?_
  rintro e w2 ⟨rfl, hb2⟩
  have bK := Blk.keep (n := w.heap.size) (t := 24) (cs := #[.int .u64 (U k0), .int .u64 (U k1)]) (by repeat' first | with_reducible exact HK.out | with_reducible refine Blk.drew ?_ | (with_reducible refine Blk.at _ _ _ ?_; (simp <;> fail)) | with_reducible refine Blk.alloc ?_ _) hb2
  have bO := Blk.keep (n := w.heap.size + 1) (t := 24) (cs := #[.int .u64 (U o0), .int .u64 (U o1)]) (by repeat' first | with_reducible exact HO.out | with_reducible refine Blk.drew ?_ | (with_reducible refine Blk.at _ _ _ ?_; (simp <;> fail)) | with_reducible refine Blk.alloc ?_ _) hb2
  have bB := Blk.keep (n := w.heap.size + 1 + 1) (t := 24) (cs := #[.int .u64 (U b0), .int .u64 (U b1)]) (by repeat' first | with_reducible exact HB.out | with_reducible refine Blk.drew ?_ | (with_reducible refine Blk.at _ _ _ ?_; (simp <;> fail)) | with_reducible refine Blk.alloc ?_ _) hb2
  have hBN := Below.step (w := w) (by repeat' first | with_reducible exact HBel.out | with_reducible exact Below.refl _ _ | with_reducible refine Below.drew ?_ | with_reducible refine below_drewN ?_ _ | with_reducible refine Below.setCell ?_ ?_ _ | with_reducible refine Below.alloc ?_ ?_ _ | (dsimp only; omega) | (simp <;> fail) | (have := HBel.out.size; simp; omega)) hb2
  try clear cK
  try clear cO
  try clear cB
  clear HK lK HO lO HB lB HBel hb2
  have cK := bK.two
  have HK := mkHid bK
  have lK := bK.lt
  clear bK
  have cO := bO.two
  have HO := mkHid bO
  have lO := bO.lt
  clear bO
  have cB := bB.two
  have HB := mkHid bB
  have lB := bB.lt
  clear bB
  have HBel := mkHid hBN
  clear hBN
  go_wp2_with fail
  have dSK : w.heap.size < w2.heap.size := lK
  have dSO : w.heap.size + 1 < w2.heap.size := lO
  have dSB : w.heap.size + 1 + 1 < w2.heap.size := lB
  refine (unwrap_no X3 hne _).mono ?_
  rintro e w3 ⟨rfl, hb3⟩
  have bK := Blk.keep (n := w.heap.size) (t := 24) (cs := #[.int .u64 (U k0), .int .u64 (U k1)]) (by repeat' first | with_reducible exact HK.out | with_reducible refine Blk.drew ?_ | (with_reducible refine Blk.at _ _ _ ?_; (simp <;> fail)) | with_reducible refine Blk.alloc ?_ _) hb3
  have bO := Blk.keep (n := w.heap.size + 1) (t := 24) (cs := #[.int .u64 (U o0), .int .u64 (U o1)]) (by repeat' first | with_reducible exact HO.out | with_reducible refine Blk.drew ?_ | (with_reducible refine Blk.at _ _ _ ?_; (simp <;> fail)) | with_reducible refine Blk.alloc ?_ _) hb3
  have bB := Blk.keep (n := w.heap.size + 1 + 1) (t := 24) (cs := #[.int .u64 (U b0), .int .u64 (U b1)]) (by repeat' first | with_reducible exact HB.out | with_reducible refine Blk.drew ?_ | (with_reducible refine Blk.at _ _ _ ?_; (simp <;> fail)) | with_reducible refine Blk.alloc ?_ _) hb3
  have bS := Blk.keep (n := w2.heap.size) (t := 43) (cs := #[.int .u64 (U c0), .int .u64 (U c1), .int .u64 (U t0), .int .u64 (U t1)]) (by repeat' first | with_reducible refine Blk.drew ?_ | (with_reducible refine Blk.at _ _ _ ?_; (simp <;> fail)) | with_reducible refine Blk.alloc ?_ _) hb3
  have hBN := Below.step (w := w) (by repeat' first | with_reducible exact HBel.out | with_reducible exact Below.refl _ _ | with_reducible refine Below.drew ?_ | with_reducible refine below_drewN ?_ _ | with_reducible refine Below.setCell ?_ ?_ _ | with_reducible refine Below.alloc ?_ ?_ _ | (dsimp only; omega) | (simp <;> fail) | (have := HBel.out.size; simp; omega)) hb3
  try clear cK
  try clear cO
  try clear cB
  clear HK lK HO lO HB lB HBel hb3
  have cK := bK.two
  have HK := mkHid bK
  have lK := bK.lt
  clear bK
  have cO := bO.two
  have HO := mkHid bO
  have lO := bO.lt
  clear bO
  have cB := bB.two
  have HB := mkHid bB
  have lB := bB.lt
  clear bB
  have cS := bS.four
  have HS := mkHid bS
  have lS := bS.lt
  clear bS
  have HBel := mkHid hBN
  clear hBN
  go_wp2_with fail
  have dGK : w.heap.size < w3.heap.size := lK
  have dGO : w.heap.size + 1 < w3.heap.size := lO
  have dGB : w.heap.size + 1 + 1 < w3.heap.size := lB
  have dGS : w2.heap.size < w3.heap.size := lS
  have cN := (Blk.at w3 (n := w3.heap.size) 24 #[.int .u64 (0), .int .u64 (0)] rfl).drew.two
  have HBeg0 : Hid (Below ((w3.alloc (.cells #[.int .u64 (0), .int .u64 (0)] 24)).drew).heap.size ((w3.alloc (.cells #[.int .u64 (0), .int .u64 (0)] 24)).drew) ((w3.alloc (.cells #[.int .u64 (0), .int .u64 (0)] 24)).drew)) := mkHid (Below.refl _ _)
  have HBel0 := mkHid (HBel.out.alloc HBel.out.size (.cells #[.int .u64 (0), .int .u64 (0)] 24)).drew
  go_region_held3 (fun w' => w'.cell? ⟨w.heap.size, 0, none⟩ = some (.int .u64 (U k0)) ∧ w'.cell? ⟨w.heap.size, 1, none⟩ = some (.int .u64 (U k1)) ∧ w'.cell? ⟨w.heap.size + 1, 0, none⟩ = some (.int .u64 (U o0)) ∧ w'.cell? ⟨w.heap.size + 1, 1, none⟩ = some (.int .u64 (U o1)) ∧ w'.cell? ⟨w.heap.size + 1 + 1, 0, none⟩ = some (.int .u64 (U b0)) ∧ w'.cell? ⟨w.heap.size + 1 + 1, 1, none⟩ = some (.int .u64 (U b1)) ∧ w'.cell? ⟨w2.heap.size, 0, none⟩ = some (.int .u64 (U c0)) ∧ w'.cell? ⟨w2.heap.size, 1, none⟩ = some (.int .u64 (U c1)) ∧ w'.cell? ⟨w2.heap.size, 2, none⟩ = some (.int .u64 (U t0)) ∧ w'.cell? ⟨w2.heap.size, 3, none⟩ = some (.int .u64 (U t1)) ∧ w'.cell? ⟨w3.heap.size, 0, none⟩ = some (.int .u64 (0)) ∧ w'.cell? ⟨w3.heap.size, 1, none⟩ = some (.int .u64 (0)))
    (first | ((try dsimp only); (try go_split_ands); refine ⟨?_, ?_, ?_, ?_, ?_, ?_, ?_, ?_, ?_, ?_, ?_, ?_⟩ <;> assumption) | (go_keep; done))
    (first
        | (go_at_call 33; ((with_reducible refine (tag_eq X2 _).mono ?_); (try go_split_ands); rintro e wn ⟨rfl, hbn⟩; have fc0 := keeps hbn (p := ⟨w.heap.size, 0, none⟩) (v := .int .u64 (U k0)) (by first | assumption | (simp [*] <;> fail)); have fc1 := keeps hbn (p := ⟨w.heap.size, 1, none⟩) (v := .int .u64 (U k1)) (by first | assumption | (simp [*] <;> fail)); have fc2 := keeps hbn (p := ⟨w.heap.size + 1, 0, none⟩) (v := .int .u64 (U o0)) (by first | assumption | (simp [*] <;> fail)); have fc3 := keeps hbn (p := ⟨w.heap.size + 1, 1, none⟩) (v := .int .u64 (U o1)) (by first | assumption | (simp [*] <;> fail)); have fc4 := keeps hbn (p := ⟨w.heap.size + 1 + 1, 0, none⟩) (v := .int .u64 (U b0)) (by first | assumption | (simp [*] <;> fail)); have fc5 := keeps hbn (p := ⟨w.heap.size + 1 + 1, 1, none⟩) (v := .int .u64 (U b1)) (by first | assumption | (simp [*] <;> fail)); have fc6 := keeps hbn (p := ⟨w2.heap.size, 0, none⟩) (v := .int .u64 (U c0)) (by first | assumption | (simp [*] <;> fail)); have fc7 := keeps hbn (p := ⟨w2.heap.size, 1, none⟩) (v := .int .u64 (U c1)) (by first | assumption | (simp [*] <;> fail)); have fc8 := keeps hbn (p := ⟨w2.heap.size, 2, none⟩) (v := .int .u64 (U t0)) (by first | assumption | (simp [*] <;> fail)); have fc9 := keeps hbn (p := ⟨w2.heap.size, 3, none⟩) (v := .int .u64 (U t1)) (by first | assumption | (simp [*] <;> fail)); have fc10 := keeps hbn (p := ⟨w3.heap.size, 0, none⟩) (v := .int .u64 (0)) (by first | assumption | (simp [*] <;> fail)); have fc11 := keeps hbn (p := ⟨w3.heap.size, 1, none⟩) (v := .int .u64 (0)) (by first | assumption | (simp [*] <;> fail)); have hBn := mkHid (Below.step (w := w) (Hid.out (by assumption)) hbn); have hBeg := mkHid (Below.step (w := (w3.alloc (.cells #[.int .u64 (0), .int .u64 (0)] 24)).drew) (Hid.out (by assumption)) hbn)))
        | (go_at_call 33; ((with_reducible refine (tag_eq X3 _).mono ?_); (try go_split_ands); rintro e wn ⟨rfl, hbn⟩; have fc0 := keeps hbn (p := ⟨w.heap.size, 0, none⟩) (v := .int .u64 (U k0)) (by first | assumption | (simp [*] <;> fail)); have fc1 := keeps hbn (p := ⟨w.heap.size, 1, none⟩) (v := .int .u64 (U k1)) (by first | assumption | (simp [*] <;> fail)); have fc2 := keeps hbn (p := ⟨w.heap.size + 1, 0, none⟩) (v := .int .u64 (U o0)) (by first | assumption | (simp [*] <;> fail)); have fc3 := keeps hbn (p := ⟨w.heap.size + 1, 1, none⟩) (v := .int .u64 (U o1)) (by first | assumption | (simp [*] <;> fail)); have fc4 := keeps hbn (p := ⟨w.heap.size + 1 + 1, 0, none⟩) (v := .int .u64 (U b0)) (by first | assumption | (simp [*] <;> fail)); have fc5 := keeps hbn (p := ⟨w.heap.size + 1 + 1, 1, none⟩) (v := .int .u64 (U b1)) (by first | assumption | (simp [*] <;> fail)); have fc6 := keeps hbn (p := ⟨w2.heap.size, 0, none⟩) (v := .int .u64 (U c0)) (by first | assumption | (simp [*] <;> fail)); have fc7 := keeps hbn (p := ⟨w2.heap.size, 1, none⟩) (v := .int .u64 (U c1)) (by first | assumption | (simp [*] <;> fail)); have fc8 := keeps hbn (p := ⟨w2.heap.size, 2, none⟩) (v := .int .u64 (U t0)) (by first | assumption | (simp [*] <;> fail)); have fc9 := keeps hbn (p := ⟨w2.heap.size, 3, none⟩) (v := .int .u64 (U t1)) (by first | assumption | (simp [*] <;> fail)); have fc10 := keeps hbn (p := ⟨w3.heap.size, 0, none⟩) (v := .int .u64 (0)) (by first | assumption | (simp [*] <;> fail)); have fc11 := keeps hbn (p := ⟨w3.heap.size, 1, none⟩) (v := .int .u64 (0)) (by first | assumption | (simp [*] <;> fail)); have hBn := mkHid (Below.step (w := w) (Hid.out (by assumption)) hbn); have hBeg := mkHid (Below.step (w := (w3.alloc (.cells #[.int .u64 (0), .int .u64 (0)] 24)).drew) (Hid.out (by assumption)) hbn))))
  go_wp2_with fail
  go_quiet (fail)
  go_wp2_with fail
  go_ret
  exact ⟨rfl, below_drewN (Hid.out (by assumption)) _⟩

theorem walk_SealOther (k0 k1 o0 o1 b0 b1 : BitVec 64) (w : World) :
    Calls Try.prog 12 #[.agg #[.int .u64 (U k0), .int .u64 (U k1)], .agg #[.int .u64 (U o0), .int .u64 (U o1)], .agg #[.int .u64 (U b0), .int .u64 (U b1)]] w fun e w' => e = .returned (.bool true) ∧ Below w.heap.size w w' := by
  obtain ⟨c0, c1, hc⟩ := pair_ex (hideB (k0, k1) (b0, b1))
  obtain ⟨t0, t1, ht⟩ := pair_ex (tagB (k0, k1) (c0, c1))
  obtain ⟨r0, r1, hr⟩ := pair_ex (tagB (o0, o1) (c0, c1))
  cases h : (U r0 == U t0 && U r1 == U t1)
  · exact walk_SealOther_no (mkHid hc) (mkHid ht) (mkHid hr) h w
  · rw [Bool.and_eq_true, beq_iff_eq, beq_iff_eq] at h
    obtain rfl := U_inj h.1
    obtain rfl := U_inj h.2
    exact walk_SealOther_yes (mkHid hc) (mkHid ht) (mkHid hr) w
end Go.Proofs.Ytdaodopeodheeaa
