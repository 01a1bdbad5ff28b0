/- The walk of SealOctets: the Go text answers true and writes nothing that was there. -/
import Derived.Test.YtdaodopeodheeaaSealOct
import Derived.Test.YtdaodopeodheeaaLive04
import Derived.Deep.DeepCutAuto
import Derived.Deep.RegionHeld3
namespace Go.Proofs.Ytdaodopeodheeaa
open Go.RowKit

theorem take_octs (p q : BitVec 64 × BitVec 64) : (octs p ++ octs q).take 16 = octs p := by
  have h := List.take_left (l₁ := octs p) (l₂ := octs q)
  rw [octs_length] at h
  exact h
theorem drop_octs (p q : BitVec 64 × BitVec 64) : (octs p ++ octs q).drop 16 = octs q := by
  have h := List.drop_left (l₁ := octs p) (l₂ := octs q)
  rw [octs_length] at h
  exact h
theorem sealof_eq {l : List (BitVec 8)} {c0 c1 t0 t1 : BitVec 64} (hC : Hid (blockOf (l.take 16) = (c0, c1))) (hT : Hid (blockOf (l.drop 16) = (t0, t1))) (hl : l.length = 32) {a : Option Addr} {cap : Nat} (hcap : 32 ≤ cap) (w : World) (hB : Bytes w a l) :
    Calls Try.prog 35 #[.slice a 32 cap] w fun e w' => e = .returned (.tuple #[.agg #[.int .u64 (U c0), .int .u64 (U c1), .int .u64 (U t0), .int .u64 (U t1)], .int .i64 0]) ∧ Below w.heap.size w w' := by
  rcases hB with rfl | ⟨b, off, rfl, hc⟩
  · simp at hl
  · exact sealof_some hC hT hl b off cap hcap w hc

set_option maxRecDepth 100000 in
set_option maxHeartbeats 2000000 in
theorem walk_SealOctets_long (c0 c1 t0 t1 : BitVec 64) (a : Option Addr) (l : List (BitVec 8)) (cap : Nat) (h5 : 500 < l.length) (w : World) :
    Calls Try.prog 15 #[.agg #[.int .u64 (U c0), .int .u64 (U c1), .int .u64 (U t0), .int .u64 (U t1)], .slice a l.length cap] w fun e w' => e = .returned (.bool true) ∧ Below w.heap.size w w' := by
  skip
  go_enter Try.func15, Try.ntmps15
  go_wp2_with fail
  refine (live04 _).mono ?_
  rintro e w1 ⟨rfl, hb1⟩
  have hBN := Below.step (w := w) (by repeat' first | with_reducible exact Below.refl _ _ | with_reducible refine Below.drew ?_ | with_reducible refine below_drewN ?_ _ | with_reducible refine Below.setCell ?_ ?_ _ | with_reducible refine Below.alloc ?_ ?_ _ | (dsimp only; omega) | (simp <;> fail) | (simp; omega)) hb1
  clear hb1
  have HBel := mkHid hBN
  clear hBN
  go_wp2_with fail
  go_ret
  exact ⟨rfl, HBel.out⟩

set_option linter.unusedSimpArgs false in
set_option maxRecDepth 100000 in
set_option maxHeartbeats 4000000 in
theorem walk_SealOctets_no (c0 c1 t0 t1 : BitVec 64) (a : Option Addr) (l : List (BitVec 8)) (cap : Nat) (h5 : l.length ≤ 500) (h16 : ¬ l.length = 32) (w : World) (hL : Bytes w a l) :
    Calls Try.prog 15 #[.agg #[.int .u64 (U c0), .int .u64 (U c1), .int .u64 (U t0), .int .u64 (U t1)], .slice a l.length cap] w fun e w' => e = .returned (.bool true) ∧ Below w.heap.size w w' := by
  have hq4 := eq_sealed
  have HL := mkHid hL
  have OC : Hid (blockOf ((octs (c0, c1) ++ octs (t0, t1)).take 16) = (c0, c1)) := mkHid (by rw [take_octs, blockOf_octs])
  have OT : Hid (blockOf ((octs (c0, c1) ++ octs (t0, t1)).drop 16) = (t0, t1)) := mkHid (by rw [drop_octs, blockOf_octs])
  have OL : Hid ((octs (c0, c1) ++ octs (t0, t1)).length = 32) := mkHid (by rw [List.length_append, octs_length, octs_length])
  clear hL
  have hn1 : ((l.length : Int) == 32) = false := by rw [beq_eq_false_iff_ne]; omega
  have hn2 : ((l.length : Int) != 32) = true := by rw [bne, hn1]; rfl
  go_enter Try.func15, Try.ntmps15
  go_wp2_with fail
  refine (live04 _).mono ?_
  rintro e w1 ⟨rfl, hb1⟩
  have bS := Blk.keep (n := w.heap.size) (t := 43) (cs := #[.int .u64 (U c0), .int .u64 (U c1), .int .u64 (U t0), .int .u64 (U t1)]) (by repeat' first | with_reducible refine Blk.drew ?_ | (with_reducible refine Blk.at _ _ _ ?_; (simp <;> fail)) | with_reducible refine Blk.alloc ?_ _) hb1
  have hBN := Below.step (w := w) (by repeat' first | with_reducible exact Below.refl _ _ | with_reducible refine Below.drew ?_ | with_reducible refine below_drewN ?_ _ | with_reducible refine Below.setCell ?_ ?_ _ | with_reducible refine Below.alloc ?_ ?_ _ | (dsimp only; omega) | (simp <;> fail) | (simp; omega)) hb1
  clear hb1
  have cS := bS.four
  have HS := mkHid bS
  have lS := bS.lt
  clear bS
  have HBel := mkHid hBN
  clear hBN
  go_wp2_with fail
  refine (sealoct_any _).mono ?_
  rintro e w2 ⟨g, cp, hcp, hO, rfl, hb2⟩
  have bS := Blk.keep (n := w.heap.size) (t := 43) (cs := #[.int .u64 (U c0), .int .u64 (U c1), .int .u64 (U t0), .int .u64 (U t1)]) (by repeat' first | with_reducible exact HS.out | with_reducible refine Blk.drew ?_ | (with_reducible refine Blk.at _ _ _ ?_; (simp <;> fail)) | with_reducible refine Blk.alloc ?_ _) hb2
  have hBN := Below.step (w := w) (by repeat' first | with_reducible exact HBel.out | with_reducible exact Below.refl _ _ | with_reducible refine Below.drew ?_ | with_reducible refine below_drewN ?_ _ | with_reducible refine Below.setCell ?_ ?_ _ | with_reducible refine Below.alloc ?_ ?_ _ | (dsimp only; omega) | (simp <;> fail) | (have := HBel.out.size; simp; omega)) hb2
  try clear cS
  clear HS lS HBel hb2
  have cS := bS.four
  have HS := mkHid bS
  have lS := bS.lt
  clear bS
  have HBel := mkHid hBN
  clear hBN
  have HX := mkHid hO
  have HCP := mkHid hcp
  clear hO hcp
  go_wp2_with fail
  refine (sealof_eq OC OT OL.out HCP.out _ HX.out).mono ?_
  rintro e w3 ⟨rfl, hb3⟩
  have bS := Blk.keep (n := w.heap.size) (t := 43) (cs := #[.int .u64 (U c0), .int .u64 (U c1), .int .u64 (U t0), .int .u64 (U t1)]) (by repeat' first | with_reducible exact HS.out | with_reducible refine Blk.drew ?_ | (with_reducible refine Blk.at _ _ _ ?_; (simp <;> fail)) | with_reducible refine Blk.alloc ?_ _) hb3
  have hBN := Below.step (w := w) (by repeat' first | with_reducible exact HBel.out | with_reducible exact Below.refl _ _ | with_reducible refine Below.drew ?_ | with_reducible refine below_drewN ?_ _ | with_reducible refine Below.setCell ?_ ?_ _ | with_reducible refine Below.alloc ?_ ?_ _ | (dsimp only; omega) | (simp <;> fail) | (have := HBel.out.size; simp; omega)) hb3
  try clear cS
  clear HS lS HBel hb3
  have cS := bS.four
  have HS := mkHid bS
  have lS := bS.lt
  clear bS
  have HBel := mkHid hBN
  clear hBN
  go_wp2_with fail
  have dGS : w.heap.size < w3.heap.size := lS
  refine (sealof_no _ _ _ hn2 _).mono ?_
  rintro e w4 ⟨rfl, hb4⟩
  have bS := Blk.keep (n := w.heap.size) (t := 43) (cs := #[.int .u64 (U c0), .int .u64 (U c1), .int .u64 (U t0), .int .u64 (U t1)]) (by repeat' first | with_reducible exact HS.out | with_reducible refine Blk.drew ?_ | (with_reducible refine Blk.at _ _ _ ?_; (simp <;> fail)) | with_reducible refine Blk.alloc ?_ _) hb4
  have bG := Blk.keep (n := w3.heap.size) (t := 43) (cs := #[.int .u64 (U c0), .int .u64 (U c1), .int .u64 (U t0), .int .u64 (U t1)]) (by repeat' first | with_reducible refine Blk.drew ?_ | (with_reducible refine Blk.at _ _ _ ?_; (simp <;> fail)) | with_reducible refine Blk.alloc ?_ _) hb4
  have hBN := Below.step (w := w) (by repeat' first | with_reducible exact HBel.out | with_reducible exact Below.refl _ _ | with_reducible refine Below.drew ?_ | with_reducible refine below_drewN ?_ _ | with_reducible refine Below.setCell ?_ ?_ _ | with_reducible refine Below.alloc ?_ ?_ _ | (dsimp only; omega) | (simp <;> fail) | (have := HBel.out.size; simp; omega)) hb4
  try clear cS
  clear HS lS HBel hb4
  have cS := bS.four
  have HS := mkHid bS
  have lS := bS.lt
  clear bS
  have cG := bG.four
  have HG := mkHid bG
  have lG := bG.lt
  clear bG
  have HBel := mkHid hBN
  clear hBN
  go_wp2_with fail
  go_quiet (fail)
  go_wp2_with fail
  go_ret
  exact ⟨rfl, below_drewN (HBel.out.alloc HBel.out.size _) _⟩

set_option linter.unusedSimpArgs false in
set_option maxRecDepth 100000 in
set_option maxHeartbeats 4000000 in
theorem walk_SealOctets_yes (c0 c1 t0 t1 : BitVec 64) (a : Option Addr) (l : List (BitVec 8)) (cap : Nat) (h16 : l.length = 32) (hcap : 32 ≤ cap) (w : World) (hL : Bytes w a l) :
    Calls Try.prog 15 #[.agg #[.int .u64 (U c0), .int .u64 (U c1), .int .u64 (U t0), .int .u64 (U t1)], .slice a 32 cap] w fun e w' => e = .returned (.bool true) ∧ Below w.heap.size w w' := by
  have hq4 := eq_sealed
  have HL := mkHid hL
  have OC : Hid (blockOf ((octs (c0, c1) ++ octs (t0, t1)).take 16) = (c0, c1)) := mkHid (by rw [take_octs, blockOf_octs])
  have OT : Hid (blockOf ((octs (c0, c1) ++ octs (t0, t1)).drop 16) = (t0, t1)) := mkHid (by rw [drop_octs, blockOf_octs])
  have OL : Hid ((octs (c0, c1) ++ octs (t0, t1)).length = 32) := mkHid (by rw [List.length_append, octs_length, octs_length])
  clear hL
  obtain ⟨d0, d1, hd⟩ := pair_ex (blockOf (l.take 16))
  obtain ⟨f0, f1, hf⟩ := pair_ex (blockOf (l.drop 16))
  have HD := mkHid hd
  have HF := mkHid hf
  have HO : Hid (octs (d0, d1) ++ octs (f0, f1) = l) := mkHid (by rw [← hd, ← hf, octs_blockOf _ (by simp; omega), octs_blockOf _ (by simp; omega), List.take_append_drop])
  have H16 := mkHid h16
  have HCAP := mkHid hcap
  clear hd hf h16 hcap
  go_enter Try.func15, Try.ntmps15
  go_wp2_with fail
  refine (live04 _).mono ?_
  rintro e w1 ⟨rfl, hb1⟩
  have bS := Blk.keep (n := w.heap.size) (t := 43) (cs := #[.int .u64 (U c0), .int .u64 (U c1), .int .u64 (U t0), .int .u64 (U t1)]) (by repeat' first | with_reducible refine Blk.drew ?_ | (with_reducible refine Blk.at _ _ _ ?_; (simp <;> fail)) | with_reducible refine Blk.alloc ?_ _) hb1
  have hBN := Below.step (w := w) (by repeat' first | with_reducible exact Below.refl _ _ | with_reducible refine Below.drew ?_ | with_reducible refine below_drewN ?_ _ | with_reducible refine Below.setCell ?_ ?_ _ | with_reducible refine Below.alloc ?_ ?_ _ | (dsimp only; omega) | (simp <;> fail) | (simp; omega)) hb1
  clear hb1
  have cS := bS.four
  have HS := mkHid bS
  have lS := bS.lt
  clear bS
  have HBel := mkHid hBN
  clear hBN
  go_wp2_with fail
  refine (sealoct_any _).mono ?_
  rintro e w2 ⟨g, cp, hcp, hO, rfl, hb2⟩
  have bS := Blk.keep (n := w.heap.size) (t := 43) (cs := #[.int .u64 (U c0), .int .u64 (U c1), .int .u64 (U t0), .int .u64 (U t1)]) (by repeat' first | with_reducible exact HS.out | with_reducible refine Blk.drew ?_ | (with_reducible refine Blk.at _ _ _ ?_; (simp <;> fail)) | with_reducible refine Blk.alloc ?_ _) hb2
  have hBN := Below.step (w := w) (by repeat' first | with_reducible exact HBel.out | with_reducible exact Below.refl _ _ | with_reducible refine Below.drew ?_ | with_reducible refine below_drewN ?_ _ | with_reducible refine Below.setCell ?_ ?_ _ | with_reducible refine Below.alloc ?_ ?_ _ | (dsimp only; omega) | (simp <;> fail) | (have := HBel.out.size; simp; omega)) hb2
  try clear cS
  clear HS lS HBel hb2
  have cS := bS.four
  have HS := mkHid bS
  have lS := bS.lt
  clear bS
  have HBel := mkHid hBN
  clear hBN
  have HX := mkHid hO
  have HCP := mkHid hcp
  clear hO hcp
  go_wp2_with fail
  refine (sealof_eq OC OT OL.out HCP.out _ HX.out).mono ?_
  rintro e w3 ⟨rfl, hb3⟩
  have bS := Blk.keep (n := w.heap.size) (t := 43) (cs := #[.int .u64 (U c0), .int .u64 (U c1), .int .u64 (U t0), .int .u64 (U t1)]) (by repeat' first | with_reducible exact HS.out | with_reducible refine Blk.drew ?_ | (with_reducible refine Blk.at _ _ _ ?_; (simp <;> fail)) | with_reducible refine Blk.alloc ?_ _) hb3
  have hBN := Below.step (w := w) (by repeat' first | with_reducible exact HBel.out | with_reducible exact Below.refl _ _ | with_reducible refine Below.drew ?_ | with_reducible refine below_drewN ?_ _ | with_reducible refine Below.setCell ?_ ?_ _ | with_reducible refine Below.alloc ?_ ?_ _ | (dsimp only; omega) | (simp <;> fail) | (have := HBel.out.size; simp; omega)) hb3
  try clear cS
  clear HS lS HBel hb3
  have cS := bS.four
  have HS := mkHid bS
  have lS := bS.lt
  clear bS
  have HBel := mkHid hBN
  clear hBN
  go_wp2_with fail
  have dGS : w.heap.size < w3.heap.size := lS
  refine (sealof_eq HD HF H16.out HCAP.out _ (HL.out.below (HBel.out.alloc HBel.out.size _))).mono ?_
  rintro e w4 ⟨rfl, hb4⟩
  have bS := Blk.keep (n := w.heap.size) (t := 43) (cs := #[.int .u64 (U c0), .int .u64 (U c1), .int .u64 (U t0), .int .u64 (U t1)]) (by repeat' first | with_reducible exact HS.out | with_reducible refine Blk.drew ?_ | (with_reducible refine Blk.at _ _ _ ?_; (simp <;> fail)) | with_reducible refine Blk.alloc ?_ _) hb4
  have bG := Blk.keep (n := w3.heap.size) (t := 43) (cs := #[.int .u64 (U c0), .int .u64 (U c1), .int .u64 (U t0), .int .u64 (U t1)]) (by repeat' first | with_reducible refine Blk.drew ?_ | (with_reducible refine Blk.at _ _ _ ?_; (simp <;> fail)) | with_reducible refine Blk.alloc ?_ _) hb4
  have hBN := Below.step (w := w) (by repeat' first | with_reducible exact HBel.out | with_reducible exact Below.refl _ _ | with_reducible refine Below.drew ?_ | with_reducible refine below_drewN ?_ _ | with_reducible refine Below.setCell ?_ ?_ _ | with_reducible refine Below.alloc ?_ ?_ _ | (dsimp only; omega) | (simp <;> fail) | (have := HBel.out.size; simp; omega)) hb4
  try clear cS
  clear HS lS HBel hb4
  have cS := bS.four
  have HS := mkHid bS
  have lS := bS.lt
  clear bS
  have cG := bG.four
  have HG := mkHid bG
  have lG := bG.lt
  clear bG
  have HBel := mkHid hBN
  clear hBN
  go_wp2_with fail
  have HBel0 : Hid (Below w.heap.size w (w4.alloc (.cells #[.int .u64 (U d0), .int .u64 (U d1), .int .u64 (U f0), .int .u64 (U f1)] 43)).drew) := mkHid (HBel.out.alloc HBel.out.size _).drew
  have cD := (Blk.at w4 (n := w4.heap.size) 43 #[.int .u64 (U d0), .int .u64 (U d1), .int .u64 (U f0), .int .u64 (U f1)] rfl).drew.four
  have cv : (convert 25 9 (.slice a 32 cap)).run Try.prog (w4.alloc (.cells #[.int .u64 (U d0), .int .u64 (U d1), .int .u64 (U f0), .int .u64 (U f1)] 43)).drew = .ok (.string (strOf l)) (w4.alloc (.cells #[.int .u64 (U d0), .int .u64 (U d1), .int .u64 (U f0), .int .u64 (U f1)] 43)).drew := str_conv H16.out.symm cap (HL.out.below HBel0.out)
  refine wp_region_held_drew (S := fun w' => w'.cell? ⟨w4.heap.size, 0, none⟩ = some (.int .u64 (U d0)) ∧ w'.cell? ⟨w4.heap.size, 1, none⟩ = some (.int .u64 (U d1)) ∧ w'.cell? ⟨w4.heap.size, 2, none⟩ = some (.int .u64 (U f0)) ∧ w'.cell? ⟨w4.heap.size, 3, none⟩ = some (.int .u64 (U f1)) ∧ (convert 25 9 (.slice a 32 cap)).run Try.prog w' = .ok (.string (strOf l)) w') (by kernel_rfl) ?_ (fun hHeld => ?_)
  · ((try dsimp only); (try go_split_ands); refine ⟨?_, ?_, ?_, ?_, ?_⟩ <;> assumption)
  refine wpAnyH_take (i := 0) (v := ?_) rfl (by kernel_rfl) (by kernel_rfl) (by kernel_rfl) (fun _ _ _ h => h) (Or.inl ⟨by rfl, ?_⟩) hHeld ?_
  rotate_left
  · intro w hSw
    (try dsimp only at hSw)
    go_simp
    all_goals with_reducible rfl
  try simp only [List.getElem_toArray, List.getElem_cons_succ, List.getElem_cons_zero, Act.put, List.setIfInBounds_toArray, List.set_cons_zero, List.set_cons_succ]
  refine wpAnyH_take (i := 1) (v := ?_) rfl (by kernel_rfl) (by kernel_rfl) (by kernel_rfl) (fun _ _ _ h => h) (Or.inl ⟨by rfl, ?_⟩) hHeld ?_
  rotate_left
  · intro w hSw
    (try dsimp only at hSw)
    go_simp
    all_goals with_reducible rfl
  try simp only [List.getElem_toArray, List.getElem_cons_succ, List.getElem_cons_zero, Act.put, List.setIfInBounds_toArray, List.set_cons_zero, List.set_cons_succ]
  refine wpAnyH_take (i := 2) (v := ?_) rfl (by kernel_rfl) (by kernel_rfl) (by kernel_rfl) (fun _ _ _ h => h) (Or.inl ⟨by rfl, ?_⟩) hHeld ?_
  rotate_left
  · intro w hSw
    (try dsimp only at hSw)
    go_simp
    all_goals with_reducible rfl
  try simp only [List.getElem_toArray, List.getElem_cons_succ, List.getElem_cons_zero, Act.put, List.setIfInBounds_toArray, List.set_cons_zero, List.set_cons_succ]
  refine wpAnyH_take (i := 3) (v := ?_) rfl (by kernel_rfl) (by kernel_rfl) (by kernel_rfl) (fun _ _ _ h => h) (Or.inl ⟨by rfl, ?_⟩) hHeld ?_
  rotate_left
  · intro w hSw
    (try dsimp only at hSw)
    go_simp
    all_goals with_reducible rfl
  try simp only [List.getElem_toArray, List.getElem_cons_succ, List.getElem_cons_zero, Act.put, List.setIfInBounds_toArray, List.set_cons_zero, List.set_cons_succ]
  refine wpAnyH_take (i := 4) (v := ?_) rfl (by kernel_rfl) (by kernel_rfl) (by kernel_rfl) (fun _ _ _ h => h) (Or.inl ⟨by rfl, ?_⟩) hHeld ?_
  rotate_left
  · intro w hSw
    (try dsimp only at hSw)
    go_simp
    all_goals with_reducible rfl
  try simp only [List.getElem_toArray, List.getElem_cons_succ, List.getElem_cons_zero, Act.put, List.setIfInBounds_toArray, List.set_cons_zero, List.set_cons_succ]
  refine wpAnyH_take (i := 5) (v := ?_) rfl (by kernel_rfl) (by kernel_rfl) (by kernel_rfl) (fun _ _ _ h => h) (Or.inl ⟨by rfl, ?_⟩) hHeld ?_
  rotate_left
  · intro w hSw
    (try dsimp only at hSw)
    go_simp
    all_goals with_reducible rfl
  try simp only [List.getElem_toArray, List.getElem_cons_succ, List.getElem_cons_zero, Act.put, List.setIfInBounds_toArray, List.set_cons_zero, List.set_cons_succ]
  refine wpAnyH_take (i := 6) (v := ?_) rfl (by kernel_rfl) (by kernel_rfl) (by kernel_rfl) (fun _ _ _ h => h) (Or.inl ⟨by rfl, ?_⟩) hHeld ?_
  rotate_left
  · intro w hSw
    (try dsimp only at hSw)
    go_simp
    all_goals with_reducible rfl
  try simp only [List.getElem_toArray, List.getElem_cons_succ, List.getElem_cons_zero, Act.put, List.setIfInBounds_toArray, List.set_cons_zero, List.set_cons_succ]
  refine wpAnyH_take (i := 7) (v := ?_) rfl (by kernel_rfl) (by kernel_rfl) (by kernel_rfl) (fun _ _ _ h => h) (Or.inl ⟨by rfl, ?_⟩) hHeld ?_
  rotate_left
  · intro w hSw
    (try dsimp only at hSw)
    go_simp
    all_goals with_reducible rfl
  try simp only [List.getElem_toArray, List.getElem_cons_succ, List.getElem_cons_zero, Act.put, List.setIfInBounds_toArray, List.set_cons_zero, List.set_cons_succ]
  refine wpAnyH_take (i := 8) (v := ?_) rfl (by kernel_rfl) (by kernel_rfl) (by kernel_rfl) (fun _ _ _ h => h) (Or.inl ⟨by rfl, ?_⟩) hHeld ?_
  rotate_left
  · intro w hSw
    (try dsimp only at hSw)
    go_simp
    all_goals with_reducible rfl
  try simp only [List.getElem_toArray, List.getElem_cons_succ, List.getElem_cons_zero, Act.put, List.setIfInBounds_toArray, List.set_cons_zero, List.set_cons_succ]
  refine wpAnyH_take (i := 9) (v := ?_) rfl (by kernel_rfl) (by kernel_rfl) (by kernel_rfl) (fun _ _ _ h => h) (Or.inl ⟨by rfl, ?_⟩) hHeld ?_
  rotate_left
  · intro w hSw
    (try dsimp only at hSw)
    go_simp
    all_goals with_reducible rfl
  try simp only [List.getElem_toArray, List.getElem_cons_succ, List.getElem_cons_zero, Act.put, List.setIfInBounds_toArray, List.set_cons_zero, List.set_cons_succ]
  refine wpAnyH_take (i := 10) (v := ?_) rfl (by kernel_rfl) (by kernel_rfl) (by kernel_rfl) (fun _ _ _ h => h) (Or.inl ⟨by rfl, ?_⟩) hHeld ?_
  rotate_left
  · intro w hSw
    (try dsimp only at hSw)
    go_simp
    all_goals with_reducible rfl
  try simp only [List.getElem_toArray, List.getElem_cons_succ, List.getElem_cons_zero, Act.put, List.setIfInBounds_toArray, List.set_cons_zero, List.set_cons_succ]
  refine wpAnyH_take (i := 11) (v := ?_) rfl (by kernel_rfl) (by kernel_rfl) (by kernel_rfl) (fun _ _ _ h => h) (Or.inl ⟨by rfl, ?_⟩) hHeld ?_
  rotate_left
  · intro w hSw
    (try dsimp only at hSw)
    go_simp
    all_goals with_reducible rfl
  try simp only [List.getElem_toArray, List.getElem_cons_succ, List.getElem_cons_zero, Act.put, List.setIfInBounds_toArray, List.set_cons_zero, List.set_cons_succ]
  refine wpAnyH_take (i := 12) (v := ?_) rfl (by kernel_rfl) (by kernel_rfl) (by kernel_rfl) (fun _ _ _ h => h) (Or.inl ⟨by rfl, ?_⟩) hHeld ?_
  rotate_left
  · intro w hSw
    (try dsimp only at hSw)
    go_simp
    all_goals with_reducible rfl
  try simp only [List.getElem_toArray, List.getElem_cons_succ, List.getElem_cons_zero, Act.put, List.setIfInBounds_toArray, List.set_cons_zero, List.set_cons_succ]
  refine wpAnyH_take (i := 13) (v := ?_) rfl (by kernel_rfl) (by kernel_rfl) (by kernel_rfl) (fun _ _ _ h => h) (Or.inl ⟨by rfl, ?_⟩) hHeld ?_
  rotate_left
  · intro w hSw
    (try dsimp only at hSw)
    go_simp
    all_goals with_reducible rfl
  try simp only [List.getElem_toArray, List.getElem_cons_succ, List.getElem_cons_zero, Act.put, List.setIfInBounds_toArray, List.set_cons_zero, List.set_cons_succ]
  refine wpAnyH_take (i := 16) (v := ?_) rfl (by kernel_rfl) (by kernel_rfl) (by kernel_rfl) (fun _ _ _ h => h) (Or.inl ⟨by rfl, ?_⟩) hHeld ?_
  rotate_left
  · intro w hSw
    (try dsimp only at hSw)
    go_simp
    all_goals with_reducible rfl
  try simp only [List.getElem_toArray, List.getElem_cons_succ, List.getElem_cons_zero, Act.put, List.setIfInBounds_toArray, List.set_cons_zero, List.set_cons_succ]
  refine wpAnyH_take (i := 17) (v := ?_) rfl (by kernel_rfl) (by kernel_rfl) (by kernel_rfl) (fun _ _ _ h => h) (Or.inl ⟨by rfl, ?_⟩) hHeld ?_
  rotate_left
  · intro w hSw
    (try dsimp only at hSw)
    go_simp
    all_goals with_reducible rfl
  try simp only [List.getElem_toArray, List.getElem_cons_succ, List.getElem_cons_zero, Act.put, List.setIfInBounds_toArray, List.set_cons_zero, List.set_cons_succ]
  refine wpAnyH_ready (rs := [14]) (by kernel_rfl) (by simp) ?_
  refine AllReadyH.cons rfl (fun K hK => ?_) AllReadyH.nil
  go_simp
  go_at_call 39
  with_reducible refine (sealoct_any _).mono ?_
  (try go_split_ands)
  rintro e wn ⟨gn, cn, hcn, hO, rfl, hbn⟩
  have fc0 := keeps hbn (p := ⟨w4.heap.size, 0, none⟩) (v := .int .u64 (U d0)) (by assumption)
  have fc1 := keeps hbn (p := ⟨w4.heap.size, 1, none⟩) (v := .int .u64 (U d1)) (by assumption)
  have fc2 := keeps hbn (p := ⟨w4.heap.size, 2, none⟩) (v := .int .u64 (U f0)) (by assumption)
  have fc3 := keeps hbn (p := ⟨w4.heap.size, 3, none⟩) (v := .int .u64 (U f1)) (by assumption)
  have hBn := mkHid (Below.step (w := w) HBel0.out hbn)
  have cvt := str_conv H16.out.symm cap (HL.out.below hBn.out)
  rw [HO.out] at hO
  have cvo := str_conv H16.out.symm cn hO
  clear hcn
  go_wp2_with fail
  refine hK.out _ _ ?_ (fun hHeld => ?_)
  · ((try dsimp only); (try go_split_ands); refine ⟨?_, ?_, ?_, ?_, ?_⟩ <;> assumption)
  clear hK K
  try simp only [List.getElem_toArray, List.getElem_cons_succ, List.getElem_cons_zero, Act.put, List.setIfInBounds_toArray, List.set_cons_zero, List.set_cons_succ]
  refine wpAnyH_ready (rs := [15]) (by kernel_rfl) (by simp) ?_
  refine AllReadyH.cons rfl (fun K hK => ?_) AllReadyH.nil
  go_simp
  refine hK.out _ _ ?_ (fun hHeld => ?_)
  · ((try dsimp only); (try go_split_ands); refine ⟨?_, ?_, ?_, ?_, ?_⟩ <;> assumption)
  clear hK K
  try simp only [List.getElem_toArray, List.getElem_cons_succ, List.getElem_cons_zero, Act.put, List.setIfInBounds_toArray, List.set_cons_zero, List.set_cons_succ]
  refine wpAnyH_take (i := 18) (v := ?_) rfl (by kernel_rfl) (by kernel_rfl) (by kernel_rfl) (fun _ _ _ h => h) (Or.inl ⟨by rfl, ?_⟩) hHeld ?_
  rotate_left
  · intro w hSw
    (try dsimp only at hSw)
    go_simp
    all_goals with_reducible rfl
  try simp only [List.getElem_toArray, List.getElem_cons_succ, List.getElem_cons_zero, Act.put, List.setIfInBounds_toArray, List.set_cons_zero, List.set_cons_succ]
  refine wpAnyH_take (i := 19) (v := ?_) rfl (by kernel_rfl) (by kernel_rfl) (by kernel_rfl) (fun _ _ _ h => h) (Or.inl ⟨by rfl, ?_⟩) hHeld ?_
  rotate_left
  · intro w hSw
    (try dsimp only at hSw)
    go_simp
    all_goals with_reducible rfl
  try simp only [List.getElem_toArray, List.getElem_cons_succ, List.getElem_cons_zero, Act.put, List.setIfInBounds_toArray, List.set_cons_zero, List.set_cons_succ]
  refine wpAnyH_take (i := 20) (v := ?_) rfl (by kernel_rfl) (by kernel_rfl) (by kernel_rfl) (fun _ _ _ h => h) (Or.inl ⟨by rfl, ?_⟩) hHeld ?_
  rotate_left
  · intro w hSw
    (try dsimp only at hSw)
    go_simp
    all_goals with_reducible rfl
  try simp only [List.getElem_toArray, List.getElem_cons_succ, List.getElem_cons_zero, Act.put, List.setIfInBounds_toArray, List.set_cons_zero, List.set_cons_succ]
  refine wpAnyH_take (i := 21) (v := ?_) rfl (by kernel_rfl) (by kernel_rfl) (by kernel_rfl) (fun _ _ _ h => h) (Or.inl ⟨by rfl, ?_⟩) hHeld ?_
  rotate_left
  · intro w hSw
    (try dsimp only at hSw)
    go_simp
    all_goals with_reducible rfl
  try simp only [List.getElem_toArray, List.getElem_cons_succ, List.getElem_cons_zero, Act.put, List.setIfInBounds_toArray, List.set_cons_zero, List.set_cons_succ]
  refine wpAnyH_done (by kernel_rfl) ?_ _
  go_wp2_with fail
  go_ret
  exact ⟨rfl, hBn.out⟩

theorem walk_SealOctets (c0 c1 t0 t1 : BitVec 64) (a : Option Addr) (l : List (BitVec 8)) (cap : Nat) (hcap : l.length ≤ cap) (_hm : cap ≤ maxLen) (w : World) (hL : Bytes w a l) (_nz : a = none → cap = 0) :
    Calls Try.prog 15 #[.agg #[.int .u64 (U c0), .int .u64 (U c1), .int .u64 (U t0), .int .u64 (U t1)], .slice a l.length cap] w fun e w' => e = .returned (.bool true) ∧ Below w.heap.size w w' := by
  by_cases h5 : l.length ≤ 500
  · by_cases h : l.length = 32
    · have c := walk_SealOctets_yes c0 c1 t0 t1 a l cap h (by omega) w hL
      rw [← h] at c
      exact c
    · exact walk_SealOctets_no c0 c1 t0 t1 a l cap h5 h w hL
  · exact walk_SealOctets_long c0 c1 t0 t1 a l cap (by omega) w
end Go.Proofs.Ytdaodopeodheeaa
