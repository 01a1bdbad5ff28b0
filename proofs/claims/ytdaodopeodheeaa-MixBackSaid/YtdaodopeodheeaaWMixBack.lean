/- The walk of MixBack: the Go text answers true and writes nothing that was there. -/
import Derived.Test.YtdaodopeodheeaaKit
namespace Go.Proofs.Ytdaodopeodheeaa
open Go.RowKit

set_option maxRecDepth 100000 in
set_option maxHeartbeats 2000000 in
theorem walk_MixBack (a0 a1 b0 b1 : BitVec 64) (w : World) :
    Calls Try.prog 7 #[.agg #[.int .u64 (U a0), .int .u64 (U a1)], .agg #[.int .u64 (U b0), .int .u64 (U b1)]] w fun e w' => e = .returned (.bool true) ∧ Below w.heap.size w w' := by
  have hq := eq_blocks
  obtain ⟨m0, m1, hm⟩ := pair_ex (mixTo 8 (a0, a1))
  obtain ⟨n0, n1, hn⟩ := pair_ex (mixTo 8 (b0, b1))
  obtain ⟨u0, u1, hu⟩ := pair_ex (unmixFrom 8 (a0, a1))
  have hs := same_of (mix_iff hm hn)
  dsimp only at hs
  have K1 := mkHid hm
  have K2 := mkHid hn
  have K3 := mkHid hu
  have K4 := mkHid (mix_of_unmix hm)
  have K5 := mkHid (unmix_of_mix hu)
  clear hm hn hu
  go_enter Try.func7, Try.ntmps7
  go_wp2_with fail
  refine (live03 _).mono ?_
  rintro e w1 ⟨rfl, hb1⟩
  have bA := Blk.keep (n := w.heap.size) (t := 24) (cs := #[.int .u64 (U a0), .int .u64 (U a1)]) (by repeat' first | refine Blk.drew ?_ | exact Blk.at _ _ _ (by simp) | refine Blk.alloc ?_ _) hb1
  have bB := Blk.keep (n := w.heap.size + 1) (t := 24) (cs := #[.int .u64 (U b0), .int .u64 (U b1)]) (by repeat' first | refine Blk.drew ?_ | exact Blk.at _ _ _ (by simp) | refine Blk.alloc ?_ _) hb1
  have hBN := Below.step (w := w) (by repeat' first | exact Below.refl _ _ | refine Below.drew ?_ | refine below_drewN ?_ _ | refine Below.alloc ?_ (by first | (simp; done) | (simp; omega)) _) hb1
  clear hb1
  have cA := bA.two
  have HA := mkHid bA
  clear bA
  have cB := bB.two
  have HB := mkHid bB
  clear bB
  have HB := mkHid hBN
  clear hBN
  go_wp2_with fail
  have HB0 : Hid (Below w.heap.size w (World.drew _)) := mkHid (Below.drew HB.out)
  go_region_held3 (fun w' => w'.cell? ⟨w.heap.size, 0, none⟩ = some (.int .u64 (U a0)) ∧ w'.cell? ⟨w.heap.size, 1, none⟩ = some (.int .u64 (U a1)) ∧ w'.cell? ⟨w.heap.size + 1, 0, none⟩ = some (.int .u64 (U b0)) ∧ w'.cell? ⟨w.heap.size + 1, 1, none⟩ = some (.int .u64 (U b1)))
    (first | ((try dsimp only); (try go_split_ands); refine ⟨?_, ?_, ?_, ?_⟩ <;> assumption) | (go_keep; done))
    (first
        | (go_at_call 23; ((with_reducible refine (unmix_eq K4 rfl rfl _).mono ?_); (try go_split_ands); rintro e wn ⟨rfl, hbn⟩; have s0 := keeps hbn (p := ⟨w.heap.size, 0, none⟩) (v := .int .u64 (U a0)) (by first | assumption | (simp [*]; done)); have s1 := keeps hbn (p := ⟨w.heap.size, 1, none⟩) (v := .int .u64 (U a1)) (by first | assumption | (simp [*]; done)); have s2 := keeps hbn (p := ⟨w.heap.size + 1, 0, none⟩) (v := .int .u64 (U b0)) (by first | assumption | (simp [*]; done)); have s3 := keeps hbn (p := ⟨w.heap.size + 1, 1, none⟩) (v := .int .u64 (U b1)) (by first | assumption | (simp [*]; done)); have hBn := mkHid (Below.step (w := w) (Hid.out (by assumption)) hbn)))
        | (go_at_call 23; ((with_reducible refine (unmix_eq K3 rfl rfl _).mono ?_); (try go_split_ands); rintro e wn ⟨rfl, hbn⟩; have s0 := keeps hbn (p := ⟨w.heap.size, 0, none⟩) (v := .int .u64 (U a0)) (by first | assumption | (simp [*]; done)); have s1 := keeps hbn (p := ⟨w.heap.size, 1, none⟩) (v := .int .u64 (U a1)) (by first | assumption | (simp [*]; done)); have s2 := keeps hbn (p := ⟨w.heap.size + 1, 0, none⟩) (v := .int .u64 (U b0)) (by first | assumption | (simp [*]; done)); have s3 := keeps hbn (p := ⟨w.heap.size + 1, 1, none⟩) (v := .int .u64 (U b1)) (by first | assumption | (simp [*]; done)); have hBn := mkHid (Below.step (w := w) (Hid.out (by assumption)) hbn)))
        | (go_at_call 24; ((with_reducible refine (mix_eq K5 rfl rfl _).mono ?_); (try go_split_ands); rintro e wn ⟨rfl, hbn⟩; have s0 := keeps hbn (p := ⟨w.heap.size, 0, none⟩) (v := .int .u64 (U a0)) (by first | assumption | (simp [*]; done)); have s1 := keeps hbn (p := ⟨w.heap.size, 1, none⟩) (v := .int .u64 (U a1)) (by first | assumption | (simp [*]; done)); have s2 := keeps hbn (p := ⟨w.heap.size + 1, 0, none⟩) (v := .int .u64 (U b0)) (by first | assumption | (simp [*]; done)); have s3 := keeps hbn (p := ⟨w.heap.size + 1, 1, none⟩) (v := .int .u64 (U b1)) (by first | assumption | (simp [*]; done)); have hBn := mkHid (Below.step (w := w) (Hid.out (by assumption)) hbn)))
        | (go_at_call 24; ((with_reducible refine (mix_eq K1 rfl rfl _).mono ?_); (try go_split_ands); rintro e wn ⟨rfl, hbn⟩; have s0 := keeps hbn (p := ⟨w.heap.size, 0, none⟩) (v := .int .u64 (U a0)) (by first | assumption | (simp [*]; done)); have s1 := keeps hbn (p := ⟨w.heap.size, 1, none⟩) (v := .int .u64 (U a1)) (by first | assumption | (simp [*]; done)); have s2 := keeps hbn (p := ⟨w.heap.size + 1, 0, none⟩) (v := .int .u64 (U b0)) (by first | assumption | (simp [*]; done)); have s3 := keeps hbn (p := ⟨w.heap.size + 1, 1, none⟩) (v := .int .u64 (U b1)) (by first | assumption | (simp [*]; done)); have hBn := mkHid (Below.step (w := w) (Hid.out (by assumption)) hbn)))
        | (go_at_call 24; ((with_reducible refine (mix_eq K2 rfl rfl _).mono ?_); (try go_split_ands); rintro e wn ⟨rfl, hbn⟩; have s0 := keeps hbn (p := ⟨w.heap.size, 0, none⟩) (v := .int .u64 (U a0)) (by first | assumption | (simp [*]; done)); have s1 := keeps hbn (p := ⟨w.heap.size, 1, none⟩) (v := .int .u64 (U a1)) (by first | assumption | (simp [*]; done)); have s2 := keeps hbn (p := ⟨w.heap.size + 1, 0, none⟩) (v := .int .u64 (U b0)) (by first | assumption | (simp [*]; done)); have s3 := keeps hbn (p := ⟨w.heap.size + 1, 1, none⟩) (v := .int .u64 (U b1)) (by first | assumption | (simp [*]; done)); have hBn := mkHid (Below.step (w := w) (Hid.out (by assumption)) hbn))))
  go_wp2_with fail
  go_ret
  exact ⟨rfl, Hid.out (by assumption)⟩
end Go.Proofs.Ytdaodopeodheeaa
