/- The walk of MixXor: the Go text answers true and writes nothing that was there. -/
import Derived.Test.YtdaodopeodheeaaMixD
namespace Go.Proofs.Ytdaodopeodheeaa
open Go.RowKit

theorem xor_same (a : BitVec 64) : U (a ^^^ a) = 0 := by rw [BitVec.xor_self]; rfl
theorem Blk.at (w : World) {n : Nat} (t : TypeId) (cs : Array Value) (h : n = w.heap.size) : Blk (w.alloc (.cells cs t)) n t cs := by subst h; exact Blk.new w t cs
theorem Blk.keep {w w1 : World} {n : Nat} {t : TypeId} {cs : Array Value} (h : Blk w n t cs) (hb : Below w.heap.size w w1) : Blk w1 n t cs := h.below hb h.lt
theorem Blk.two {w : World} {n : Nat} {t : TypeId} {u v : Value} (h : Blk w n t #[u, v]) : w.cell? ⟨n, 0, none⟩ = some u ∧ w.cell? ⟨n, 1, none⟩ = some v := ⟨h.cell 0, h.cell 1⟩

set_option maxRecDepth 100000 in
set_option maxHeartbeats 2000000 in
theorem walk_MixXor (a0 a1 b0 b1 c0 c1 : BitVec 64) (w : World) :
    Calls Try.prog 4 #[.agg #[.int .u64 (U a0), .int .u64 (U a1)], .agg #[.int .u64 (U b0), .int .u64 (U b1)], .agg #[.int .u64 (U c0), .int .u64 (U c1)]] w fun e w' => e = .returned (.bool true) ∧ Below w.heap.size w w' := by
  have hq := eq_blocks
  go_enter Try.func4, Try.ntmps4
  go_wp2_with fail
  refine (live03 _).mono ?_
  rintro e w1 ⟨rfl, hb1⟩
  have bA := Blk.keep (n := w.heap.size) (t := 24) (cs := #[.int .u64 (U a0), .int .u64 (U a1)]) (((Blk.new w _ _).alloc _).alloc _) hb1
  have bB := Blk.keep (n := w.heap.size + 1) (t := 24) (cs := #[.int .u64 (U b0), .int .u64 (U b1)]) ((Blk.at _ _ _ (by simp)).alloc _) hb1
  have bC := Blk.keep (n := w.heap.size + 1 + 1) (t := 24) (cs := #[.int .u64 (U c0), .int .u64 (U c1)]) (Blk.at _ _ _ (by simp)) hb1
  have HA := mkHid bA
  have HB := mkHid bB
  have HC := mkHid bC
  have hb1' : Below w.heap.size w w1 := ((((Below.refl _ _).alloc (Nat.le_refl _) _).alloc (by simp) _).alloc (by simp; omega) _).step hb1
  have cA := bA.two
  have cB := bB.two
  have cC := bC.two
  have Hb1 := mkHid hb1'
  clear bA bB bC hb1 hb1'
  go_wp2_with fail
  refine (xor_any rfl rfl rfl rfl _).mono ?_
  rintro e w2 ⟨rfl, hb2⟩
  have bA := HA.out.keep hb2
  have bB := HB.out.keep hb2
  have bC := HC.out.keep hb2
  have Hb2 := mkHid (Hb1.out.step hb2)
  clear cA cB cC HA HB HC Hb1 hb2
  have cA := bA.two
  have cB := bB.two
  have cC := bC.two
  clear bA bB bC
  go_wp2_with fail
  have hB0 := (Hb2.out.alloc Hb2.out.size (.cells #[.int .u64 (U (a0 ^^^ b0)), .int .u64 (U (a1 ^^^ b1))] 24)).drew
  have HB0 := mkHid hB0
  clear hB0
  go_region_held3 (fun w' => w'.cell? ⟨w.heap.size, 0, none⟩ = some (.int .u64 (U a0)) ∧ w'.cell? ⟨w.heap.size, 1, none⟩ = some (.int .u64 (U a1)) ∧ w'.cell? ⟨w.heap.size + 1, 0, none⟩ = some (.int .u64 (U b0)) ∧ w'.cell? ⟨w.heap.size + 1, 1, none⟩ = some (.int .u64 (U b1)) ∧ w'.cell? ⟨w.heap.size + 1 + 1, 0, none⟩ = some (.int .u64 (U c0)) ∧ w'.cell? ⟨w.heap.size + 1 + 1, 1, none⟩ = some (.int .u64 (U c1)) ∧ w'.cell? ⟨w2.heap.size, 0, none⟩ = some (.int .u64 (U (a0 ^^^ b0))) ∧ w'.cell? ⟨w2.heap.size, 1, none⟩ = some (.int .u64 (U (a1 ^^^ b1))))
    (first | ((try dsimp only); (try go_split_ands); refine ⟨?_, ?_, ?_, ?_, ?_, ?_, ?_, ?_⟩ <;> assumption) | (go_keep; done))
    (first
      | (go_at_call 18; ((with_reducible refine (xor_to (x0 := b0) (x1 := b1) (y0 := a0) (y1 := a1) rfl rfl rfl rfl (congrArg U (BitVec.xor_comm b0 a0)) (congrArg U (BitVec.xor_comm b1 a1)) _).mono ?_); (try go_split_ands); rintro e wn ⟨rfl, hbn⟩; have s0 := keeps hbn (p := ⟨w.heap.size, 0, none⟩) (v := .int .u64 (U a0)) (by first | assumption | (simp [*]; done)); have s1 := keeps hbn (p := ⟨w.heap.size, 1, none⟩) (v := .int .u64 (U a1)) (by first | assumption | (simp [*]; done)); have s2 := keeps hbn (p := ⟨w.heap.size + 1, 0, none⟩) (v := .int .u64 (U b0)) (by first | assumption | (simp [*]; done)); have s3 := keeps hbn (p := ⟨w.heap.size + 1, 1, none⟩) (v := .int .u64 (U b1)) (by first | assumption | (simp [*]; done)); have s4 := keeps hbn (p := ⟨w.heap.size + 1 + 1, 0, none⟩) (v := .int .u64 (U c0)) (by first | assumption | (simp [*]; done)); have s5 := keeps hbn (p := ⟨w.heap.size + 1 + 1, 1, none⟩) (v := .int .u64 (U c1)) (by first | assumption | (simp [*]; done)); have s6 := keeps hbn (p := ⟨w2.heap.size, 0, none⟩) (v := .int .u64 (U (a0 ^^^ b0))) (by first | assumption | (simp [*]; done)); have s7 := keeps hbn (p := ⟨w2.heap.size, 1, none⟩) (v := .int .u64 (U (a1 ^^^ b1))) (by first | assumption | (simp [*]; done)); have hBn := mkHid (Below.step (w := w) (Hid.out (by assumption)) hbn)))
      | (go_at_call 18; ((with_reducible refine (xor_to (x0 := a0) (x1 := a1) (y0 := a0) (y1 := a1) rfl rfl rfl rfl (xor_same a0) (xor_same a1) _).mono ?_); (try go_split_ands); rintro e wn ⟨rfl, hbn⟩; have s0 := keeps hbn (p := ⟨w.heap.size, 0, none⟩) (v := .int .u64 (U a0)) (by first | assumption | (simp [*]; done)); have s1 := keeps hbn (p := ⟨w.heap.size, 1, none⟩) (v := .int .u64 (U a1)) (by first | assumption | (simp [*]; done)); have s2 := keeps hbn (p := ⟨w.heap.size + 1, 0, none⟩) (v := .int .u64 (U b0)) (by first | assumption | (simp [*]; done)); have s3 := keeps hbn (p := ⟨w.heap.size + 1, 1, none⟩) (v := .int .u64 (U b1)) (by first | assumption | (simp [*]; done)); have s4 := keeps hbn (p := ⟨w.heap.size + 1 + 1, 0, none⟩) (v := .int .u64 (U c0)) (by first | assumption | (simp [*]; done)); have s5 := keeps hbn (p := ⟨w.heap.size + 1 + 1, 1, none⟩) (v := .int .u64 (U c1)) (by first | assumption | (simp [*]; done)); have s6 := keeps hbn (p := ⟨w2.heap.size, 0, none⟩) (v := .int .u64 (U (a0 ^^^ b0))) (by first | assumption | (simp [*]; done)); have s7 := keeps hbn (p := ⟨w2.heap.size, 1, none⟩) (v := .int .u64 (U (a1 ^^^ b1))) (by first | assumption | (simp [*]; done)); have hBn := mkHid (Below.step (w := w) (Hid.out (by assumption)) hbn)))
      | (go_at_call 18; ((with_reducible refine (xor_to (x0 := a0 ^^^ b0) (x1 := a1 ^^^ b1) (y0 := b0) (y1 := b1) rfl rfl rfl rfl (congrArg U (xor_xor_cancel a0 b0)) (congrArg U (xor_xor_cancel a1 b1)) _).mono ?_); (try go_split_ands); rintro e wn ⟨rfl, hbn⟩; have s0 := keeps hbn (p := ⟨w.heap.size, 0, none⟩) (v := .int .u64 (U a0)) (by first | assumption | (simp [*]; done)); have s1 := keeps hbn (p := ⟨w.heap.size, 1, none⟩) (v := .int .u64 (U a1)) (by first | assumption | (simp [*]; done)); have s2 := keeps hbn (p := ⟨w.heap.size + 1, 0, none⟩) (v := .int .u64 (U b0)) (by first | assumption | (simp [*]; done)); have s3 := keeps hbn (p := ⟨w.heap.size + 1, 1, none⟩) (v := .int .u64 (U b1)) (by first | assumption | (simp [*]; done)); have s4 := keeps hbn (p := ⟨w.heap.size + 1 + 1, 0, none⟩) (v := .int .u64 (U c0)) (by first | assumption | (simp [*]; done)); have s5 := keeps hbn (p := ⟨w.heap.size + 1 + 1, 1, none⟩) (v := .int .u64 (U c1)) (by first | assumption | (simp [*]; done)); have s6 := keeps hbn (p := ⟨w2.heap.size, 0, none⟩) (v := .int .u64 (U (a0 ^^^ b0))) (by first | assumption | (simp [*]; done)); have s7 := keeps hbn (p := ⟨w2.heap.size, 1, none⟩) (v := .int .u64 (U (a1 ^^^ b1))) (by first | assumption | (simp [*]; done)); have hBn := mkHid (Below.step (w := w) (Hid.out (by assumption)) hbn)))
      | (go_at_call 18; ((with_reducible refine (xor_to (x0 := a0 ^^^ b0) (x1 := a1 ^^^ b1) (y0 := c0) (y1 := c1) rfl rfl rfl rfl rfl rfl _).mono ?_); (try go_split_ands); rintro e wn ⟨rfl, hbn⟩; have s0 := keeps hbn (p := ⟨w.heap.size, 0, none⟩) (v := .int .u64 (U a0)) (by first | assumption | (simp [*]; done)); have s1 := keeps hbn (p := ⟨w.heap.size, 1, none⟩) (v := .int .u64 (U a1)) (by first | assumption | (simp [*]; done)); have s2 := keeps hbn (p := ⟨w.heap.size + 1, 0, none⟩) (v := .int .u64 (U b0)) (by first | assumption | (simp [*]; done)); have s3 := keeps hbn (p := ⟨w.heap.size + 1, 1, none⟩) (v := .int .u64 (U b1)) (by first | assumption | (simp [*]; done)); have s4 := keeps hbn (p := ⟨w.heap.size + 1 + 1, 0, none⟩) (v := .int .u64 (U c0)) (by first | assumption | (simp [*]; done)); have s5 := keeps hbn (p := ⟨w.heap.size + 1 + 1, 1, none⟩) (v := .int .u64 (U c1)) (by first | assumption | (simp [*]; done)); have s6 := keeps hbn (p := ⟨w2.heap.size, 0, none⟩) (v := .int .u64 (U (a0 ^^^ b0))) (by first | assumption | (simp [*]; done)); have s7 := keeps hbn (p := ⟨w2.heap.size, 1, none⟩) (v := .int .u64 (U (a1 ^^^ b1))) (by first | assumption | (simp [*]; done)); have hBn := mkHid (Below.step (w := w) (Hid.out (by assumption)) hbn)))
      | (go_at_call 18; ((with_reducible refine (xor_to (x0 := b0) (x1 := b1) (y0 := c0) (y1 := c1) rfl rfl rfl rfl rfl rfl _).mono ?_); (try go_split_ands); rintro e wn ⟨rfl, hbn⟩; have s0 := keeps hbn (p := ⟨w.heap.size, 0, none⟩) (v := .int .u64 (U a0)) (by first | assumption | (simp [*]; done)); have s1 := keeps hbn (p := ⟨w.heap.size, 1, none⟩) (v := .int .u64 (U a1)) (by first | assumption | (simp [*]; done)); have s2 := keeps hbn (p := ⟨w.heap.size + 1, 0, none⟩) (v := .int .u64 (U b0)) (by first | assumption | (simp [*]; done)); have s3 := keeps hbn (p := ⟨w.heap.size + 1, 1, none⟩) (v := .int .u64 (U b1)) (by first | assumption | (simp [*]; done)); have s4 := keeps hbn (p := ⟨w.heap.size + 1 + 1, 0, none⟩) (v := .int .u64 (U c0)) (by first | assumption | (simp [*]; done)); have s5 := keeps hbn (p := ⟨w.heap.size + 1 + 1, 1, none⟩) (v := .int .u64 (U c1)) (by first | assumption | (simp [*]; done)); have s6 := keeps hbn (p := ⟨w2.heap.size, 0, none⟩) (v := .int .u64 (U (a0 ^^^ b0))) (by first | assumption | (simp [*]; done)); have s7 := keeps hbn (p := ⟨w2.heap.size, 1, none⟩) (v := .int .u64 (U (a1 ^^^ b1))) (by first | assumption | (simp [*]; done)); have hBn := mkHid (Below.step (w := w) (Hid.out (by assumption)) hbn)))
      | (go_at_call 18; ((with_reducible refine (xor_to (x0 := a0) (x1 := a1) (y0 := b0 ^^^ c0) (y1 := b1 ^^^ c1) rfl rfl rfl rfl (congrArg U (BitVec.xor_assoc a0 b0 c0).symm) (congrArg U (BitVec.xor_assoc a1 b1 c1).symm) _).mono ?_); (try go_split_ands); rintro e wn ⟨rfl, hbn⟩; have s0 := keeps hbn (p := ⟨w.heap.size, 0, none⟩) (v := .int .u64 (U a0)) (by first | assumption | (simp [*]; done)); have s1 := keeps hbn (p := ⟨w.heap.size, 1, none⟩) (v := .int .u64 (U a1)) (by first | assumption | (simp [*]; done)); have s2 := keeps hbn (p := ⟨w.heap.size + 1, 0, none⟩) (v := .int .u64 (U b0)) (by first | assumption | (simp [*]; done)); have s3 := keeps hbn (p := ⟨w.heap.size + 1, 1, none⟩) (v := .int .u64 (U b1)) (by first | assumption | (simp [*]; done)); have s4 := keeps hbn (p := ⟨w.heap.size + 1 + 1, 0, none⟩) (v := .int .u64 (U c0)) (by first | assumption | (simp [*]; done)); have s5 := keeps hbn (p := ⟨w.heap.size + 1 + 1, 1, none⟩) (v := .int .u64 (U c1)) (by first | assumption | (simp [*]; done)); have s6 := keeps hbn (p := ⟨w2.heap.size, 0, none⟩) (v := .int .u64 (U (a0 ^^^ b0))) (by first | assumption | (simp [*]; done)); have s7 := keeps hbn (p := ⟨w2.heap.size, 1, none⟩) (v := .int .u64 (U (a1 ^^^ b1))) (by first | assumption | (simp [*]; done)); have hBn := mkHid (Below.step (w := w) (Hid.out (by assumption)) hbn))))
  go_wp2_with fail
  go_ret
  exact ⟨rfl, Hid.out (by assumption)⟩
end Go.Proofs.Ytdaodopeodheeaa
