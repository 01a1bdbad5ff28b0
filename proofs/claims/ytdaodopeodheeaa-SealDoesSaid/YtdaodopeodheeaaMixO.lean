/- The contracts of mix: octets written. -/
import Derived.Test.YtdaodopeodheeaaMixB
namespace Go.Proofs.Ytdaodopeodheeaa
open Go.RowKit

theorem Bytes.of_blk {w : World} {g : Nat} {t : TypeId} {p : BitVec 64 × BitVec 64} (h : Blk w g t (octTo 16 p)) : Bytes w (some ⟨g, 0, none⟩) (octs p) :=
  .inr ⟨g, 0, rfl, fun i hi => by rw [Nat.zero_add, h.cell, octTo_all p i (by rw [octs_length] at hi; exact hi)]⟩

set_option maxRecDepth 100000 in
set_option maxHeartbeats 1000000 in
theorem octets_any (x y : BitVec 64) (w : World) :
    Calls Try.prog 22 #[.agg #[.int .u64 (U x), .int .u64 (U y)]] w fun e w' =>
      e = .returned (.slice (some ⟨w.heap.size + 1, 0, none⟩) 16 16) ∧ Blk w' (w.heap.size + 1) 5 (octTo 16 (x, y)) ∧ Below w.heap.size w w' := by
  have hmk : ∀ w : World, (Instr.makeSlice 25 (.int .i64 16) (.int .i64 16)).run Try.prog w = .ok (.slice (some ⟨w.heap.size, 0, none⟩) 16 16) (w.alloc (.cells (octTo 0 (x, y)) 5)) := fun _ => by kernel_rfl
  go_enter Try.func22, Try.ntmps22
  go_wp2_with fail
  go_loopw [8] (fun i wr => ∃ k : Nat, k ≤ 16 ∧ i = .int .i64 (k : Int) ∧ Blk wr w.heap.size 24 #[.int .u64 (U x), .int .u64 (U y)] ∧ Blk wr (w.heap.size + 1) 5 (octTo k (x, y)) ∧ Below w.heap.size w wr) (fun i _ => 16 - (intOf i).toNat)
  case atStart => exact ⟨0, by omega, rfl, (Blk.new _ _ _).alloc _, by have h := Blk.new (w.alloc (.cells #[.int .u64 (U x), .int .u64 (U y)] 24)) 5 (octTo 0 (x, y)); simpa using h, ((Below.refl _ _).alloc (Nat.le_refl _) _).alloc (by simp) _⟩
  case round =>
    obtain ⟨k, hk, rfl, hB, hB2, hb⟩ := hrel
    have c0 : wr.cell? ⟨w.heap.size, 0, none⟩ = some (.int .u64 (U x)) := hB.cell 0
    have c1 : wr.cell? ⟨w.heap.size, 1, none⟩ = some (.int .u64 (U y)) := hB.cell 1
    have d0 : k < 16 → wr.cell? ⟨w.heap.size + 1, k, none⟩ = some (.int .u8 0) := fun h => (hB2.cell k).trans (octTo_cell k (x, y) h)
    have g0 := hB2.frozen k
    have HS := mkHid (octTo_succ k (x, y))
    have HB := mkHid hB
    have HB2 := mkHid hB2
    have Hb := mkHid hb
    clear hB hb hB2
    by_cases hlt : k < 16
    · have d1 := d0 hlt
      clear d0
      by_cases h8 : k < 8
      · have hq : (k : Int) / 8 = 0 := by omega
        have hr : (k : Int) % 8 = k := by omega
        have hat : Hid ((x >>> (k * 8)).setWidth 8 = octAt (x, y) k) := by unfold Hid octAt; rw [if_pos h8]
        have e1 := w_shrv x (k * 8)
        have e2 := w_u8 (x >>> (k * 8))
        go_wp2_with fail
        go_roundw
        case rel => exact ⟨k + 1, by omega, by go_num, HB.out.other _ (by omega), by rw [HS.out, ← hat.out]; exact HB2.out.set k _, Hb.out.setCell (p := ⟨w.heap.size + 1, k, none⟩) (by simp) _⟩
        case measure => simp [intOf]; omega
      · obtain ⟨j, rfl⟩ : ∃ j, k = j + 8 := ⟨k - 8, by omega⟩
        have hq : ((j : Int) + 8) / 8 = 1 := by omega
        have hqn : (j + 8) / 8 = 1 := by omega
        have hr : ((j : Int) + 8) % 8 = j := by omega
        have hat : Hid ((y >>> (j * 8)).setWidth 8 = octAt (x, y) (j + 8)) := by unfold Hid octAt; rw [if_neg h8]; rfl
        have e1 := w_shrv y (j * 8)
        have e2 := w_u8 (y >>> (j * 8))
        go_wp2_with fail
        go_roundw
        case rel => exact ⟨j + 8 + 1, by omega, by go_num, HB.out.other _ (by omega), by rw [HS.out, ← hat.out]; exact HB2.out.set (j + 8) _, Hb.out.setCell (p := ⟨w.heap.size + 1, j + 8, none⟩) (by simp) _⟩
        case measure => simp [intOf]; omega
    · obtain rfl : k = 16 := by omega
      go_wp2_with fail
      go_ret
      exact ⟨rfl, HB2.out, Hb.out⟩
end Go.Proofs.Ytdaodopeodheeaa
