/- The contracts of mix: octets read. -/
import Derived.Test.YtdaodopeodheeaaMixA
import Derived.RegionTactic
import Derived.BigRegion
import Derived.Deep.RegionHeld3
import Derived.IntWalk
namespace Go.Proofs.Ytdaodopeodheeaa
open Go.RowKit

/-- a list of octets lies at a -/
def Bytes (w : World) (a : Option Addr) (l : List (BitVec 8)) : Prop :=
  l = [] ∨ ∃ b off, a = some ⟨b, off, none⟩ ∧ ∀ i, i < l.length → w.cell? ⟨b, off + i, none⟩ = some (.int .u8 (B (l.getD i 0)))
theorem Bytes.below {w w' : World} {a : Option Addr} {l : List (BitVec 8)} (h : Bytes w a l) (hb : Below w.heap.size w w') : Bytes w' a l := by
  rcases h with h | ⟨b, off, ha, hc⟩
  · exact .inl h
  · exact .inr ⟨b, off, ha, fun i hi => (hb.cell (World.block_lt_of_cell? w _ (hc i hi))).trans (hc i hi)⟩

set_option maxRecDepth 100000 in
set_option maxHeartbeats 400000 in
theorem read_some (b off cap : Nat) (l : List (BitVec 8)) (w : World) (hl : l.length ≤ 16) (h0 : 0 < l.length) (hc : ∀ i, i < l.length → w.cell? ⟨b, off + i, none⟩ = some (.int .u8 (B (l.getD i 0)))) :
    Calls Try.prog 41 #[.slice (some ⟨b, off, none⟩) l.length cap] w fun e w' =>
      e = .returned (.agg #[.int .u64 (U (readTo l.length l).1), .int .u64 (U (readTo l.length l).2)]) ∧ Below w.heap.size w w' := by
  have hlt0 := World.block_lt_of_cell? w _ (hc 0 h0)
  have HC := mkHid hc
  clear hc
  dsimp only at hlt0
  go_enter Try.func41, Try.ntmps41
  go_wp2_with fail
  go_loopw [7] (fun i wr => ∃ k : Nat, k ≤ l.length ∧ i = .int .i64 (k : Int) ∧ Blk wr w.heap.size 24 #[.int .u64 (U (readTo k l).1), .int .u64 (U (readTo k l).2)] ∧ Below w.heap.size w wr) (fun i _ => l.length - (intOf i).toNat)
  case atStart => exact ⟨0, by omega, rfl, by rw [readTo_zero]; exact Blk.new _ _ _, (Below.refl _ _).alloc (Nat.le_refl _) _⟩
  case round =>
    obtain ⟨k, hk, rfl, hB, hb⟩ := hrel
    have c0 : wr.cell? ⟨w.heap.size, 0, none⟩ = some (.int .u64 (U (readTo k l).1)) := hB.cell 0
    have c1 : wr.cell? ⟨w.heap.size, 1, none⟩ = some (.int .u64 (U (readTo k l).2)) := hB.cell 1
    have f0 := hB.frozen 0
    have f1 := hB.frozen 1
    have HS := mkHid (readTo_succ k l)
    have HB := mkHid hB
    have Hb := mkHid hb
    clear hB hb
    by_cases hlt : k < l.length
    · have hcx : wr.cell? ⟨b, off + k, none⟩ = some (.int .u8 (B (l.getD k 0))) := (Hb.out.cell hlt0).trans (HC.out k hlt)
      generalize l.getD k 0 = c at *
      generalize hp : readTo k l = p at *
      have HP := mkHid hp
      clear hp
      obtain ⟨x, y⟩ := p
      dsimp only at c0 c1
      have e1 := w_B64 c
      by_cases h8 : k < 8
      · have hq : (k : Int) / 8 = 0 := by omega
        have hr : (k : Int) % 8 = k := by omega
        have e2 := w_shlv (c.setWidth 64) (k * 8)
        have e3 := w_or x (c.setWidth 64 <<< (k * 8))
        go_wp2_with fail
        go_region
        go_wp2_with fail
        go_roundw
        case rel => exact ⟨k + 1, by omega, by go_num, by rw [HS.out]; unfold orAt; rw [if_pos h8]; exact (HB.out.set 0 _).drew, (Hb.out.setCell (p := ⟨w.heap.size, 0, none⟩) (Nat.le_refl _) _).drew⟩
        case measure => simp [intOf]; omega
      · obtain ⟨j, rfl⟩ : ∃ j, k = j + 8 := ⟨k - 8, by omega⟩
        have hq : ((j : Int) + 8) / 8 = 1 := by omega
        have hqn : (j + 8) / 8 = 1 := by omega
        have hr : ((j : Int) + 8) % 8 = j := by omega
        have e2 := w_shlv (c.setWidth 64) (j * 8)
        have e3 := w_or y (c.setWidth 64 <<< (j * 8))
        go_wp2_with fail
        go_region
        go_wp2_with fail
        go_roundw
        case rel => exact ⟨j + 8 + 1, by omega, by go_num, by rw [HS.out]; unfold orAt; rw [if_neg h8]; exact (HB.out.set 1 _).drew, (Hb.out.setCell (p := ⟨w.heap.size, 1, none⟩) (Nat.le_refl _) _).drew⟩
        case measure => simp [intOf]; omega
    · obtain rfl : k = l.length := by omega
      go_wp2_with fail
      refine bodyPost_ret (v := .agg #[.int .u64 (U (readTo l.length l).1), .int .u64 (U (readTo l.length l).2)]) (by simp [results, Try.results41, go_sem, c0, c1]) rfl ⟨rfl, ?_⟩
      exact (Hb.out.setCell (p := ⟨w.heap.size, 0, none⟩) (Nat.le_refl _) _).setCell (p := ⟨w.heap.size, 1, none⟩) (Nat.le_refl _) _

set_option maxRecDepth 100000 in
set_option maxHeartbeats 400000 in
theorem read_nil (a : Option Addr) (cap : Nat) (w : World) :
    Calls Try.prog 41 #[.slice a 0 cap] w fun e w' =>
      e = .returned (.agg #[.int .u64 (U 0), .int .u64 (U 0)]) ∧ Below w.heap.size w w' := by
  go_enter Try.func41, Try.ntmps41
  go_wp2_with fail
  refine wp_loop_rounds 1 ?_
  rw [rounds_succ]
  go_wp2
  refine bodyPost_ret (v := .agg #[.int .u64 0, .int .u64 0]) (by simp [results, Try.results41, go_sem]) rfl ⟨rfl, ?_⟩
  exact (Below.refl _ _).alloc (Nat.le_refl _) _

theorem read_any {n : Nat} {l : List (BitVec 8)} (hn : n = l.length) (a : Option Addr) (cap : Nat) (w : World) (hl : l.length ≤ 16) (hB : Bytes w a l) :
    Calls Try.prog 41 #[.slice a n cap] w fun e w' =>
      e = .returned (.agg #[.int .u64 (U (blockOf l).1), .int .u64 (U (blockOf l).2)]) ∧ Below w.heap.size w w' := by
  subst hn
  rcases hB with rfl | ⟨b, off, rfl, hc⟩
  · exact read_nil a cap w
  · by_cases h0 : 0 < l.length
    · exact read_some b off cap l w hl h0 hc
    · obtain rfl : l = [] := List.length_eq_zero_iff.1 (by omega)
      exact read_nil _ cap w

set_option maxRecDepth 100000 in
set_option maxHeartbeats 400000 in
theorem of_not (a : Option Addr) (n cap : Nat) (w : World) (hn : ((n : Int) != 16) = true) :
    Calls Try.prog 20 #[.slice a n cap] w fun e w' =>
      e = .returned (.tuple #[.agg #[.int .u64 (U 0), .int .u64 (U 0)], .int .i64 2]) ∧ Below w.heap.size w w' := by
  go_enter Try.func20, Try.ntmps20
  go_wp2_with fail
  refine bodyPost_ret (v := .tuple #[.agg #[.int .u64 0, .int .u64 0], .int .i64 2]) (by simp [results, Try.results20, go_sem]) rfl ⟨rfl, ?_⟩
  exact (Below.refl _ _).alloc (Nat.le_refl _) _

set_option maxRecDepth 100000 in
set_option maxHeartbeats 400000 in
theorem of_yes {l : List (BitVec 8)} (hl : l.length = 16) (a : Option Addr) (cap : Nat) (w : World) (hB : Bytes w a l) :
    Calls Try.prog 20 #[.slice a 16 cap] w fun e w' =>
      e = .returned (.tuple #[.agg #[.int .u64 (U (readTo 16 l).1), .int .u64 (U (readTo 16 l).2)], .int .i64 0]) ∧ Below w.heap.size w w' := by
  have HL := mkHid hl
  have HB := mkHid hB
  clear hl hB
  go_enter Try.func20, Try.ntmps20
  go_wp2_with fail
  refine (read_any HL.out.symm a cap _ (by rw [HL.out]; omega) (HB.out.below ((Below.refl _ _).alloc (Nat.le_refl _) _))).mono ?_
  rintro e w1 ⟨rfl, hb⟩
  unfold blockOf
  rw [HL.out]
  obtain ⟨hc, hf⟩ := bcell hb
  have hz : w.heap.size < w1.heap.size := by have := hb.size; simp at this; omega
  go_wp2_with fail
  refine bodyPost_ret (v := .tuple #[.agg #[.int .u64 (U (readTo 16 l).1), .int .u64 (U (readTo 16 l).2)], .int .i64 0]) (by simp [results, Try.results20, go_sem, hc]) rfl ⟨rfl, ?_⟩
  exact ((((Below.refl _ _).alloc (Nat.le_refl _) _).trans (hb.mono (by simp))).setCell (p := ⟨w.heap.size, 0, none⟩) (Nat.le_refl _) _).setCell (p := ⟨w.heap.size, 1, none⟩) (Nat.le_refl _) _

set_option maxRecDepth 100000 in
set_option maxHeartbeats 400000 in
theorem part_not (x y : BitVec 64) (i : Int) (w : World) (hi : i < 0 ∨ 4 < i) :
    Calls Try.prog 25 #[.agg #[.int .u64 (U x), .int .u64 (U y)], .int .i64 i] w fun e w' =>
      e = .returned (.tuple #[.agg #[.int .u64 (U 0), .int .u64 (U 0)], .int .i64 1]) ∧ Below w.heap.size w w' := by
  rcases hi with hi | hi
  · go_enter Try.func25, Try.ntmps25
    go_wp2_with fail
    refine bodyPost_ret (v := .tuple #[.agg #[.int .u64 0, .int .u64 0], .int .i64 1]) (by simp [results, Try.results25, go_sem]) rfl ⟨rfl, ?_⟩
    exact ((Below.refl _ _).alloc (Nat.le_refl _) _).alloc (by simp) _
  · have hi' : ¬ i < 0 := by omega
    go_enter Try.func25, Try.ntmps25
    go_wp2_with fail
    refine bodyPost_ret (v := .tuple #[.agg #[.int .u64 0, .int .u64 0], .int .i64 1]) (by simp [results, Try.results25, go_sem]) rfl ⟨rfl, ?_⟩
    exact ((Below.refl _ _).alloc (Nat.le_refl _) _).alloc (by simp) _

theorem keeps {W w1 : World} (hb : Below W.heap.size W w1) {p : Addr} {v : Value} (h : W.cell? p = some v) : w1.cell? p = some v := (hb.cell (World.block_lt_of_cell? W p h)).trans h

theorem _root_.Go.RowKit.Below.step {w a b : World} (h : Below w.heap.size w a) (hb : Below a.heap.size a b) : Below w.heap.size w b := h.trans (hb.mono h.size)
theorem keepsF {W w1 : World} (hb : Below W.heap.size W w1) {p : Addr} {v : Value} (h : W.cell? p = some v) (hf : W.frozen? p = false) : w1.frozen? p = false := (hb.frozen (World.block_lt_of_cell? W p h)).trans hf

set_option maxRecDepth 100000 in
set_option maxHeartbeats 1000000 in
theorem part_yes (x y : BitVec 64) (i : Nat) (w : World) (hi : i ≤ 4) :
    Calls Try.prog 25 #[.agg #[.int .u64 (U x), .int .u64 (U y)], .int .i64 (i : Int)] w fun e w' =>
      e = .returned (.tuple #[.agg #[.int .u64 (U (partB i (x, y)).1), .int .u64 (U (partB i (x, y)).2)], .int .i64 0]) ∧ Below w.heap.size w w' := by
  have hz0 : (0 : Int) = U 0#64 := rfl
  have Hz := mkHid hz0
  have HU : Hid (IntKind.u64.wrap (IntKind.i64.wrap ((i : Int) + 1)) = U (BitVec.ofNat 64 (i + 1))) := by
    unfold Hid U; rw [BitVec.toNat_ofNat, Nat.mod_eq_of_lt (by omega), IntWalk.i64_in _ (by omega), IntKind.wrap_u64]; omega
  clear hz0
  go_enter Try.func25, Try.ntmps25
  go_wp2_with fail
  go_region_held3 (fun w' => w'.cell? ⟨w.heap.size, 0, none⟩ = some (.int .u64 (U x)) ∧ w'.cell? ⟨w.heap.size, 1, none⟩ = some (.int .u64 (U y)))
    (first | go_keep | ((try dsimp only); refine ⟨?_, ?_⟩ <;> assumption))
    (first
      | (go_at_call 18; ((with_reducible refine (xor_any rfl rfl HU.out Hz.out _).mono ?_); rintro e w2 ⟨rfl, hb2⟩; have s2 := keeps hb2 (p := ⟨w.heap.size, 0, none⟩) (v := .int .u64 (U x)) (by first | assumption | simp); have t2 := keeps hb2 (p := ⟨w.heap.size, 1, none⟩) (v := .int .u64 (U y)) (by first | assumption | simp); have p2 := keeps hb2 (p := ⟨w.heap.size + 1, 0, none⟩) (v := .int .u64 0) (by first | assumption | simp); have q2 := keeps hb2 (p := ⟨w.heap.size + 1, 1, none⟩) (v := .int .u64 0) (by first | assumption | simp); have f2 := keepsF hb2 (p := ⟨w.heap.size + 1, 0, none⟩) (v := .int .u64 0) (by first | assumption | simp) (by first | assumption | simp); have g2 := keepsF hb2 (p := ⟨w.heap.size + 1, 1, none⟩) (v := .int .u64 0) (by first | assumption | simp) (by first | assumption | simp)))
      | (go_at_call 24; ((with_reducible refine (mix_any _ _ _).mono ?_); rintro e w1 ⟨rfl, hb1⟩; have s1 := keeps hb1 (p := ⟨w.heap.size, 0, none⟩) (v := .int .u64 (U x)) (by first | assumption | simp); have t1 := keeps hb1 (p := ⟨w.heap.size, 1, none⟩) (v := .int .u64 (U y)) (by first | assumption | simp); have p1 := keeps hb1 (p := ⟨w.heap.size + 1, 0, none⟩) (v := .int .u64 0) (by first | assumption | simp); have q1 := keeps hb1 (p := ⟨w.heap.size + 1, 1, none⟩) (v := .int .u64 0) (by first | assumption | simp); have f1 := keepsF hb1 (p := ⟨w.heap.size + 1, 0, none⟩) (v := .int .u64 0) (by first | assumption | simp) (by first | assumption | simp); have g1 := keepsF hb1 (p := ⟨w.heap.size + 1, 1, none⟩) (v := .int .u64 0) (by first | assumption | simp) (by first | assumption | simp)))
      | (go_at_call 18; ((with_reducible refine (xor_any rfl rfl rfl rfl _).mono ?_); rintro e w3 ⟨rfl, hb3⟩; have s3 := keeps hb3 (p := ⟨w.heap.size, 0, none⟩) (v := .int .u64 (U x)) (by first | assumption | simp); have t3 := keeps hb3 (p := ⟨w.heap.size, 1, none⟩) (v := .int .u64 (U y)) (by first | assumption | simp); have p3 := keeps hb3 (p := ⟨w.heap.size + 1, 0, none⟩) (v := .int .u64 0) (by first | assumption | simp); have q3 := keeps hb3 (p := ⟨w.heap.size + 1, 1, none⟩) (v := .int .u64 0) (by first | assumption | simp); have f3 := keepsF hb3 (p := ⟨w.heap.size + 1, 0, none⟩) (v := .int .u64 0) (by first | assumption | simp) (by first | assumption | simp); have g3 := keepsF hb3 (p := ⟨w.heap.size + 1, 1, none⟩) (v := .int .u64 0) (by first | assumption | simp) (by first | assumption | simp))))
  go_wp2_with fail
  refine bodyPost_ret (v := .tuple #[.agg #[.int .u64 (U (partB i (x, y)).1), .int .u64 (U (partB i (x, y)).2)], .int .i64 0]) (by simp [results, Try.results25, go_sem, p3, q3, partB, xorB]) rfl ⟨rfl, ?_⟩
  exact (((((((Below.refl _ _).alloc (Nat.le_refl _) _).alloc (by simp) _).drew.step hb2).step hb1).step hb3).setCell (p := ⟨w.heap.size + 1, 0, none⟩) (by simp) _).setCell (p := ⟨w.heap.size + 1, 1, none⟩) (by simp) _
end Go.Proofs.Ytdaodopeodheeaa
