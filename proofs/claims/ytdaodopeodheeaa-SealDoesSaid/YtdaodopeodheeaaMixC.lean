/- The contracts of mix: Fold. -/
import Derived.Test.YtdaodopeodheeaaMixB
namespace Go.Proofs.Ytdaodopeodheeaa
open Go.RowKit

set_option maxRecDepth 100000 in
set_option maxHeartbeats 400000 in
theorem fold_long (x y : BitVec 64) (a : Option Addr) (n cap : Nat) (w : World) (hn : 65536 < n) :
    Calls Try.prog 17 #[.agg #[.int .u64 (U x), .int .u64 (U y)], .slice a n cap] w fun e w' =>
      e = .returned (.tuple #[.agg #[.int .u64 (U 0), .int .u64 (U 0)], .int .i64 3]) ∧ Below w.heap.size w w' := by
  go_enter Try.func17, Try.ntmps17
  go_wp2_with fail
  refine bodyPost_ret (v := .tuple #[.agg #[.int .u64 0, .int .u64 0], .int .i64 3]) (by simp [results, Try.results17, go_sem]) rfl ⟨rfl, ?_⟩
  exact ((Below.refl _ _).alloc (Nat.le_refl _) _).alloc (by simp) _

set_option maxRecDepth 100000 in
set_option maxHeartbeats 400000 in
theorem fold_nil (v0 v1 : Int) (a : Option Addr) (cap : Nat) (w : World) :
    Calls Try.prog 17 #[.agg #[.int .u64 v0, .int .u64 v1], .slice a 0 cap] w fun e w' =>
      e = .returned (.tuple #[.agg #[.int .u64 v0, .int .u64 v1], .int .i64 0]) ∧ Below w.heap.size w w' := by
  go_enter Try.func17, Try.ntmps17
  go_wp2_with fail
  refine wp_loop_rounds 1 ?_
  rw [rounds_succ]
  go_wp2
  refine bodyPost_ret (v := .tuple #[.agg #[.int .u64 v0, .int .u64 v1], .int .i64 0]) (by simp [results, Try.results17, go_sem]) rfl ⟨rfl, ?_⟩
  exact ((Below.refl _ _).alloc (Nat.le_refl _) _).alloc (by simp) _

theorem piece {w : World} {b off q : Nat} {l : List (BitVec 8)} (hc : ∀ i, i < l.length → w.cell? ⟨b, off + i, none⟩ = some (.int .u8 (B (l.getD i 0)))) :
    Hid (Bytes w (some ⟨b, off + q, none⟩) ((l.drop q).take 16)) := by
  refine .inr ⟨b, off + q, rfl, fun i hi => ?_⟩
  have hi' : i < 16 ∧ q + i < l.length := by simp at hi; omega
  have h := hc (q + i) hi'.2
  rw [Nat.add_assoc, h]
  simp [List.getD, List.getElem?_drop, hi'.1]

theorem _root_.Go.RowKit.Below.undrew {w w1 : World} (h : Below w.drew.heap.size w.drew w1) : Below w.heap.size w w1 := ⟨h.os, h.tape, h.output, h.size, h.block⟩
/-- what a round of Fold does to the loop's relation -/
theorem rel_fold {w wr w1 w2 w3 : World} {l : List (BitVec 8)} {x y p r : BitVec 64} {j q : Nat} (HQ : Hid (q = 16 * j)) (HS : Hid (foldTo (j + 1) l (x, y) = mixTo 8 (xorB (p, r) (blockOf ((l.drop q).take 16)))))
    (HB : Hid (Blk wr w.heap.size 24 #[.int .u64 (U p), .int .u64 (U r)])) (HB2 : Hid (Blk wr (w.heap.size + 1) 24 #[.int .u64 0, .int .u64 0])) (Hb : Hid (Below w.heap.size w wr)) (hlt : q < l.length)
    (hb1 : Below wr.heap.size wr w1) (hb2 : Below w1.heap.size w1 w2) (hb3 : Below w2.heap.size w2 w3) {i : Value} (hi : i = .int .i64 ((q : Int) + 16)) {m : BitVec 64 × BitVec 64} (hm : m = mixTo 8 (p ^^^ (blockOf ((l.drop q).take 16)).1, r ^^^ (blockOf ((l.drop q).take 16)).2)) :
    ∃ j q : Nat, q = 16 * j ∧ q < l.length + 16 ∧ i = .int .i64 (q : Int) ∧ Blk ((w3.setCell ⟨w.heap.size, 0, none⟩ (.int .u64 (U m.1))).setCell ⟨w.heap.size, 1, none⟩ (.int .u64 (U m.2))) w.heap.size 24 #[.int .u64 (U (foldTo j l (x, y)).1), .int .u64 (U (foldTo j l (x, y)).2)] ∧
      Blk ((w3.setCell ⟨w.heap.size, 0, none⟩ (.int .u64 (U m.1))).setCell ⟨w.heap.size, 1, none⟩ (.int .u64 (U m.2))) (w.heap.size + 1) 24 #[.int .u64 0, .int .u64 0] ∧
      Below w.heap.size w ((w3.setCell ⟨w.heap.size, 0, none⟩ (.int .u64 (U m.1))).setCell ⟨w.heap.size, 1, none⟩ (.int .u64 (U m.2))) := by
  have h := HQ.out
  have l1 := HB.out.lt
  have l2 := HB2.out.lt
  have z1 := hb1.size
  have z2 := hb2.size
  refine ⟨j + 1, q + 16, by omega, by omega, by rw [hi]; rfl, ?_, ?_, ?_⟩
  · rw [HS.out, hm]
    exact (((((HB.out).below hb1 l1).below hb2 (by omega)).below hb3 (by omega)).set 0 _).set 1 _
  · exact (((((HB2.out).below hb1 l2).below hb2 (by omega)).below hb3 (by omega)).other _ (by omega)).other _ (by omega)
  · exact ((((Hb.out.step hb1).step hb2).step hb3).setCell (p := ⟨w.heap.size, 0, none⟩) (Nat.le_refl _) _).setCell (p := ⟨w.heap.size, 1, none⟩) (Nat.le_refl _) _

set_option maxRecDepth 100000 in
set_option maxHeartbeats 4000000 in
theorem fold_some (x y : BitVec 64) (b off cap : Nat) (l : List (BitVec 8)) (w : World) (h0 : 0 < l.length) (hl : l.length ≤ 65536) (hcap : l.length ≤ cap)
    (hc : ∀ i, i < l.length → w.cell? ⟨b, off + i, none⟩ = some (.int .u8 (B (l.getD i 0)))) :
    Calls Try.prog 17 #[.agg #[.int .u64 (U x), .int .u64 (U y)], .slice (some ⟨b, off, none⟩) l.length cap] w fun e w' =>
      e = .returned (.tuple #[.agg #[.int .u64 (U (foldB l (x, y)).1), .int .u64 (U (foldB l (x, y)).2)], .int .i64 0]) ∧ Below w.heap.size w w' := by
  have HC := mkHid hc
  clear hc
  go_enter Try.func17, Try.ntmps17
  go_wp2_with fail
  go_loopw [6] (fun i wr => ∃ j q : Nat, q = 16 * j ∧ q < l.length + 16 ∧ i = .int .i64 (q : Int) ∧ Blk wr w.heap.size 24 #[.int .u64 (U (foldTo j l (x, y)).1), .int .u64 (U (foldTo j l (x, y)).2)] ∧
      Blk wr (w.heap.size + 1) 24 #[.int .u64 0, .int .u64 0] ∧ Below w.heap.size w wr) (fun i _ => l.length + 16 - (intOf i).toNat)
  case atStart => exact ⟨0, 0, by omega, by omega, rfl, by rw [foldTo_zero]; exact (Blk.new _ _ _).alloc _, by have h := Blk.new (w.alloc (.cells #[.int .u64 (U x), .int .u64 (U y)] 24)) 24 #[.int .u64 0, .int .u64 0]; simpa using h, ((Below.refl _ _).alloc (Nat.le_refl _) _).alloc (by simp) _⟩
  case round =>
    obtain ⟨j, q, hq, hj, rfl, hB, hB2, hb⟩ := hrel
    have HQ := mkHid hq
    clear hq
    have c0 : wr.cell? ⟨w.heap.size, 0, none⟩ = some (.int .u64 (U (foldTo j l (x, y)).1)) := hB.cell 0
    have c1 : wr.cell? ⟨w.heap.size, 1, none⟩ = some (.int .u64 (U (foldTo j l (x, y)).2)) := hB.cell 1
    have d0 : wr.cell? ⟨w.heap.size + 1, 0, none⟩ = some (.int .u64 0) := hB2.cell 0
    have d1 : wr.cell? ⟨w.heap.size + 1, 1, none⟩ = some (.int .u64 0) := hB2.cell 1
    have f0 := hB.frozen 0
    have f1 := hB.frozen 1
    have g0 := hB2.frozen 0
    have g1 := hB2.frozen 1
    have HS := mkHid (foldTo_succ j l (x, y))
    have HB := mkHid hB
    have HB2 := mkHid hB2
    have Hb := mkHid hb
    clear hB hb hB2
    by_cases hlt : q < l.length
    · have e1 : IntKind.i64.wrap ((q : Int) + 16) = (q : Int) + 16 := IntWalk.i64_in _ (by omega)
      have hnc : ¬ cap = q := by omega
      have HP0 := piece (w := wr) (b := b) (off := off) (l := l) (q := q) fun i hi => (Hb.out.cell (World.block_lt_of_cell? w _ (HC.out i hi))).trans (HC.out i hi)
      have HP : Hid (Bytes wr.drew (some ⟨b, off + q, none⟩) ((l.drop q).take 16)) := HP0
      clear HP0
      rw [← HQ.out] at HS
      have HL2 : Hid (((l.drop q).take 16).length ≤ 16) := by unfold Hid; simp; omega
      generalize hp : foldTo j l (x, y) = pr at *
      have HPR := mkHid hp
      clear hp
      obtain ⟨p, r⟩ := pr
      dsimp only at c0 c1
      by_cases h16 : q + 16 ≤ l.length
      · have HL : Hid (16 = ((l.drop q).take 16).length) := by unfold Hid; simp; omega
        have x1 : (0 : Int) ≤ (q : Int) + 16 := by omega
        have x2 : (q : Int) + 16 ≤ (cap : Int) := by omega
        have x3 : (q : Int) ≤ (q : Int) + 16 := by omega
        have x4 : (q : Int) + 16 ≤ (l.length : Int) := by omega
        go_wp2_with fail
        go_region_with
          (first
            | (go_at_call 41; ((with_reducible refine (read_any HL.out _ _ _ HL2.out (HP.out)).mono ?_); rintro e w1 ⟨rfl, hb1⟩; have s1 := keeps hb1 (p := ⟨w.heap.size, 0, none⟩) (v := .int .u64 (U p)) (by first | assumption | simp); have t1 := keeps hb1 (p := ⟨w.heap.size, 1, none⟩) (v := .int .u64 (U r)) (by first | assumption | simp); have f1 := keepsF hb1 (p := ⟨w.heap.size, 0, none⟩) (v := .int .u64 (U p)) (by first | assumption | simp) (by first | assumption | simp); have g1 := keepsF hb1 (p := ⟨w.heap.size, 1, none⟩) (v := .int .u64 (U r)) (by first | assumption | simp) (by first | assumption | simp)))
            | (go_at_call 18; ((with_reducible refine (xor_any rfl rfl rfl rfl _).mono ?_); rintro e w2 ⟨rfl, hb2⟩; have s2 := keeps hb2 (p := ⟨w.heap.size, 0, none⟩) (v := .int .u64 (U p)) (by first | assumption | simp); have t2 := keeps hb2 (p := ⟨w.heap.size, 1, none⟩) (v := .int .u64 (U r)) (by first | assumption | simp); have f2 := keepsF hb2 (p := ⟨w.heap.size, 0, none⟩) (v := .int .u64 (U p)) (by first | assumption | simp) (by first | assumption | simp); have g2 := keepsF hb2 (p := ⟨w.heap.size, 1, none⟩) (v := .int .u64 (U r)) (by first | assumption | simp) (by first | assumption | simp)))
            | (go_at_call 24; ((with_reducible refine (mix_any _ _ _).mono ?_); rintro e w3 ⟨rfl, hb3⟩; have s3 := keeps hb3 (p := ⟨w.heap.size, 0, none⟩) (v := .int .u64 (U p)) (by first | assumption | simp); have t3 := keeps hb3 (p := ⟨w.heap.size, 1, none⟩) (v := .int .u64 (U r)) (by first | assumption | simp); have f3 := keepsF hb3 (p := ⟨w.heap.size, 0, none⟩) (v := .int .u64 (U p)) (by first | assumption | simp) (by first | assumption | simp); have g3 := keepsF hb3 (p := ⟨w.heap.size, 1, none⟩) (v := .int .u64 (U r)) (by first | assumption | simp) (by first | assumption | simp))))
        all_goals go_wp2_with fail
        all_goals go_roundw
        all_goals first | exact rel_fold HQ HS HB HB2 Hb hlt hb1.undrew hb2 hb3 rfl rfl | (simp [intOf]; omega)
      · have HL : Hid (l.length - q = ((l.drop q).take 16).length) := by unfold Hid; simp; omega
        have x1 : (0 : Int) ≤ (q : Int) + 16 := by omega
        have x2 : (l.length : Int) ≤ (cap : Int) := by omega
        have x3 : (q : Int) ≤ (l.length : Int) := by omega
        have x4 : ¬ (q : Int) + 16 ≤ (l.length : Int) := by omega
        go_wp2_with fail
        go_region_with
          (first
            | (go_at_call 41; ((with_reducible refine (read_any HL.out _ _ _ HL2.out (HP.out)).mono ?_); rintro e w1 ⟨rfl, hb1⟩; have s1 := keeps hb1 (p := ⟨w.heap.size, 0, none⟩) (v := .int .u64 (U p)) (by first | assumption | simp); have t1 := keeps hb1 (p := ⟨w.heap.size, 1, none⟩) (v := .int .u64 (U r)) (by first | assumption | simp); have f1 := keepsF hb1 (p := ⟨w.heap.size, 0, none⟩) (v := .int .u64 (U p)) (by first | assumption | simp) (by first | assumption | simp); have g1 := keepsF hb1 (p := ⟨w.heap.size, 1, none⟩) (v := .int .u64 (U r)) (by first | assumption | simp) (by first | assumption | simp)))
            | (go_at_call 18; ((with_reducible refine (xor_any rfl rfl rfl rfl _).mono ?_); rintro e w2 ⟨rfl, hb2⟩; have s2 := keeps hb2 (p := ⟨w.heap.size, 0, none⟩) (v := .int .u64 (U p)) (by first | assumption | simp); have t2 := keeps hb2 (p := ⟨w.heap.size, 1, none⟩) (v := .int .u64 (U r)) (by first | assumption | simp); have f2 := keepsF hb2 (p := ⟨w.heap.size, 0, none⟩) (v := .int .u64 (U p)) (by first | assumption | simp) (by first | assumption | simp); have g2 := keepsF hb2 (p := ⟨w.heap.size, 1, none⟩) (v := .int .u64 (U r)) (by first | assumption | simp) (by first | assumption | simp)))
            | (go_at_call 24; ((with_reducible refine (mix_any _ _ _).mono ?_); rintro e w3 ⟨rfl, hb3⟩; have s3 := keeps hb3 (p := ⟨w.heap.size, 0, none⟩) (v := .int .u64 (U p)) (by first | assumption | simp); have t3 := keeps hb3 (p := ⟨w.heap.size, 1, none⟩) (v := .int .u64 (U r)) (by first | assumption | simp); have f3 := keepsF hb3 (p := ⟨w.heap.size, 0, none⟩) (v := .int .u64 (U p)) (by first | assumption | simp) (by first | assumption | simp); have g3 := keepsF hb3 (p := ⟨w.heap.size, 1, none⟩) (v := .int .u64 (U r)) (by first | assumption | simp) (by first | assumption | simp))))
        all_goals go_wp2_with fail
        all_goals go_roundw
        all_goals first | exact rel_fold HQ HS HB HB2 Hb hlt hb1.undrew hb2 hb3 rfl rfl | (simp [intOf]; omega)
    · have hj2 : j = (l.length + 15) / 16 := by have := HQ.out; omega
      have HJ := mkHid hj2
      clear hj2
      go_wp2_with fail
      refine bodyPost_ret (v := .tuple #[.agg #[.int .u64 (U (foldTo j l (x, y)).1), .int .u64 (U (foldTo j l (x, y)).2)], .int .i64 0]) (by simp [results, Try.results17, go_sem, d0, d1]) rfl ⟨by unfold foldB; rw [HJ.out], ?_⟩
      exact (Hb.out.setCell (p := ⟨w.heap.size + 1, 0, none⟩) (by simp) _).setCell (p := ⟨w.heap.size + 1, 1, none⟩) (by simp) _
end Go.Proofs.Ytdaodopeodheeaa
