/- The contracts of seal: octets read. -/
import Derived.Test.YtdaodopeodheeaaStr
import Derived.Test.YtdaodopeodheeaaSealA
namespace Go.Proofs.Ytdaodopeodheeaa
open Go.RowKit

theorem Bytes.cutL {w : World} {b off : Nat} {l : List (BitVec 8)} (hc : ∀ i, i < l.length → w.cell? ⟨b, off + i, none⟩ = some (.int .u8 (B (l.getD i 0)))) : Bytes w (some ⟨b, off, none⟩) (l.take 16) :=
  .inr ⟨b, off, rfl, fun i hi => by
    have h := hc i (by simp at hi; omega)
    have h2 : i < 16 := by simp at hi; omega
    rw [h]; simp [List.getD, h2]⟩
theorem Bytes.cutR {w : World} {b off : Nat} {l : List (BitVec 8)} (hc : ∀ i, i < l.length → w.cell? ⟨b, off + i, none⟩ = some (.int .u8 (B (l.getD i 0)))) : Bytes w (some ⟨b, off + 16, none⟩) (l.drop 16) :=
  .inr ⟨b, off + 16, rfl, fun i hi => by
    have h := hc (16 + i) (by simp at hi; omega)
    rw [Nat.add_assoc, h]; simp [List.getD, List.getElem?_drop]⟩

set_option maxRecDepth 100000 in
set_option maxHeartbeats 1000000 in
theorem sealof_no (a : Option Addr) (n cap : Nat) (hn : ((n : Int) != 32) = true) (w : World) :
    Calls Try.prog 35 #[.slice a n cap] w fun e w' => e = .returned (.tuple #[.agg #[.int .u64 0, .int .u64 0, .int .u64 0, .int .u64 0], .int .i64 2]) ∧ Below w.heap.size w w' := by
  skip
  go_enter Try.func35, Try.ntmps35
  go_wp2_with fail
  refine bodyPost_ret (v := .tuple #[.agg #[.int .u64 0, .int .u64 0, .int .u64 0, .int .u64 0], .int .i64 2]) (by simp [results, Try.results35, go_sem]) rfl ⟨rfl, ?_⟩
  exact (by repeat' first | with_reducible exact Below.refl _ _ | with_reducible refine Below.drew ?_ | with_reducible refine below_drewN ?_ _ | with_reducible refine Below.setCell ?_ ?_ _ | with_reducible refine Below.alloc ?_ ?_ _ | (dsimp only; omega) | (simp <;> fail) | (simp; omega))

set_option maxRecDepth 100000 in
set_option maxHeartbeats 1000000 in
theorem sealof_some {l : List (BitVec 8)} {c0 c1 t0 t1 : BitVec 64} (hC : Hid (blockOf (l.take 16) = (c0, c1))) (hT : Hid (blockOf (l.drop 16) = (t0, t1))) (hl : l.length = 32) (b off cap : Nat) (hcap : 32 ≤ cap) (w : World) (hc : ∀ i, i < l.length → w.cell? ⟨b, off + i, none⟩ = some (.int .u8 (B (l.getD i 0)))) :
    Calls Try.prog 35 #[.slice (some ⟨b, off, none⟩) 32 cap] w fun e w' => e = .returned (.tuple #[.agg #[.int .u64 (U c0), .int .u64 (U c1), .int .u64 (U t0), .int .u64 (U t1)], .int .i64 0]) ∧ Below w.heap.size w w' := by
  have hnc : ¬ cap = 16 := by omega
  have x1 : (16 : Int) ≤ (cap : Int) := by omega
  have x2 : (32 : Int) ≤ (cap : Int) := by omega
  have HC0 := mkHid hc
  have HLn := mkHid hl
  clear hc hl hcap
  go_enter Try.func35, Try.ntmps35
  go_wp2_with fail
  refine (of_eq hC (by have := HLn.out; simp; omega) rfl _ _ _ ((Bytes.cutL HC0.out).below ((Below.refl _ _).alloc (Nat.le_refl _) _))).mono ?_
  rintro e w1 ⟨rfl, hb1⟩
  have bR := Blk.keep (n := w.heap.size) (t := 43) (cs := #[.int .u64 (0), .int .u64 (0), .int .u64 (0), .int .u64 (0)]) (by repeat' first | with_reducible refine Blk.drew ?_ | (with_reducible refine Blk.at _ _ _ ?_; (simp <;> fail)) | with_reducible refine Blk.alloc ?_ _) hb1
  have hBN := Below.step (w := w) (by repeat' first | with_reducible exact Below.refl _ _ | with_reducible refine Below.drew ?_ | with_reducible refine below_drewN ?_ _ | with_reducible refine Below.setCell ?_ ?_ _ | with_reducible refine Below.alloc ?_ ?_ _ | (dsimp only; omega) | (simp <;> fail) | (simp; omega)) hb1
  clear hb1
  have cR := bR.four
  have HR := mkHid bR
  have lR := bR.lt
  have fR0 := bR.frozen 0
  have fR1 := bR.frozen 1
  have fR2 := bR.frozen 2
  have fR3 := bR.frozen 3
  clear bR
  have HBel := mkHid hBN
  clear hBN
  go_wp2_with fail
  have dCR : w.heap.size < w1.heap.size := lR
  refine (of_eq hT (by have := HLn.out; simp; omega) rfl _ _ _ ((Bytes.cutR HC0.out).below (HBel.out.alloc HBel.out.size _))).mono ?_
  rintro e w2 ⟨rfl, hb2⟩
  have bR := Blk.keep (n := w.heap.size) (t := 43) (cs := #[.int .u64 (0), .int .u64 (0), .int .u64 (0), .int .u64 (0)]) (by repeat' first | with_reducible exact HR.out | with_reducible refine Blk.drew ?_ | (with_reducible refine Blk.at _ _ _ ?_; (simp <;> fail)) | with_reducible refine Blk.alloc ?_ _) hb2
  have bC := Blk.keep (n := w1.heap.size) (t := 24) (cs := #[.int .u64 (U c0), .int .u64 (U c1)]) (by repeat' first | with_reducible refine Blk.drew ?_ | (with_reducible refine Blk.at _ _ _ ?_; (simp <;> fail)) | with_reducible refine Blk.alloc ?_ _) hb2
  have hBN := Below.step (w := w) (by repeat' first | with_reducible exact HBel.out | with_reducible exact Below.refl _ _ | with_reducible refine Below.drew ?_ | with_reducible refine below_drewN ?_ _ | with_reducible refine Below.setCell ?_ ?_ _ | with_reducible refine Below.alloc ?_ ?_ _ | (dsimp only; omega) | (simp <;> fail) | (have := HBel.out.size; simp; omega)) hb2
  try clear cR
  clear HR lR fR0 fR1 fR2 fR3 HBel hb2
  have cR := bR.four
  have HR := mkHid bR
  have lR := bR.lt
  have fR0 := bR.frozen 0
  have fR1 := bR.frozen 1
  have fR2 := bR.frozen 2
  have fR3 := bR.frozen 3
  clear bR
  have cC := bC.two
  have HC := mkHid bC
  have lC := bC.lt
  clear bC
  have HBel := mkHid hBN
  clear hBN
  go_wp2_with fail
  have qR : Blk ((((((w2).setCell ⟨w.heap.size, 0, none⟩ (.int .u64 (U c0))).setCell ⟨w.heap.size, 1, none⟩ (.int .u64 (U c1))).setCell ⟨w.heap.size, 2, none⟩ (.int .u64 (U t0))).setCell ⟨w.heap.size, 3, none⟩ (.int .u64 (U t1))).alloc (.cells #[.int .u64 (U t0), .int .u64 (U t1)] 24)) (w.heap.size) 43 #[.int .u64 (U c0), .int .u64 (U c1), .int .u64 (U t0), .int .u64 (U t1)] := (by repeat' first | with_reducible exact HR.out | (with_reducible refine Blk.at _ _ _ ?_; (simp <;> fail)) | (with_reducible apply Blk.fill4) | (with_reducible apply Blk.fill4a) | (with_reducible apply Blk.fill4b) | with_reducible refine Blk.other ?_ _ ?_ | omega | with_reducible refine Blk.drew ?_ | with_reducible refine Blk.alloc ?_ _)
  have qR' := qR.four
  refine bodyPost_ret (v := .tuple #[.agg #[.int .u64 (U c0), .int .u64 (U c1), .int .u64 (U t0), .int .u64 (U t1)], .int .i64 0]) (by simp [results, Try.results35, go_sem, qR']) rfl ⟨rfl, ?_⟩
  exact (by repeat' first | with_reducible exact HBel.out | with_reducible exact Below.refl _ _ | with_reducible refine Below.drew ?_ | with_reducible refine below_drewN ?_ _ | with_reducible refine Below.setCell ?_ ?_ _ | with_reducible refine Below.alloc ?_ ?_ _ | (dsimp only; omega) | (simp <;> fail) | (have := HBel.out.size; simp; omega))
end Go.Proofs.Ytdaodopeodheeaa
