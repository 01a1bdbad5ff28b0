/- The walk of MixApart: the Go text answers true and writes nothing that was there. -/
import Derived.Test.YtdaodopeodheeaaKit
import Derived.Deep.DeepCutAuto
namespace Go.Proofs.Ytdaodopeodheeaa
open Go.RowKit

set_option maxRecDepth 100000 in
set_option maxHeartbeats 2000000 in
theorem walk_MixApart_long (a0 a1 b0 b1 : BitVec 64) (a : Option Addr) (l : List (BitVec 8)) (cap : Nat) (p0 p1 q0 q1 : BitVec 64) (h5 : 500 < l.length) (w : World) :
    Calls Try.prog 6 #[.agg #[.int .u64 (U a0), .int .u64 (U a1)], .agg #[.int .u64 (U b0), .int .u64 (U b1)], .slice a l.length cap, .agg #[.int .u64 (U p0), .int .u64 (U p1)], .agg #[.int .u64 (U q0), .int .u64 (U q1)]] w fun e w' => e = .returned (.bool true) ∧ Below w.heap.size w w' := by
  have hq := eq_blocks
  go_enter Try.func6, Try.ntmps6
  go_wp2_with fail
  refine (live03 _).mono ?_
  rintro e w1 ⟨rfl, hb1⟩
  have hBN := Below.step (w := w) (by repeat' first | exact Below.refl _ _ | refine Below.drew ?_ | refine below_drewN ?_ _ | refine Below.alloc ?_ (by first | (simp; done) | (simp; omega)) _) hb1
  clear hb1
  have HBel := mkHid hBN
  clear hBN
  go_wp2_with fail
  go_ret
  exact ⟨rfl, HBel.out⟩

set_option maxRecDepth 100000 in
set_option maxHeartbeats 2000000 in
theorem walk_MixApart_yes (a0 a1 b0 b1 : BitVec 64) (a : Option Addr) (l : List (BitVec 8)) (cap : Nat) (p0 p1 q0 q1 : BitVec 64) (h5 : l.length ≤ 500) (hcap : l.length ≤ cap) (w : World) (hL : Bytes w a l) :
    Calls Try.prog 6 #[.agg #[.int .u64 (U a0), .int .u64 (U a1)], .agg #[.int .u64 (U b0), .int .u64 (U b1)], .slice a l.length cap, .agg #[.int .u64 (U p0), .int .u64 (U p1)], .agg #[.int .u64 (U q0), .int .u64 (U q1)]] w fun e w' => e = .returned (.bool true) ∧ Below w.heap.size w w' := by
  have hq := eq_blocks
  obtain ⟨x0, x1, hx⟩ := pair_ex (foldB l (a0, a1))
  obtain ⟨y0, y1, hy⟩ := pair_ex (foldB l (b0, b1))
  obtain ⟨s0, s1, hs⟩ := pair_ex (foldB (octs (p0, p1)) (a0, a1))
  obtain ⟨t0, t1, ht⟩ := pair_ex (foldB (octs (q0, q1)) (a0, a1))
  have hs1 : ((U x0 == U y0 && U x1 == U y1) == (U a0 == U b0 && U a1 == U b1)) = true :=
    same_of (p := (x0, x1)) (q := (y0, y1)) ⟨fun h => by rw [← hx, ← hy] at h; exact ⟨congrArg Prod.fst (foldB_inj h), congrArg Prod.snd (foldB_inj h)⟩, fun h => by rw [← hx, ← hy, h.1, h.2]⟩
  have hs2 : ((U s0 == U t0 && U s1 == U t1) == (U p0 == U q0 && U p1 == U q1)) = true :=
    same_of (p := (s0, s1)) (q := (t0, t1)) ⟨fun h => by
      rw [← hs, ← ht, foldB_octs, foldB_octs, xorB_comm, xorB_comm (a0, a1)] at h
      have h2 := xorB_inj (mixTo_inj h)
      exact ⟨congrArg Prod.fst h2, congrArg Prod.snd h2⟩, fun h => by rw [← hs, ← ht, h.1, h.2]⟩
  have K1 := mkHid hx
  have K2 := mkHid hy
  have K3 := mkHid hs
  have K4 := mkHid ht
  have HL := mkHid hL
  clear hx hy hs ht hL
  go_enter Try.func6, Try.ntmps6
  go_wp2_with fail
  refine (live03 _).mono ?_
  rintro e w1 ⟨rfl, hb1⟩
  have bA := Blk.keep (n := w.heap.size) (t := 24) (cs := #[.int .u64 (U a0), .int .u64 (U a1)]) (by repeat' first | refine Blk.drew ?_ | exact Blk.at _ _ _ (by simp) | refine Blk.alloc ?_ _) hb1
  have bB := Blk.keep (n := w.heap.size + 1) (t := 24) (cs := #[.int .u64 (U b0), .int .u64 (U b1)]) (by repeat' first | refine Blk.drew ?_ | exact Blk.at _ _ _ (by simp) | refine Blk.alloc ?_ _) hb1
  have bP := Blk.keep (n := w.heap.size + 1 + 1) (t := 24) (cs := #[.int .u64 (U p0), .int .u64 (U p1)]) (by repeat' first | refine Blk.drew ?_ | exact Blk.at _ _ _ (by simp) | refine Blk.alloc ?_ _) hb1
  have bQ := Blk.keep (n := w.heap.size + 1 + 1 + 1) (t := 24) (cs := #[.int .u64 (U q0), .int .u64 (U q1)]) (by repeat' first | refine Blk.drew ?_ | exact Blk.at _ _ _ (by simp) | refine Blk.alloc ?_ _) hb1
  have hBN := Below.step (w := w) (by repeat' first | exact Below.refl _ _ | refine Below.drew ?_ | refine below_drewN ?_ _ | refine Below.alloc ?_ (by first | (simp; done) | (simp; omega)) _) hb1
  clear hb1
  have cA := bA.two
  have HA := mkHid bA
  have lA := bA.lt
  clear bA
  have cB := bB.two
  have HB := mkHid bB
  have lB := bB.lt
  clear bB
  have cP := bP.two
  have HP := mkHid bP
  have lP := bP.lt
  clear bP
  have cQ := bQ.two
  have HQ := mkHid bQ
  have lQ := bQ.lt
  clear bQ
  have HBel := mkHid hBN
  clear hBN
  go_wp2_with fail
  refine (fold_eq K1 rfl rfl rfl _ cap _ (by omega) hcap (HL.out.below HBel.out)).mono ?_
  rintro e w2 ⟨rfl, hb2⟩
  have bA := Blk.keep (n := w.heap.size) (t := 24) (cs := #[.int .u64 (U a0), .int .u64 (U a1)]) (by repeat' first | with_reducible exact HA.out | refine Blk.drew ?_ | exact Blk.at _ _ _ (by simp) | refine Blk.alloc ?_ _) hb2
  have bB := Blk.keep (n := w.heap.size + 1) (t := 24) (cs := #[.int .u64 (U b0), .int .u64 (U b1)]) (by repeat' first | with_reducible exact HB.out | refine Blk.drew ?_ | exact Blk.at _ _ _ (by simp) | refine Blk.alloc ?_ _) hb2
  have bP := Blk.keep (n := w.heap.size + 1 + 1) (t := 24) (cs := #[.int .u64 (U p0), .int .u64 (U p1)]) (by repeat' first | with_reducible exact HP.out | refine Blk.drew ?_ | exact Blk.at _ _ _ (by simp) | refine Blk.alloc ?_ _) hb2
  have bQ := Blk.keep (n := w.heap.size + 1 + 1 + 1) (t := 24) (cs := #[.int .u64 (U q0), .int .u64 (U q1)]) (by repeat' first | with_reducible exact HQ.out | refine Blk.drew ?_ | exact Blk.at _ _ _ (by simp) | refine Blk.alloc ?_ _) hb2
  have hBN := Below.step (w := w) (by repeat' first | with_reducible exact HBel.out | exact Below.refl _ _ | refine Below.drew ?_ | refine below_drewN ?_ _ | refine Below.alloc ?_ (by first | (simp; done) | (have := HBel.out.size; simp; omega)) _) hb2
  clear cA HA lA cB HB lB cP HP lP cQ HQ lQ HBel hb2
  have cA := bA.two
  have HA := mkHid bA
  have lA := bA.lt
  clear bA
  have cB := bB.two
  have HB := mkHid bB
  have lB := bB.lt
  clear bB
  have cP := bP.two
  have HP := mkHid bP
  have lP := bP.lt
  clear bP
  have cQ := bQ.two
  have HQ := mkHid bQ
  have lQ := bQ.lt
  clear bQ
  have HBel := mkHid hBN
  clear hBN
  go_wp2_with fail
  refine (fold_eq K2 rfl rfl rfl _ cap _ (by omega) hcap (HL.out.below (HBel.out.alloc HBel.out.size _))).mono ?_
  rintro e w3 ⟨rfl, hb3⟩
  have bA := Blk.keep (n := w.heap.size) (t := 24) (cs := #[.int .u64 (U a0), .int .u64 (U a1)]) (by repeat' first | with_reducible exact HA.out | refine Blk.drew ?_ | exact Blk.at _ _ _ (by simp) | refine Blk.alloc ?_ _) hb3
  have bB := Blk.keep (n := w.heap.size + 1) (t := 24) (cs := #[.int .u64 (U b0), .int .u64 (U b1)]) (by repeat' first | with_reducible exact HB.out | refine Blk.drew ?_ | exact Blk.at _ _ _ (by simp) | refine Blk.alloc ?_ _) hb3
  have bP := Blk.keep (n := w.heap.size + 1 + 1) (t := 24) (cs := #[.int .u64 (U p0), .int .u64 (U p1)]) (by repeat' first | with_reducible exact HP.out | refine Blk.drew ?_ | exact Blk.at _ _ _ (by simp) | refine Blk.alloc ?_ _) hb3
  have bQ := Blk.keep (n := w.heap.size + 1 + 1 + 1) (t := 24) (cs := #[.int .u64 (U q0), .int .u64 (U q1)]) (by repeat' first | with_reducible exact HQ.out | refine Blk.drew ?_ | exact Blk.at _ _ _ (by simp) | refine Blk.alloc ?_ _) hb3
  have bX := Blk.keep (n := w2.heap.size) (t := 24) (cs := #[.int .u64 (U x0), .int .u64 (U x1)]) (by repeat' first | refine Blk.drew ?_ | exact Blk.at _ _ _ (by simp) | refine Blk.alloc ?_ _) hb3
  have hBN := Below.step (w := w) (by repeat' first | with_reducible exact HBel.out | exact Below.refl _ _ | refine Below.drew ?_ | refine below_drewN ?_ _ | refine Below.alloc ?_ (by first | (simp; done) | (have := HBel.out.size; simp; omega)) _) hb3
  clear cA HA lA cB HB lB cP HP lP cQ HQ lQ HBel hb3
  have cA := bA.two
  have HA := mkHid bA
  have lA := bA.lt
  clear bA
  have cB := bB.two
  have HB := mkHid bB
  have lB := bB.lt
  clear bB
  have cP := bP.two
  have HP := mkHid bP
  have lP := bP.lt
  clear bP
  have cQ := bQ.two
  have HQ := mkHid bQ
  have lQ := bQ.lt
  clear bQ
  have cX := bX.two
  have HX := mkHid bX
  have lX := bX.lt
  clear bX
  have HBel := mkHid hBN
  clear hBN
  go_wp2_with fail
  go_upto_region 6 with fail
  
  have ne0 : w3.heap.size + 1 ≠ w.heap.size := by omega
  have ne1 : w3.heap.size + 1 ≠ w.heap.size + 1 := by omega
  have nx1 : w3.heap.size ≠ w.heap.size := by omega
  have ne2 : w3.heap.size + 1 ≠ w.heap.size + 1 + 1 := by omega
  have nx2 : w3.heap.size ≠ w.heap.size + 1 := by omega
  have ne3 : w3.heap.size + 1 ≠ w.heap.size + 1 + 1 + 1 := by omega
  have nx3 : w3.heap.size ≠ w.heap.size + 1 + 1 := by omega
  have ne4 : w3.heap.size + 1 ≠ w2.heap.size := by omega
  have ne5 : w3.heap.size + 1 ≠ w3.heap.size := by omega
  go_cut [16, 17] (fun s16 s17 wx => ∃ n : Nat, s16 = .pointer (some ⟨n, 0, none⟩) ∧ s17 = .int .i64 0 ∧ wx.cell? ⟨n, 0, none⟩ = some (.int .u64 (U s0)) ∧ wx.cell? ⟨n, 1, none⟩ = some (.int .u64 (U s1)) ∧ wx.cell? ⟨w.heap.size, 0, none⟩ = some (.int .u64 (U a0)) ∧ wx.cell? ⟨w.heap.size, 1, none⟩ = some (.int .u64 (U a1)) ∧ wx.cell? ⟨w.heap.size + 1, 0, none⟩ = some (.int .u64 (U b0)) ∧ wx.cell? ⟨w.heap.size + 1, 1, none⟩ = some (.int .u64 (U b1)) ∧ wx.cell? ⟨w.heap.size + 1 + 1, 0, none⟩ = some (.int .u64 (U p0)) ∧ wx.cell? ⟨w.heap.size + 1 + 1, 1, none⟩ = some (.int .u64 (U p1)) ∧ wx.cell? ⟨w.heap.size + 1 + 1 + 1, 0, none⟩ = some (.int .u64 (U q0)) ∧ wx.cell? ⟨w.heap.size + 1 + 1 + 1, 1, none⟩ = some (.int .u64 (U q1)) ∧ wx.cell? ⟨w2.heap.size, 0, none⟩ = some (.int .u64 (U x0)) ∧ wx.cell? ⟨w2.heap.size, 1, none⟩ = some (.int .u64 (U x1)) ∧ wx.cell? ⟨w3.heap.size, 0, none⟩ = some (.int .u64 (U y0)) ∧ wx.cell? ⟨w3.heap.size, 1, none⟩ = some (.int .u64 (U y1)) ∧ Below w.heap.size w wx)
  case first =>
    have HBel0 := mkHid HBel.out
    clear HBel0
    go_region_held3 (fun w' => w'.cell? ⟨w.heap.size, 0, none⟩ = some (.int .u64 (U a0)) ∧ w'.cell? ⟨w.heap.size, 1, none⟩ = some (.int .u64 (U a1)) ∧ w'.cell? ⟨w.heap.size + 1, 0, none⟩ = some (.int .u64 (U b0)) ∧ w'.cell? ⟨w.heap.size + 1, 1, none⟩ = some (.int .u64 (U b1)) ∧ w'.cell? ⟨w.heap.size + 1 + 1, 0, none⟩ = some (.int .u64 (U p0)) ∧ w'.cell? ⟨w.heap.size + 1 + 1, 1, none⟩ = some (.int .u64 (U p1)) ∧ w'.cell? ⟨w.heap.size + 1 + 1 + 1, 0, none⟩ = some (.int .u64 (U q0)) ∧ w'.cell? ⟨w.heap.size + 1 + 1 + 1, 1, none⟩ = some (.int .u64 (U q1)) ∧ w'.cell? ⟨w2.heap.size, 0, none⟩ = some (.int .u64 (U x0)) ∧ w'.cell? ⟨w2.heap.size, 1, none⟩ = some (.int .u64 (U x1)) ∧ w'.cell? ⟨w3.heap.size, 0, none⟩ = some (.int .u64 (U y0)) ∧ w'.cell? ⟨w3.heap.size, 1, none⟩ = some (.int .u64 (U y1)))
      (first | ((try dsimp only); (try go_split_ands); refine ⟨?_, ?_, ?_, ?_, ?_, ?_, ?_, ?_, ?_, ?_, ?_, ?_⟩ <;> with_reducible assumption) | (go_keep; done))
      (first
          | (go_at_call 22; ((with_reducible refine (octets_post (x := p0) (y := p1) rfl rfl _).mono ?_); (try go_split_ands); rintro e wo ⟨g, hO, rfl, hbwo⟩; refine cutIn (p := wo.cell? ⟨w.heap.size, 0, none⟩ = some (.int .u64 (U a0))) ?_ ?_; (focus (refine keeps hbwo ?_; (first | with_reducible assumption | (simp [*] <;> fail)))); intro fc0; refine cutIn (p := wo.cell? ⟨w.heap.size, 1, none⟩ = some (.int .u64 (U a1))) ?_ ?_; (focus (refine keeps hbwo ?_; (first | with_reducible assumption | (simp [*] <;> fail)))); intro fc1; refine cutIn (p := wo.cell? ⟨w.heap.size + 1, 0, none⟩ = some (.int .u64 (U b0))) ?_ ?_; (focus (refine keeps hbwo ?_; (first | with_reducible assumption | (simp [*] <;> fail)))); intro fc2; refine cutIn (p := wo.cell? ⟨w.heap.size + 1, 1, none⟩ = some (.int .u64 (U b1))) ?_ ?_; (focus (refine keeps hbwo ?_; (first | with_reducible assumption | (simp [*] <;> fail)))); intro fc3; refine cutIn (p := wo.cell? ⟨w.heap.size + 1 + 1, 0, none⟩ = some (.int .u64 (U p0))) ?_ ?_; (focus (refine keeps hbwo ?_; (first | with_reducible assumption | (simp [*] <;> fail)))); intro fc4; refine cutIn (p := wo.cell? ⟨w.heap.size + 1 + 1, 1, none⟩ = some (.int .u64 (U p1))) ?_ ?_; (focus (refine keeps hbwo ?_; (first | with_reducible assumption | (simp [*] <;> fail)))); intro fc5; refine cutIn (p := wo.cell? ⟨w.heap.size + 1 + 1 + 1, 0, none⟩ = some (.int .u64 (U q0))) ?_ ?_; (focus (refine keeps hbwo ?_; (first | with_reducible assumption | (simp [*] <;> fail)))); intro fc6; refine cutIn (p := wo.cell? ⟨w.heap.size + 1 + 1 + 1, 1, none⟩ = some (.int .u64 (U q1))) ?_ ?_; (focus (refine keeps hbwo ?_; (first | with_reducible assumption | (simp [*] <;> fail)))); intro fc7; refine cutIn (p := wo.cell? ⟨w2.heap.size, 0, none⟩ = some (.int .u64 (U x0))) ?_ ?_; (focus (refine keeps hbwo ?_; (first | with_reducible assumption | (simp [*] <;> fail)))); intro fc8; refine cutIn (p := wo.cell? ⟨w2.heap.size, 1, none⟩ = some (.int .u64 (U x1))) ?_ ?_; (focus (refine keeps hbwo ?_; (first | with_reducible assumption | (simp [*] <;> fail)))); intro fc9; refine cutIn (p := wo.cell? ⟨w3.heap.size, 0, none⟩ = some (.int .u64 (U y0))) ?_ ?_; (focus (refine keeps hbwo ?_; (first | with_reducible assumption | (simp [*] <;> fail)))); intro fc10; refine cutIn (p := wo.cell? ⟨w3.heap.size, 1, none⟩ = some (.int .u64 (U y1))) ?_ ?_; (focus (refine keeps hbwo ?_; (first | with_reducible assumption | (simp [*] <;> fail)))); intro fc11; (try (refine cutIn (p := wo.cell? ⟨w3.heap.size + 1, 0, none⟩ = some (.int .u64 0)) ?_ ?_; (focus (refine keeps hbwo ?_; (first | with_reducible assumption | (simp [*] <;> fail)))); intro z)); (try (refine cutIn (p := wo.frozen? ⟨w3.heap.size + 1, 0, none⟩ = false) ?_ ?_; (focus (refine keepsF (v := .int .u64 0) hbwo ?_ ?_ <;> (first | with_reducible assumption | (simp [*] <;> fail)))); intro z)); (try (refine cutIn (p := wo.cell? ⟨w3.heap.size + 1, 1, none⟩ = some (.int .u64 0)) ?_ ?_; (focus (refine keeps hbwo ?_; (first | with_reducible assumption | (simp [*] <;> fail)))); intro z)); (try (refine cutIn (p := wo.frozen? ⟨w3.heap.size + 1, 1, none⟩ = false) ?_ ?_; (focus (refine keepsF (v := .int .u64 0) hbwo ?_ ?_ <;> (first | with_reducible assumption | (simp [*] <;> fail)))); intro z)); have nfwo0 := World.new_ne wo ⟨w.heap.size, 0, none⟩ fc0; have nfwo1 := World.new_ne wo ⟨w.heap.size + 1, 0, none⟩ fc2; have nfwo2 := World.new_ne wo ⟨w.heap.size + 1 + 1, 0, none⟩ fc4; have nfwo3 := World.new_ne wo ⟨w.heap.size + 1 + 1 + 1, 0, none⟩ fc6; have nfwo4 := World.new_ne wo ⟨w2.heap.size, 0, none⟩ fc8; have nfwo5 := World.new_ne wo ⟨w3.heap.size, 0, none⟩ fc10; have zwo : w.heap.size < wo.heap.size := World.block_lt_of_cell? wo _ fc0; refine cutIn (p := Hid (Below w.heap.size w wo)) ?_ ?_; (focus (refine mkHid (Below.step ?_ hbwo); repeat' first | (with_reducible refine Hid.out ?_; with_reducible assumption) | refine Below.drew ?_ | refine Below.alloc ?_ ?_ _ | omega | (simp <;> fail) | (simp <;> omega))); intro hBnwo))
          | (go_at_call 17; ((with_reducible refine (fold_octs K3 rfl rfl ?_).mono ?_); (repeat' first | assumption | refine Blk.drew ?_ | refine Blk.alloc ?_ _); (try go_split_ands); rintro e wf ⟨rfl, hbwf⟩; refine cutIn (p := wf.cell? ⟨w.heap.size, 0, none⟩ = some (.int .u64 (U a0))) ?_ ?_; (focus (refine keeps hbwf ?_; (first | with_reducible assumption | (simp [*] <;> fail)))); intro fc0; refine cutIn (p := wf.cell? ⟨w.heap.size, 1, none⟩ = some (.int .u64 (U a1))) ?_ ?_; (focus (refine keeps hbwf ?_; (first | with_reducible assumption | (simp [*] <;> fail)))); intro fc1; refine cutIn (p := wf.cell? ⟨w.heap.size + 1, 0, none⟩ = some (.int .u64 (U b0))) ?_ ?_; (focus (refine keeps hbwf ?_; (first | with_reducible assumption | (simp [*] <;> fail)))); intro fc2; refine cutIn (p := wf.cell? ⟨w.heap.size + 1, 1, none⟩ = some (.int .u64 (U b1))) ?_ ?_; (focus (refine keeps hbwf ?_; (first | with_reducible assumption | (simp [*] <;> fail)))); intro fc3; refine cutIn (p := wf.cell? ⟨w.heap.size + 1 + 1, 0, none⟩ = some (.int .u64 (U p0))) ?_ ?_; (focus (refine keeps hbwf ?_; (first | with_reducible assumption | (simp [*] <;> fail)))); intro fc4; refine cutIn (p := wf.cell? ⟨w.heap.size + 1 + 1, 1, none⟩ = some (.int .u64 (U p1))) ?_ ?_; (focus (refine keeps hbwf ?_; (first | with_reducible assumption | (simp [*] <;> fail)))); intro fc5; refine cutIn (p := wf.cell? ⟨w.heap.size + 1 + 1 + 1, 0, none⟩ = some (.int .u64 (U q0))) ?_ ?_; (focus (refine keeps hbwf ?_; (first | with_reducible assumption | (simp [*] <;> fail)))); intro fc6; refine cutIn (p := wf.cell? ⟨w.heap.size + 1 + 1 + 1, 1, none⟩ = some (.int .u64 (U q1))) ?_ ?_; (focus (refine keeps hbwf ?_; (first | with_reducible assumption | (simp [*] <;> fail)))); intro fc7; refine cutIn (p := wf.cell? ⟨w2.heap.size, 0, none⟩ = some (.int .u64 (U x0))) ?_ ?_; (focus (refine keeps hbwf ?_; (first | with_reducible assumption | (simp [*] <;> fail)))); intro fc8; refine cutIn (p := wf.cell? ⟨w2.heap.size, 1, none⟩ = some (.int .u64 (U x1))) ?_ ?_; (focus (refine keeps hbwf ?_; (first | with_reducible assumption | (simp [*] <;> fail)))); intro fc9; refine cutIn (p := wf.cell? ⟨w3.heap.size, 0, none⟩ = some (.int .u64 (U y0))) ?_ ?_; (focus (refine keeps hbwf ?_; (first | with_reducible assumption | (simp [*] <;> fail)))); intro fc10; refine cutIn (p := wf.cell? ⟨w3.heap.size, 1, none⟩ = some (.int .u64 (U y1))) ?_ ?_; (focus (refine keeps hbwf ?_; (first | with_reducible assumption | (simp [*] <;> fail)))); intro fc11; (try (refine cutIn (p := wf.cell? ⟨w3.heap.size + 1, 0, none⟩ = some (.int .u64 0)) ?_ ?_; (focus (refine keeps hbwf ?_; (first | with_reducible assumption | (simp [*] <;> fail)))); intro z)); (try (refine cutIn (p := wf.frozen? ⟨w3.heap.size + 1, 0, none⟩ = false) ?_ ?_; (focus (refine keepsF (v := .int .u64 0) hbwf ?_ ?_ <;> (first | with_reducible assumption | (simp [*] <;> fail)))); intro z)); (try (refine cutIn (p := wf.cell? ⟨w3.heap.size + 1, 1, none⟩ = some (.int .u64 0)) ?_ ?_; (focus (refine keeps hbwf ?_; (first | with_reducible assumption | (simp [*] <;> fail)))); intro z)); (try (refine cutIn (p := wf.frozen? ⟨w3.heap.size + 1, 1, none⟩ = false) ?_ ?_; (focus (refine keepsF (v := .int .u64 0) hbwf ?_ ?_ <;> (first | with_reducible assumption | (simp [*] <;> fail)))); intro z)); (try (refine cutIn (p := wf.cell? ⟨wo.heap.size, 0, none⟩ = some (.int .u64 0)) ?_ ?_; (focus (refine keeps hbwf ?_; (first | with_reducible assumption | (simp [*] <;> fail)))); intro z)); (try (refine cutIn (p := wf.frozen? ⟨wo.heap.size, 0, none⟩ = false) ?_ ?_; (focus (refine keepsF (v := .int .u64 0) hbwf ?_ ?_ <;> (first | with_reducible assumption | (simp [*] <;> fail)))); intro z)); (try (refine cutIn (p := wf.cell? ⟨wo.heap.size, 1, none⟩ = some (.int .u64 0)) ?_ ?_; (focus (refine keeps hbwf ?_; (first | with_reducible assumption | (simp [*] <;> fail)))); intro z)); (try (refine cutIn (p := wf.frozen? ⟨wo.heap.size, 1, none⟩ = false) ?_ ?_; (focus (refine keepsF (v := .int .u64 0) hbwf ?_ ?_ <;> (first | with_reducible assumption | (simp [*] <;> fail)))); intro z)); have nfwf0 := World.new_ne wf ⟨w.heap.size, 0, none⟩ fc0; have nfwf1 := World.new_ne wf ⟨w.heap.size + 1, 0, none⟩ fc2; have nfwf2 := World.new_ne wf ⟨w.heap.size + 1 + 1, 0, none⟩ fc4; have nfwf3 := World.new_ne wf ⟨w.heap.size + 1 + 1 + 1, 0, none⟩ fc6; have nfwf4 := World.new_ne wf ⟨w2.heap.size, 0, none⟩ fc8; have nfwf5 := World.new_ne wf ⟨w3.heap.size, 0, none⟩ fc10; have zwf : w.heap.size < wf.heap.size := World.block_lt_of_cell? wf _ fc0; refine cutIn (p := Hid (Below w.heap.size w wf)) ?_ ?_; (focus (refine mkHid (Below.step ?_ hbwf); repeat' first | (with_reducible refine Hid.out ?_; with_reducible assumption) | refine Below.drew ?_ | refine Below.alloc ?_ ?_ _ | omega | (simp <;> fail) | (simp <;> omega))); intro hBnwf)))
    all_goals go_wp2_with fail
    all_goals go_meet
    all_goals (try go_split_ands)
    all_goals (refine ⟨_, rfl, rfl, ?_, ?_, ?_, ?_, ?_, ?_, ?_, ?_, ?_, ?_, ?_, ?_, ?_, ?_, ?_⟩ <;> first | with_reducible assumption | (with_reducible refine fill_cell0 (u0 := .int .u64 0) (u1 := .int .u64 0) ?_ ?_ <;> assumption) | (with_reducible refine fill_cell1 (u0 := .int .u64 0) (u1 := .int .u64 0) ?_ ?_ <;> assumption) | (simp [*] <;> fail) | (repeat' first | (with_reducible refine Hid.out ?_; with_reducible assumption) | refine Below.drew ?_ | refine Below.setCell ?_ ?_ _ | refine Below.alloc ?_ ?_ _ | omega | (simp <;> fail) | (simp <;> omega)))
  case rest =>
    obtain ⟨nS, rfl, rfl, y0, y1, y2, y3, y4, y5, y6, y7, y8, y9, y10, y11, y12, y13, hbl⟩ := hcut
    have cnS := And.intro y0 y1
    have lnS : nS < wc.heap.size := World.block_lt_of_cell? wc _ y0
    try clear lA
    have cA := And.intro y2 y3
    have lA : w.heap.size < wc.heap.size := World.block_lt_of_cell? wc _ y2
    try clear lB
    have cB := And.intro y4 y5
    have lB : w.heap.size + 1 < wc.heap.size := World.block_lt_of_cell? wc _ y4
    try clear lP
    have cP := And.intro y6 y7
    have lP : w.heap.size + 1 + 1 < wc.heap.size := World.block_lt_of_cell? wc _ y6
    try clear lQ
    have cQ := And.intro y8 y9
    have lQ : w.heap.size + 1 + 1 + 1 < wc.heap.size := World.block_lt_of_cell? wc _ y8
    try clear lX
    have cX := And.intro y10 y11
    have lX : w2.heap.size < wc.heap.size := World.block_lt_of_cell? wc _ y10
    try clear lY
    have cY := And.intro y12 y13
    have lY : w3.heap.size < wc.heap.size := World.block_lt_of_cell? wc _ y12
    have HBel := mkHid hbl
    clear hbl y0 y1 y2 y3 y4 y5 y6 y7 y8 y9 y10 y11 y12 y13
    go_wp2_with fail
    go_upto_region 7 with fail
    
    have ne0 : wc.heap.size ≠ w.heap.size := by omega
    have ne1 : wc.heap.size ≠ w.heap.size + 1 := by omega
    have ne2 : wc.heap.size ≠ w.heap.size + 1 + 1 := by omega
    have ne3 : wc.heap.size ≠ w.heap.size + 1 + 1 + 1 := by omega
    have ne4 : wc.heap.size ≠ w2.heap.size := by omega
    have ne5 : wc.heap.size ≠ w3.heap.size := by omega
    have ne6 : wc.heap.size ≠ nS := by omega
    go_cut [18, 19] (fun s18 s19 wx => ∃ n : Nat, s18 = .pointer (some ⟨n, 0, none⟩) ∧ s19 = .int .i64 0 ∧ wx.cell? ⟨n, 0, none⟩ = some (.int .u64 (U t0)) ∧ wx.cell? ⟨n, 1, none⟩ = some (.int .u64 (U t1)) ∧ wx.cell? ⟨w.heap.size, 0, none⟩ = some (.int .u64 (U a0)) ∧ wx.cell? ⟨w.heap.size, 1, none⟩ = some (.int .u64 (U a1)) ∧ wx.cell? ⟨w.heap.size + 1, 0, none⟩ = some (.int .u64 (U b0)) ∧ wx.cell? ⟨w.heap.size + 1, 1, none⟩ = some (.int .u64 (U b1)) ∧ wx.cell? ⟨w.heap.size + 1 + 1, 0, none⟩ = some (.int .u64 (U p0)) ∧ wx.cell? ⟨w.heap.size + 1 + 1, 1, none⟩ = some (.int .u64 (U p1)) ∧ wx.cell? ⟨w.heap.size + 1 + 1 + 1, 0, none⟩ = some (.int .u64 (U q0)) ∧ wx.cell? ⟨w.heap.size + 1 + 1 + 1, 1, none⟩ = some (.int .u64 (U q1)) ∧ wx.cell? ⟨w2.heap.size, 0, none⟩ = some (.int .u64 (U x0)) ∧ wx.cell? ⟨w2.heap.size, 1, none⟩ = some (.int .u64 (U x1)) ∧ wx.cell? ⟨w3.heap.size, 0, none⟩ = some (.int .u64 (U y0)) ∧ wx.cell? ⟨w3.heap.size, 1, none⟩ = some (.int .u64 (U y1)) ∧ wx.cell? ⟨nS, 0, none⟩ = some (.int .u64 (U s0)) ∧ wx.cell? ⟨nS, 1, none⟩ = some (.int .u64 (U s1)) ∧ Below w.heap.size w wx)
    case first =>
      have HBel0 := mkHid HBel.out
      clear HBel0
      go_region_held3 (fun w' => w'.cell? ⟨w.heap.size, 0, none⟩ = some (.int .u64 (U a0)) ∧ w'.cell? ⟨w.heap.size, 1, none⟩ = some (.int .u64 (U a1)) ∧ w'.cell? ⟨w.heap.size + 1, 0, none⟩ = some (.int .u64 (U b0)) ∧ w'.cell? ⟨w.heap.size + 1, 1, none⟩ = some (.int .u64 (U b1)) ∧ w'.cell? ⟨w.heap.size + 1 + 1, 0, none⟩ = some (.int .u64 (U p0)) ∧ w'.cell? ⟨w.heap.size + 1 + 1, 1, none⟩ = some (.int .u64 (U p1)) ∧ w'.cell? ⟨w.heap.size + 1 + 1 + 1, 0, none⟩ = some (.int .u64 (U q0)) ∧ w'.cell? ⟨w.heap.size + 1 + 1 + 1, 1, none⟩ = some (.int .u64 (U q1)) ∧ w'.cell? ⟨w2.heap.size, 0, none⟩ = some (.int .u64 (U x0)) ∧ w'.cell? ⟨w2.heap.size, 1, none⟩ = some (.int .u64 (U x1)) ∧ w'.cell? ⟨w3.heap.size, 0, none⟩ = some (.int .u64 (U y0)) ∧ w'.cell? ⟨w3.heap.size, 1, none⟩ = some (.int .u64 (U y1)) ∧ w'.cell? ⟨nS, 0, none⟩ = some (.int .u64 (U s0)) ∧ w'.cell? ⟨nS, 1, none⟩ = some (.int .u64 (U s1)))
        (first | ((try dsimp only); (try go_split_ands); refine ⟨?_, ?_, ?_, ?_, ?_, ?_, ?_, ?_, ?_, ?_, ?_, ?_, ?_, ?_⟩ <;> with_reducible assumption) | (go_keep; done))
        (first
            | (go_at_call 22; ((with_reducible refine (octets_post (x := q0) (y := q1) rfl rfl _).mono ?_); (try go_split_ands); rintro e wo ⟨g, hO, rfl, hbwo⟩; refine cutIn (p := wo.cell? ⟨w.heap.size, 0, none⟩ = some (.int .u64 (U a0))) ?_ ?_; (focus (refine keeps hbwo ?_; (first | with_reducible assumption | (simp [*] <;> fail)))); intro fc0; refine cutIn (p := wo.cell? ⟨w.heap.size, 1, none⟩ = some (.int .u64 (U a1))) ?_ ?_; (focus (refine keeps hbwo ?_; (first | with_reducible assumption | (simp [*] <;> fail)))); intro fc1; refine cutIn (p := wo.cell? ⟨w.heap.size + 1, 0, none⟩ = some (.int .u64 (U b0))) ?_ ?_; (focus (refine keeps hbwo ?_; (first | with_reducible assumption | (simp [*] <;> fail)))); intro fc2; refine cutIn (p := wo.cell? ⟨w.heap.size + 1, 1, none⟩ = some (.int .u64 (U b1))) ?_ ?_; (focus (refine keeps hbwo ?_; (first | with_reducible assumption | (simp [*] <;> fail)))); intro fc3; refine cutIn (p := wo.cell? ⟨w.heap.size + 1 + 1, 0, none⟩ = some (.int .u64 (U p0))) ?_ ?_; (focus (refine keeps hbwo ?_; (first | with_reducible assumption | (simp [*] <;> fail)))); intro fc4; refine cutIn (p := wo.cell? ⟨w.heap.size + 1 + 1, 1, none⟩ = some (.int .u64 (U p1))) ?_ ?_; (focus (refine keeps hbwo ?_; (first | with_reducible assumption | (simp [*] <;> fail)))); intro fc5; refine cutIn (p := wo.cell? ⟨w.heap.size + 1 + 1 + 1, 0, none⟩ = some (.int .u64 (U q0))) ?_ ?_; (focus (refine keeps hbwo ?_; (first | with_reducible assumption | (simp [*] <;> fail)))); intro fc6; refine cutIn (p := wo.cell? ⟨w.heap.size + 1 + 1 + 1, 1, none⟩ = some (.int .u64 (U q1))) ?_ ?_; (focus (refine keeps hbwo ?_; (first | with_reducible assumption | (simp [*] <;> fail)))); intro fc7; refine cutIn (p := wo.cell? ⟨w2.heap.size, 0, none⟩ = some (.int .u64 (U x0))) ?_ ?_; (focus (refine keeps hbwo ?_; (first | with_reducible assumption | (simp [*] <;> fail)))); intro fc8; refine cutIn (p := wo.cell? ⟨w2.heap.size, 1, none⟩ = some (.int .u64 (U x1))) ?_ ?_; (focus (refine keeps hbwo ?_; (first | with_reducible assumption | (simp [*] <;> fail)))); intro fc9; refine cutIn (p := wo.cell? ⟨w3.heap.size, 0, none⟩ = some (.int .u64 (U y0))) ?_ ?_; (focus (refine keeps hbwo ?_; (first | with_reducible assumption | (simp [*] <;> fail)))); intro fc10; refine cutIn (p := wo.cell? ⟨w3.heap.size, 1, none⟩ = some (.int .u64 (U y1))) ?_ ?_; (focus (refine keeps hbwo ?_; (first | with_reducible assumption | (simp [*] <;> fail)))); intro fc11; refine cutIn (p := wo.cell? ⟨nS, 0, none⟩ = some (.int .u64 (U s0))) ?_ ?_; (focus (refine keeps hbwo ?_; (first | with_reducible assumption | (simp [*] <;> fail)))); intro fc12; refine cutIn (p := wo.cell? ⟨nS, 1, none⟩ = some (.int .u64 (U s1))) ?_ ?_; (focus (refine keeps hbwo ?_; (first | with_reducible assumption | (simp [*] <;> fail)))); intro fc13; (try (refine cutIn (p := wo.cell? ⟨wc.heap.size, 0, none⟩ = some (.int .u64 0)) ?_ ?_; (focus (refine keeps hbwo ?_; (first | with_reducible assumption | (simp [*] <;> fail)))); intro z)); (try (refine cutIn (p := wo.frozen? ⟨wc.heap.size, 0, none⟩ = false) ?_ ?_; (focus (refine keepsF (v := .int .u64 0) hbwo ?_ ?_ <;> (first | with_reducible assumption | (simp [*] <;> fail)))); intro z)); (try (refine cutIn (p := wo.cell? ⟨wc.heap.size, 1, none⟩ = some (.int .u64 0)) ?_ ?_; (focus (refine keeps hbwo ?_; (first | with_reducible assumption | (simp [*] <;> fail)))); intro z)); (try (refine cutIn (p := wo.frozen? ⟨wc.heap.size, 1, none⟩ = false) ?_ ?_; (focus (refine keepsF (v := .int .u64 0) hbwo ?_ ?_ <;> (first | with_reducible assumption | (simp [*] <;> fail)))); intro z)); have nfwo0 := World.new_ne wo ⟨w.heap.size, 0, none⟩ fc0; have nfwo1 := World.new_ne wo ⟨w.heap.size + 1, 0, none⟩ fc2; have nfwo2 := World.new_ne wo ⟨w.heap.size + 1 + 1, 0, none⟩ fc4; have nfwo3 := World.new_ne wo ⟨w.heap.size + 1 + 1 + 1, 0, none⟩ fc6; have nfwo4 := World.new_ne wo ⟨w2.heap.size, 0, none⟩ fc8; have nfwo5 := World.new_ne wo ⟨w3.heap.size, 0, none⟩ fc10; have nfwo6 := World.new_ne wo ⟨nS, 0, none⟩ fc12; have zwo : w.heap.size < wo.heap.size := World.block_lt_of_cell? wo _ fc0; refine cutIn (p := Hid (Below w.heap.size w wo)) ?_ ?_; (focus (refine mkHid (Below.step ?_ hbwo); repeat' first | (with_reducible refine Hid.out ?_; with_reducible assumption) | refine Below.drew ?_ | refine Below.alloc ?_ ?_ _ | omega | (simp <;> fail) | (simp <;> omega))); intro hBnwo))
            | (go_at_call 17; ((with_reducible refine (fold_octs K4 rfl rfl ?_).mono ?_); (repeat' first | assumption | refine Blk.drew ?_ | refine Blk.alloc ?_ _); (try go_split_ands); rintro e wf ⟨rfl, hbwf⟩; refine cutIn (p := wf.cell? ⟨w.heap.size, 0, none⟩ = some (.int .u64 (U a0))) ?_ ?_; (focus (refine keeps hbwf ?_; (first | with_reducible assumption | (simp [*] <;> fail)))); intro fc0; refine cutIn (p := wf.cell? ⟨w.heap.size, 1, none⟩ = some (.int .u64 (U a1))) ?_ ?_; (focus (refine keeps hbwf ?_; (first | with_reducible assumption | (simp [*] <;> fail)))); intro fc1; refine cutIn (p := wf.cell? ⟨w.heap.size + 1, 0, none⟩ = some (.int .u64 (U b0))) ?_ ?_; (focus (refine keeps hbwf ?_; (first | with_reducible assumption | (simp [*] <;> fail)))); intro fc2; refine cutIn (p := wf.cell? ⟨w.heap.size + 1, 1, none⟩ = some (.int .u64 (U b1))) ?_ ?_; (focus (refine keeps hbwf ?_; (first | with_reducible assumption | (simp [*] <;> fail)))); intro fc3; refine cutIn (p := wf.cell? ⟨w.heap.size + 1 + 1, 0, none⟩ = some (.int .u64 (U p0))) ?_ ?_; (focus (refine keeps hbwf ?_; (first | with_reducible assumption | (simp [*] <;> fail)))); intro fc4; refine cutIn (p := wf.cell? ⟨w.heap.size + 1 + 1, 1, none⟩ = some (.int .u64 (U p1))) ?_ ?_; (focus (refine keeps hbwf ?_; (first | with_reducible assumption | (simp [*] <;> fail)))); intro fc5; refine cutIn (p := wf.cell? ⟨w.heap.size + 1 + 1 + 1, 0, none⟩ = some (.int .u64 (U q0))) ?_ ?_; (focus (refine keeps hbwf ?_; (first | with_reducible assumption | (simp [*] <;> fail)))); intro fc6; refine cutIn (p := wf.cell? ⟨w.heap.size + 1 + 1 + 1, 1, none⟩ = some (.int .u64 (U q1))) ?_ ?_; (focus (refine keeps hbwf ?_; (first | with_reducible assumption | (simp [*] <;> fail)))); intro fc7; refine cutIn (p := wf.cell? ⟨w2.heap.size, 0, none⟩ = some (.int .u64 (U x0))) ?_ ?_; (focus (refine keeps hbwf ?_; (first | with_reducible assumption | (simp [*] <;> fail)))); intro fc8; refine cutIn (p := wf.cell? ⟨w2.heap.size, 1, none⟩ = some (.int .u64 (U x1))) ?_ ?_; (focus (refine keeps hbwf ?_; (first | with_reducible assumption | (simp [*] <;> fail)))); intro fc9; refine cutIn (p := wf.cell? ⟨w3.heap.size, 0, none⟩ = some (.int .u64 (U y0))) ?_ ?_; (focus (refine keeps hbwf ?_; (first | with_reducible assumption | (simp [*] <;> fail)))); intro fc10; refine cutIn (p := wf.cell? ⟨w3.heap.size, 1, none⟩ = some (.int .u64 (U y1))) ?_ ?_; (focus (refine keeps hbwf ?_; (first | with_reducible assumption | (simp [*] <;> fail)))); intro fc11; refine cutIn (p := wf.cell? ⟨nS, 0, none⟩ = some (.int .u64 (U s0))) ?_ ?_; (focus (refine keeps hbwf ?_; (first | with_reducible assumption | (simp [*] <;> fail)))); intro fc12; refine cutIn (p := wf.cell? ⟨nS, 1, none⟩ = some (.int .u64 (U s1))) ?_ ?_; (focus (refine keeps hbwf ?_; (first | with_reducible assumption | (simp [*] <;> fail)))); intro fc13; (try (refine cutIn (p := wf.cell? ⟨wc.heap.size, 0, none⟩ = some (.int .u64 0)) ?_ ?_; (focus (refine keeps hbwf ?_; (first | with_reducible assumption | (simp [*] <;> fail)))); intro z)); (try (refine cutIn (p := wf.frozen? ⟨wc.heap.size, 0, none⟩ = false) ?_ ?_; (focus (refine keepsF (v := .int .u64 0) hbwf ?_ ?_ <;> (first | with_reducible assumption | (simp [*] <;> fail)))); intro z)); (try (refine cutIn (p := wf.cell? ⟨wc.heap.size, 1, none⟩ = some (.int .u64 0)) ?_ ?_; (focus (refine keeps hbwf ?_; (first | with_reducible assumption | (simp [*] <;> fail)))); intro z)); (try (refine cutIn (p := wf.frozen? ⟨wc.heap.size, 1, none⟩ = false) ?_ ?_; (focus (refine keepsF (v := .int .u64 0) hbwf ?_ ?_ <;> (first | with_reducible assumption | (simp [*] <;> fail)))); intro z)); (try (refine cutIn (p := wf.cell? ⟨wo.heap.size, 0, none⟩ = some (.int .u64 0)) ?_ ?_; (focus (refine keeps hbwf ?_; (first | with_reducible assumption | (simp [*] <;> fail)))); intro z)); (try (refine cutIn (p := wf.frozen? ⟨wo.heap.size, 0, none⟩ = false) ?_ ?_; (focus (refine keepsF (v := .int .u64 0) hbwf ?_ ?_ <;> (first | with_reducible assumption | (simp [*] <;> fail)))); intro z)); (try (refine cutIn (p := wf.cell? ⟨wo.heap.size, 1, none⟩ = some (.int .u64 0)) ?_ ?_; (focus (refine keeps hbwf ?_; (first | with_reducible assumption | (simp [*] <;> fail)))); intro z)); (try (refine cutIn (p := wf.frozen? ⟨wo.heap.size, 1, none⟩ = false) ?_ ?_; (focus (refine keepsF (v := .int .u64 0) hbwf ?_ ?_ <;> (first | with_reducible assumption | (simp [*] <;> fail)))); intro z)); have nfwf0 := World.new_ne wf ⟨w.heap.size, 0, none⟩ fc0; have nfwf1 := World.new_ne wf ⟨w.heap.size + 1, 0, none⟩ fc2; have nfwf2 := World.new_ne wf ⟨w.heap.size + 1 + 1, 0, none⟩ fc4; have nfwf3 := World.new_ne wf ⟨w.heap.size + 1 + 1 + 1, 0, none⟩ fc6; have nfwf4 := World.new_ne wf ⟨w2.heap.size, 0, none⟩ fc8; have nfwf5 := World.new_ne wf ⟨w3.heap.size, 0, none⟩ fc10; have nfwf6 := World.new_ne wf ⟨nS, 0, none⟩ fc12; have zwf : w.heap.size < wf.heap.size := World.block_lt_of_cell? wf _ fc0; refine cutIn (p := Hid (Below w.heap.size w wf)) ?_ ?_; (focus (refine mkHid (Below.step ?_ hbwf); repeat' first | (with_reducible refine Hid.out ?_; with_reducible assumption) | refine Below.drew ?_ | refine Below.alloc ?_ ?_ _ | omega | (simp <;> fail) | (simp <;> omega))); intro hBnwf)))
      all_goals go_wp2_with fail
      all_goals go_meet
      all_goals (try go_split_ands)
      all_goals (refine ⟨_, rfl, rfl, ?_, ?_, ?_, ?_, ?_, ?_, ?_, ?_, ?_, ?_, ?_, ?_, ?_, ?_, ?_, ?_, ?_⟩ <;> first | with_reducible assumption | (with_reducible refine fill_cell0 (u0 := .int .u64 0) (u1 := .int .u64 0) ?_ ?_ <;> assumption) | (with_reducible refine fill_cell1 (u0 := .int .u64 0) (u1 := .int .u64 0) ?_ ?_ <;> assumption) | (simp [*] <;> fail) | (repeat' first | (with_reducible refine Hid.out ?_; with_reducible assumption) | refine Below.drew ?_ | refine Below.setCell ?_ ?_ _ | refine Below.alloc ?_ ?_ _ | omega | (simp <;> fail) | (simp <;> omega)))
    case rest =>
      obtain ⟨nT, rfl, rfl, y0, y1, y2, y3, y4, y5, y6, y7, y8, y9, y10, y11, y12, y13, y14, y15, hbl⟩ := hcut
      have cnT := And.intro y0 y1
      have lnT : nT < wc.heap.size := World.block_lt_of_cell? wc _ y0
      try clear lA
      have cA := And.intro y2 y3
      have lA : w.heap.size < wc.heap.size := World.block_lt_of_cell? wc _ y2
      try clear lB
      have cB := And.intro y4 y5
      have lB : w.heap.size + 1 < wc.heap.size := World.block_lt_of_cell? wc _ y4
      try clear lP
      have cP := And.intro y6 y7
      have lP : w.heap.size + 1 + 1 < wc.heap.size := World.block_lt_of_cell? wc _ y6
      try clear lQ
      have cQ := And.intro y8 y9
      have lQ : w.heap.size + 1 + 1 + 1 < wc.heap.size := World.block_lt_of_cell? wc _ y8
      try clear lX
      have cX := And.intro y10 y11
      have lX : w2.heap.size < wc.heap.size := World.block_lt_of_cell? wc _ y10
      try clear lY
      have cY := And.intro y12 y13
      have lY : w3.heap.size < wc.heap.size := World.block_lt_of_cell? wc _ y12
      try clear lnS
      have cnS := And.intro y14 y15
      have lnS : nS < wc.heap.size := World.block_lt_of_cell? wc _ y14
      have HBel := mkHid hbl
      clear hbl y0 y1 y2 y3 y4 y5 y6 y7 y8 y9 y10 y11 y12 y13 y14 y15
      go_wp2_with fail
      go_quiet (fail)
      go_wp2_with fail
      go_ret
      exact ⟨rfl, below_drewN HBel.out _⟩

theorem walk_MixApart (a0 a1 b0 b1 : BitVec 64) (a : Option Addr) (l : List (BitVec 8)) (cap : Nat) (hcap : l.length ≤ cap) (_hm : cap ≤ maxLen) (w : World) (hL : Bytes w a l) (p0 p1 q0 q1 : BitVec 64) :
    Calls Try.prog 6 #[.agg #[.int .u64 (U a0), .int .u64 (U a1)], .agg #[.int .u64 (U b0), .int .u64 (U b1)], .slice a l.length cap, .agg #[.int .u64 (U p0), .int .u64 (U p1)], .agg #[.int .u64 (U q0), .int .u64 (U q1)]] w fun e w' => e = .returned (.bool true) ∧ Below w.heap.size w w' := by
  by_cases h : l.length ≤ 500
  · exact walk_MixApart_yes a0 a1 b0 b1 a l cap p0 p1 q0 q1 h hcap w hL
  · exact walk_MixApart_long a0 a1 b0 b1 a l cap p0 p1 q0 q1 (by omega) w
end Go.Proofs.Ytdaodopeodheeaa
