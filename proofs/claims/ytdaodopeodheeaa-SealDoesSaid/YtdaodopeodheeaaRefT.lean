/- The contracts of the fourth chapter's answer: Tag, Wrap, Unwrap. -/
import Derived.Test.YtdaodopeodheeaaRefO
import Derived.Test.YtdaodopeodheeaaSealA
import Derived.Deep.DeepCutAuto
import Derived.Deep.RegionHeld3
namespace Go.Proofs.Ytdaodopeodheeaa
open Go.RowKit

theorem Bytes.drew' {w : World} {a : Option Addr} {l : List (BitVec 8)} (h : Bytes w a l) : Bytes w.drew a l := h.below (Below.refl _ _).drew
theorem Bytes.alloc' {w : World} {a : Option Addr} {l : List (BitVec 8)} (h : Bytes w a l) (o : Obj) : Bytes (w.alloc o) a l := h.below ((Below.refl _ _).alloc (Nat.le_refl _) o)
theorem rocts_post (x y : BitVec 64) (w : World) :
    Calls Try.prog 29 #[.agg #[.int .u64 (U x), .int .u64 (U y)]] w fun e w' => ∃ g cp, 16 ≤ cp ∧ Bytes w' (some ⟨g, 0, none⟩) (octs (x, y)) ∧ e = .returned (.slice (some ⟨g, 0, none⟩) 16 cp) ∧ Below w.heap.size w w' :=
  (rocts_any x y w).mono fun _ _ ⟨g, cp, h1, _, h3, _, h5, h6⟩ => ⟨g, cp, h1, h5, h3, h6⟩
theorem rfold_octs {x y c0 c1 z0 z1 : BitVec 64} (hz : Hid (foldB (octs (c0, c1)) (x, y) = (z0, z1))) {g cp : Nat} {w : World} (hcp : 16 ≤ cp) (hB : Bytes w (some ⟨g, 0, none⟩) (octs (c0, c1))) :
    Calls Try.prog 19 #[.agg #[.int .u64 (U x), .int .u64 (U y)], .slice (some ⟨g, 0, none⟩) 16 cp] w fun e w' => e = .returned (.tuple #[.agg #[.int .u64 (U z0), .int .u64 (U z1)], .int .i64 0]) ∧ Below w.heap.size w w' :=
  rfold_eq hz (octs_length _).symm _ _ _ (by rw [octs_length]; omega) hcp hB

set_option maxRecDepth 100000 in
set_option maxHeartbeats 1000000 in
theorem rtag_eq {k0 k1 c0 c1 t0 t1 : BitVec 64} (h : Hid (tagB (k0, k1) (c0, c1) = (t0, t1))) (w : World) :
    Calls Try.prog 38 #[.agg #[.int .u64 (U k0), .int .u64 (U k1)], .agg #[.int .u64 (U c0), .int .u64 (U c1)]] w fun e w' => e = .returned (.agg #[.int .u64 (U t0), .int .u64 (U t1)]) ∧ Below w.heap.size w w' := by
  have hq := eq_blocks
  obtain ⟨g0, g1, hg⟩ := pair_ex (partB 4 (k0, k1))
  have hx : foldB (octs (c0, c1)) (g0, g1) = (t0, t1) := by
    have h2 := h.out
    unfold tagB at h2
    rw [hg] at h2
    rw [foldB_octs]
    exact h2
  have K2 := mkHid hg
  have K3 := mkHid hx
  clear hg hx h
  go_enter Try.func38, Try.ntmps38
  go_wp2_with fail
  refine (rpart_eq K2 (i := 4) rfl (by omega) _).mono ?_
  rintro e w1 ⟨rfl, hb1⟩
  have bK := Blk.keep (n := w.heap.size) (t := 24) (cs := #[.int .u64 (U k0), .int .u64 (U k1)]) (by repeat' first | with_reducible refine Blk.drew ?_ | (with_reducible refine Blk.at _ _ _ ?_; (simp <;> fail)) | with_reducible refine Blk.alloc ?_ _) hb1
  have bC := Blk.keep (n := w.heap.size + 1) (t := 24) (cs := #[.int .u64 (U c0), .int .u64 (U c1)]) (by repeat' first | with_reducible refine Blk.drew ?_ | (with_reducible refine Blk.at _ _ _ ?_; (simp <;> fail)) | with_reducible refine Blk.alloc ?_ _) hb1
  have bR := Blk.keep (n := w.heap.size + 1 + 1) (t := 24) (cs := #[.int .u64 (0), .int .u64 (0)]) (by repeat' first | with_reducible refine Blk.drew ?_ | (with_reducible refine Blk.at _ _ _ ?_; (simp <;> fail)) | with_reducible refine Blk.alloc ?_ _) hb1
  have hBN := Below.step (w := w) (by repeat' first | with_reducible exact Below.refl _ _ | with_reducible refine Below.drew ?_ | with_reducible refine below_drewN ?_ _ | with_reducible refine Below.setCell ?_ ?_ _ | with_reducible refine Below.alloc ?_ ?_ _ | (dsimp only; omega) | (simp <;> fail) | (simp; omega)) hb1
  clear hb1
  have cK := bK.two
  have HK := mkHid bK
  have lK := bK.lt
  clear bK
  have cC := bC.two
  have HC := mkHid bC
  have lC := bC.lt
  clear bC
  have cR := bR.two
  have HR := mkHid bR
  have lR := bR.lt
  have fR0 := bR.frozen 0
  have fR1 := bR.frozen 1
  clear bR
  have HBel := mkHid hBN
  clear hBN
  go_wp2_with fail
  have dFK : w.heap.size < w1.heap.size := lK
  have dFC : w.heap.size + 1 < w1.heap.size := lC
  have dFR : w.heap.size + 1 + 1 < w1.heap.size := lR
  have dFK : w.heap.size < w1.heap.size := lK
  have dFC : w.heap.size + 1 < w1.heap.size := lC
  have dFR : w.heap.size + 1 + 1 < w1.heap.size := lR
  have HB0 := mkHid HBel.out
  clear HBel
  have HBel := mkHid (Below.refl w1.heap.size w1)
  go_upto_region 2 with fail
  
  have ne0 : w1.heap.size + 1 ≠ w.heap.size := by omega
  have ne1 : w1.heap.size + 1 ≠ w.heap.size + 1 := by omega
  have nx1 : w1.heap.size ≠ w.heap.size := by omega
  have ne2 : w1.heap.size + 1 ≠ w.heap.size + 1 + 1 := by omega
  have nx2 : w1.heap.size ≠ w.heap.size + 1 := by omega
  have ne3 : w1.heap.size + 1 ≠ w1.heap.size := by omega
  have ne4 : w1.heap.size + 1 ≠ w1.heap.size := by omega
  go_cut [7, 8] (fun s7 s8 wx => ∃ n : Nat, s7 = .pointer (some ⟨n, 0, none⟩) ∧ s8 = .int .i64 0 ∧ wx.cell? ⟨n, 0, none⟩ = some (.int .u64 (U t0)) ∧ wx.cell? ⟨n, 1, none⟩ = some (.int .u64 (U t1)) ∧ wx.cell? ⟨w.heap.size, 0, none⟩ = some (.int .u64 (U k0)) ∧ wx.cell? ⟨w.heap.size, 1, none⟩ = some (.int .u64 (U k1)) ∧ wx.cell? ⟨w.heap.size + 1, 0, none⟩ = some (.int .u64 (U c0)) ∧ wx.cell? ⟨w.heap.size + 1, 1, none⟩ = some (.int .u64 (U c1)) ∧ wx.cell? ⟨w.heap.size + 1 + 1, 0, none⟩ = some (.int .u64 (0)) ∧ wx.cell? ⟨w.heap.size + 1 + 1, 1, none⟩ = some (.int .u64 (0)) ∧ wx.cell? ⟨w1.heap.size, 0, none⟩ = some (.int .u64 (U g0)) ∧ wx.cell? ⟨w1.heap.size, 1, none⟩ = some (.int .u64 (U g1)) ∧ wx.cell? ⟨w1.heap.size, 0, none⟩ = some (.int .u64 (U g0)) ∧ wx.cell? ⟨w1.heap.size, 1, none⟩ = some (.int .u64 (U g1)) ∧ Below w1.heap.size w1 wx)
  case first =>
    have HBel0 := mkHid HBel.out
    clear HBel0
    go_region_held3 (fun w' => w'.cell? ⟨w.heap.size, 0, none⟩ = some (.int .u64 (U k0)) ∧ w'.cell? ⟨w.heap.size, 1, none⟩ = some (.int .u64 (U k1)) ∧ w'.cell? ⟨w.heap.size + 1, 0, none⟩ = some (.int .u64 (U c0)) ∧ w'.cell? ⟨w.heap.size + 1, 1, none⟩ = some (.int .u64 (U c1)) ∧ w'.cell? ⟨w.heap.size + 1 + 1, 0, none⟩ = some (.int .u64 (0)) ∧ w'.cell? ⟨w.heap.size + 1 + 1, 1, none⟩ = some (.int .u64 (0)) ∧ w'.cell? ⟨w1.heap.size, 0, none⟩ = some (.int .u64 (U g0)) ∧ w'.cell? ⟨w1.heap.size, 1, none⟩ = some (.int .u64 (U g1)) ∧ w'.cell? ⟨w1.heap.size, 0, none⟩ = some (.int .u64 (U g0)) ∧ w'.cell? ⟨w1.heap.size, 1, none⟩ = some (.int .u64 (U g1)))
      (first | ((try dsimp only); (try go_split_ands); refine ⟨?_, ?_, ?_, ?_, ?_, ?_, ?_, ?_, ?_, ?_⟩ <;> with_reducible assumption) | (go_keep; done))
      (first
          | (go_at_call 29; ((with_reducible refine (rocts_post c0 c1 _).mono ?_); (try go_split_ands); rintro e wo ⟨g, cp, hcp, hY, rfl, hbwo⟩; refine cutIn (p := wo.cell? ⟨w.heap.size, 0, none⟩ = some (.int .u64 (U k0))) ?_ ?_; (focus (refine keeps hbwo ?_; (first | with_reducible assumption | (simp [*] <;> fail)))); intro fc0; refine cutIn (p := wo.cell? ⟨w.heap.size, 1, none⟩ = some (.int .u64 (U k1))) ?_ ?_; (focus (refine keeps hbwo ?_; (first | with_reducible assumption | (simp [*] <;> fail)))); intro fc1; refine cutIn (p := wo.cell? ⟨w.heap.size + 1, 0, none⟩ = some (.int .u64 (U c0))) ?_ ?_; (focus (refine keeps hbwo ?_; (first | with_reducible assumption | (simp [*] <;> fail)))); intro fc2; refine cutIn (p := wo.cell? ⟨w.heap.size + 1, 1, none⟩ = some (.int .u64 (U c1))) ?_ ?_; (focus (refine keeps hbwo ?_; (first | with_reducible assumption | (simp [*] <;> fail)))); intro fc3; refine cutIn (p := wo.cell? ⟨w.heap.size + 1 + 1, 0, none⟩ = some (.int .u64 (0))) ?_ ?_; (focus (refine keeps hbwo ?_; (first | with_reducible assumption | (simp [*] <;> fail)))); intro fc4; refine cutIn (p := wo.cell? ⟨w.heap.size + 1 + 1, 1, none⟩ = some (.int .u64 (0))) ?_ ?_; (focus (refine keeps hbwo ?_; (first | with_reducible assumption | (simp [*] <;> fail)))); intro fc5; refine cutIn (p := wo.cell? ⟨w1.heap.size, 0, none⟩ = some (.int .u64 (U g0))) ?_ ?_; (focus (refine keeps hbwo ?_; (first | with_reducible assumption | (simp [*] <;> fail)))); intro fc6; refine cutIn (p := wo.cell? ⟨w1.heap.size, 1, none⟩ = some (.int .u64 (U g1))) ?_ ?_; (focus (refine keeps hbwo ?_; (first | with_reducible assumption | (simp [*] <;> fail)))); intro fc7; refine cutIn (p := wo.cell? ⟨w1.heap.size, 0, none⟩ = some (.int .u64 (U g0))) ?_ ?_; (focus (refine keeps hbwo ?_; (first | with_reducible assumption | (simp [*] <;> fail)))); intro fc8; refine cutIn (p := wo.cell? ⟨w1.heap.size, 1, none⟩ = some (.int .u64 (U g1))) ?_ ?_; (focus (refine keeps hbwo ?_; (first | with_reducible assumption | (simp [*] <;> fail)))); intro fc9; (try (refine cutIn (p := wo.cell? ⟨w1.heap.size + 1, 0, none⟩ = some (.int .u64 0)) ?_ ?_; (focus (refine keeps hbwo ?_; (first | with_reducible assumption | (simp [*] <;> fail)))); intro z)); (try (refine cutIn (p := wo.frozen? ⟨w1.heap.size + 1, 0, none⟩ = false) ?_ ?_; (focus (refine keepsF (v := .int .u64 0) hbwo ?_ ?_ <;> (first | with_reducible assumption | (simp [*] <;> fail)))); intro z)); (try (refine cutIn (p := wo.cell? ⟨w1.heap.size + 1, 1, none⟩ = some (.int .u64 0)) ?_ ?_; (focus (refine keeps hbwo ?_; (first | with_reducible assumption | (simp [*] <;> fail)))); intro z)); (try (refine cutIn (p := wo.frozen? ⟨w1.heap.size + 1, 1, none⟩ = false) ?_ ?_; (focus (refine keepsF (v := .int .u64 0) hbwo ?_ ?_ <;> (first | with_reducible assumption | (simp [*] <;> fail)))); intro z)); have nfwo0 := World.new_ne wo ⟨w.heap.size, 0, none⟩ fc0; have nfwo1 := World.new_ne wo ⟨w.heap.size + 1, 0, none⟩ fc2; have nfwo2 := World.new_ne wo ⟨w.heap.size + 1 + 1, 0, none⟩ fc4; have nfwo3 := World.new_ne wo ⟨w1.heap.size, 0, none⟩ fc6; have nfwo4 := World.new_ne wo ⟨w1.heap.size, 0, none⟩ fc8; have zwo : w1.heap.size < wo.heap.size := World.block_lt_of_cell? wo _ fc6; refine cutIn (p := Hid (Below w1.heap.size w1 wo)) ?_ ?_; (focus (refine mkHid (Below.step ?_ hbwo); repeat' first | (with_reducible refine Hid.out ?_; with_reducible assumption) | with_reducible refine Below.drew ?_ | with_reducible refine Below.alloc ?_ ?_ _ | omega | (simp <;> fail) | (simp <;> omega))); intro hBnwo))
          | (go_at_call 19; ((with_reducible refine (rfold_octs K3 (by assumption) ?_).mono ?_); (repeat' first | assumption | refine Bytes.drew' ?_ | refine Bytes.alloc' ?_ _); (try go_split_ands); rintro e wf ⟨rfl, hbwf⟩; refine cutIn (p := wf.cell? ⟨w.heap.size, 0, none⟩ = some (.int .u64 (U k0))) ?_ ?_; (focus (refine keeps hbwf ?_; (first | with_reducible assumption | (simp [*] <;> fail)))); intro fc0; refine cutIn (p := wf.cell? ⟨w.heap.size, 1, none⟩ = some (.int .u64 (U k1))) ?_ ?_; (focus (refine keeps hbwf ?_; (first | with_reducible assumption | (simp [*] <;> fail)))); intro fc1; refine cutIn (p := wf.cell? ⟨w.heap.size + 1, 0, none⟩ = some (.int .u64 (U c0))) ?_ ?_; (focus (refine keeps hbwf ?_; (first | with_reducible assumption | (simp [*] <;> fail)))); intro fc2; refine cutIn (p := wf.cell? ⟨w.heap.size + 1, 1, none⟩ = some (.int .u64 (U c1))) ?_ ?_; (focus (refine keeps hbwf ?_; (first | with_reducible assumption | (simp [*] <;> fail)))); intro fc3; refine cutIn (p := wf.cell? ⟨w.heap.size + 1 + 1, 0, none⟩ = some (.int .u64 (0))) ?_ ?_; (focus (refine keeps hbwf ?_; (first | with_reducible assumption | (simp [*] <;> fail)))); intro fc4; refine cutIn (p := wf.cell? ⟨w.heap.size + 1 + 1, 1, none⟩ = some (.int .u64 (0))) ?_ ?_; (focus (refine keeps hbwf ?_; (first | with_reducible assumption | (simp [*] <;> fail)))); intro fc5; refine cutIn (p := wf.cell? ⟨w1.heap.size, 0, none⟩ = some (.int .u64 (U g0))) ?_ ?_; (focus (refine keeps hbwf ?_; (first | with_reducible assumption | (simp [*] <;> fail)))); intro fc6; refine cutIn (p := wf.cell? ⟨w1.heap.size, 1, none⟩ = some (.int .u64 (U g1))) ?_ ?_; (focus (refine keeps hbwf ?_; (first | with_reducible assumption | (simp [*] <;> fail)))); intro fc7; refine cutIn (p := wf.cell? ⟨w1.heap.size, 0, none⟩ = some (.int .u64 (U g0))) ?_ ?_; (focus (refine keeps hbwf ?_; (first | with_reducible assumption | (simp [*] <;> fail)))); intro fc8; refine cutIn (p := wf.cell? ⟨w1.heap.size, 1, none⟩ = some (.int .u64 (U g1))) ?_ ?_; (focus (refine keeps hbwf ?_; (first | with_reducible assumption | (simp [*] <;> fail)))); intro fc9; (try (refine cutIn (p := wf.cell? ⟨w1.heap.size + 1, 0, none⟩ = some (.int .u64 0)) ?_ ?_; (focus (refine keeps hbwf ?_; (first | with_reducible assumption | (simp [*] <;> fail)))); intro z)); (try (refine cutIn (p := wf.frozen? ⟨w1.heap.size + 1, 0, none⟩ = false) ?_ ?_; (focus (refine keepsF (v := .int .u64 0) hbwf ?_ ?_ <;> (first | with_reducible assumption | (simp [*] <;> fail)))); intro z)); (try (refine cutIn (p := wf.cell? ⟨w1.heap.size + 1, 1, none⟩ = some (.int .u64 0)) ?_ ?_; (focus (refine keeps hbwf ?_; (first | with_reducible assumption | (simp [*] <;> fail)))); intro z)); (try (refine cutIn (p := wf.frozen? ⟨w1.heap.size + 1, 1, none⟩ = false) ?_ ?_; (focus (refine keepsF (v := .int .u64 0) hbwf ?_ ?_ <;> (first | with_reducible assumption | (simp [*] <;> fail)))); intro z)); (try (refine cutIn (p := wf.cell? ⟨wo.heap.size, 0, none⟩ = some (.int .u64 0)) ?_ ?_; (focus (refine keeps hbwf ?_; (first | with_reducible assumption | (simp [*] <;> fail)))); intro z)); (try (refine cutIn (p := wf.frozen? ⟨wo.heap.size, 0, none⟩ = false) ?_ ?_; (focus (refine keepsF (v := .int .u64 0) hbwf ?_ ?_ <;> (first | with_reducible assumption | (simp [*] <;> fail)))); intro z)); (try (refine cutIn (p := wf.cell? ⟨wo.heap.size, 1, none⟩ = some (.int .u64 0)) ?_ ?_; (focus (refine keeps hbwf ?_; (first | with_reducible assumption | (simp [*] <;> fail)))); intro z)); (try (refine cutIn (p := wf.frozen? ⟨wo.heap.size, 1, none⟩ = false) ?_ ?_; (focus (refine keepsF (v := .int .u64 0) hbwf ?_ ?_ <;> (first | with_reducible assumption | (simp [*] <;> fail)))); intro z)); have nfwf0 := World.new_ne wf ⟨w.heap.size, 0, none⟩ fc0; have nfwf1 := World.new_ne wf ⟨w.heap.size + 1, 0, none⟩ fc2; have nfwf2 := World.new_ne wf ⟨w.heap.size + 1 + 1, 0, none⟩ fc4; have nfwf3 := World.new_ne wf ⟨w1.heap.size, 0, none⟩ fc6; have nfwf4 := World.new_ne wf ⟨w1.heap.size, 0, none⟩ fc8; have zwf : w1.heap.size < wf.heap.size := World.block_lt_of_cell? wf _ fc6; refine cutIn (p := Hid (Below w1.heap.size w1 wf)) ?_ ?_; (focus (refine mkHid (Below.step ?_ hbwf); repeat' first | (with_reducible refine Hid.out ?_; with_reducible assumption) | with_reducible refine Below.drew ?_ | with_reducible refine Below.alloc ?_ ?_ _ | omega | (simp <;> fail) | (simp <;> omega))); intro hBnwf)))
    all_goals go_wp2_with fail
    all_goals go_meet
    all_goals (try go_split_ands)
    all_goals (refine ⟨_, rfl, rfl, ?_, ?_, ?_, ?_, ?_, ?_, ?_, ?_, ?_, ?_, ?_, ?_, ?_⟩ <;> first | with_reducible assumption | (with_reducible refine fill_cell0 (u0 := .int .u64 0) (u1 := .int .u64 0) ?_ ?_ <;> assumption) | (with_reducible refine fill_cell1 (u0 := .int .u64 0) (u1 := .int .u64 0) ?_ ?_ <;> assumption) | (simp [*] <;> fail) | (repeat' first | (with_reducible refine Hid.out ?_; with_reducible assumption) | with_reducible refine Below.drew ?_ | with_reducible refine Below.setCell ?_ ?_ _ | with_reducible refine Below.alloc ?_ ?_ _ | omega | (simp <;> fail) | (simp <;> omega)))
  case rest =>
    obtain ⟨nT, rfl, rfl, y0, y1, y2, y3, y4, y5, y6, y7, y8, y9, y10, y11, hbl⟩ := hcut
    have cnT := And.intro y0 y1
    have lnT : nT < wc.heap.size := World.block_lt_of_cell? wc _ y0
    try clear lK
    have cK := And.intro y2 y3
    have lK : w.heap.size < wc.heap.size := World.block_lt_of_cell? wc _ y2
    try clear lC
    have cC := And.intro y4 y5
    have lC : w.heap.size + 1 < wc.heap.size := World.block_lt_of_cell? wc _ y4
    try clear lR
    have cR := And.intro y6 y7
    have lR : w.heap.size + 1 + 1 < wc.heap.size := World.block_lt_of_cell? wc _ y6
    try clear lF
    have cF := And.intro y8 y9
    have lF : w1.heap.size < wc.heap.size := World.block_lt_of_cell? wc _ y8
    try clear lF
    have cF := And.intro y10 y11
    have lF : w1.heap.size < wc.heap.size := World.block_lt_of_cell? wc _ y10
    have HBel := mkHid hbl
    clear hbl y0 y1 y2 y3 y4 y5 y6 y7 y8 y9 y10 y11
    have ZR := HR.out.keep HBel.out
    have cZ := ZR.two
    have fz0 := keepsF HBel.out (p := ⟨w.heap.size + 1 + 1, 0, none⟩) HR.out.two.1 fR0
    have fz1 := keepsF HBel.out (p := ⟨w.heap.size + 1 + 1, 1, none⟩) HR.out.two.2 fR1
    have HE := Below.step (w := w) HB0.out HBel.out
    go_wp2_with fail
    have hR0 : (((wc).setCell ⟨w.heap.size + 1 + 1, 0, none⟩ (.int .u64 (U t0))).setCell ⟨w.heap.size + 1 + 1, 1, none⟩ (.int .u64 (U t1))).cell? ⟨w.heap.size + 1 + 1, 0, none⟩ = some (.int .u64 (U t0)) := fill_cell0 (u0 := .int .u64 0) (u1 := .int .u64 0) cZ.1 cZ.2
    have hR1 : (((wc).setCell ⟨w.heap.size + 1 + 1, 0, none⟩ (.int .u64 (U t0))).setCell ⟨w.heap.size + 1 + 1, 1, none⟩ (.int .u64 (U t1))).cell? ⟨w.heap.size + 1 + 1, 1, none⟩ = some (.int .u64 (U t1)) := fill_cell1 (u0 := .int .u64 0) (u1 := .int .u64 0) cZ.1 cZ.2
    refine bodyPost_ret (v := .agg #[.int .u64 (U t0), .int .u64 (U t1)]) (by simp [results, Try.results38, go_sem, hR0, hR1]) rfl ⟨rfl, ?_⟩
    exact ((HE.setCell (by dsimp only; omega) _).setCell (by dsimp only; omega) _)

set_option maxRecDepth 100000 in
set_option maxHeartbeats 1000000 in
theorem rwrap_eq {k0 k1 b0 b1 c0 c1 t0 t1 : BitVec 64} (hc : Hid (hideB (k0, k1) (b0, b1) = (c0, c1))) (h : Hid (tagB (k0, k1) (c0, c1) = (t0, t1))) (w : World) :
    Calls Try.prog 37 #[.agg #[.int .u64 (U k0), .int .u64 (U k1)], .agg #[.int .u64 (U b0), .int .u64 (U b1)]] w fun e w' => e = .returned (.agg #[.int .u64 (U c0), .int .u64 (U c1), .int .u64 (U t0), .int .u64 (U t1)]) ∧ Below w.heap.size w w' := by
  have hq := eq_blocks
  obtain ⟨m0, m1, hm⟩ := pair_ex (partB 3 (k0, k1))
  have h2 := hc.out
  unfold hideB xorB at h2
  rw [hm] at h2
  have K1 := mkHid hm
  have E0 : Hid (b0 ^^^ m0 = c0) := mkHid (congrArg Prod.fst h2)
  have E1 : Hid (b1 ^^^ m1 = c1) := mkHid (congrArg Prod.snd h2)
  clear hm h2
  go_enter Try.func37, Try.ntmps37
  go_wp2_with fail
  refine (rpart_eq K1 (i := 3) rfl (by omega) _).mono ?_
  rintro e w1 ⟨rfl, hb1⟩
  have bK := Blk.keep (n := w.heap.size) (t := 24) (cs := #[.int .u64 (U k0), .int .u64 (U k1)]) (by repeat' first | with_reducible refine Blk.drew ?_ | (with_reducible refine Blk.at _ _ _ ?_; (simp <;> fail)) | with_reducible refine Blk.alloc ?_ _) hb1
  have bB := Blk.keep (n := w.heap.size + 1) (t := 24) (cs := #[.int .u64 (U b0), .int .u64 (U b1)]) (by repeat' first | with_reducible refine Blk.drew ?_ | (with_reducible refine Blk.at _ _ _ ?_; (simp <;> fail)) | with_reducible refine Blk.alloc ?_ _) hb1
  have bR := Blk.keep (n := w.heap.size + 1 + 1) (t := 43) (cs := #[.int .u64 (0), .int .u64 (0), .int .u64 (0), .int .u64 (0)]) (by repeat' first | with_reducible refine Blk.drew ?_ | (with_reducible refine Blk.at _ _ _ ?_; (simp <;> fail)) | with_reducible refine Blk.alloc ?_ _) hb1
  have hBN := Below.step (w := w) (by repeat' first | with_reducible exact Below.refl _ _ | with_reducible refine Below.drew ?_ | with_reducible refine below_drewN ?_ _ | with_reducible refine Below.setCell ?_ ?_ _ | with_reducible refine Below.alloc ?_ ?_ _ | (dsimp only; omega) | (simp <;> fail) | (simp; omega)) hb1
  clear hb1
  have cK := bK.two
  have HK := mkHid bK
  have lK := bK.lt
  clear bK
  have cB := bB.two
  have HB := mkHid bB
  have lB := bB.lt
  clear bB
  have cR := bR.four
  have HR := mkHid bR
  have lR := bR.lt
  have fR0 := bR.frozen 0
  have fR1 := bR.frozen 1
  have fR2 := bR.frozen 2
  have fR3 := bR.frozen 3
  clear bR
  have HBel := mkHid hBN
  clear hBN
  go_wp2_with fail
  have dMK : w.heap.size < w1.heap.size := lK
  have dMB : w.heap.size + 1 < w1.heap.size := lB
  have dMR : w.heap.size + 1 + 1 < w1.heap.size := lR
  refine (rxor_to rfl rfl rfl rfl E0 E1 _).mono ?_
  rintro e w2 ⟨rfl, hb2⟩
  have bK := Blk.keep (n := w.heap.size) (t := 24) (cs := #[.int .u64 (U k0), .int .u64 (U k1)]) (by repeat' first | with_reducible exact HK.out | with_reducible refine Blk.drew ?_ | (with_reducible refine Blk.at _ _ _ ?_; (simp <;> fail)) | with_reducible refine Blk.alloc ?_ _) hb2
  have bB := Blk.keep (n := w.heap.size + 1) (t := 24) (cs := #[.int .u64 (U b0), .int .u64 (U b1)]) (by repeat' first | with_reducible exact HB.out | with_reducible refine Blk.drew ?_ | (with_reducible refine Blk.at _ _ _ ?_; (simp <;> fail)) | with_reducible refine Blk.alloc ?_ _) hb2
  have bR := Blk.keep (n := w.heap.size + 1 + 1) (t := 43) (cs := #[.int .u64 (0), .int .u64 (0), .int .u64 (0), .int .u64 (0)]) (by repeat' first | with_reducible exact HR.out | with_reducible refine Blk.drew ?_ | (with_reducible refine Blk.at _ _ _ ?_; (simp <;> fail)) | with_reducible refine Blk.alloc ?_ _) hb2
  have bM := Blk.keep (n := w1.heap.size) (t := 24) (cs := #[.int .u64 (U m0), .int .u64 (U m1)]) (by repeat' first | with_reducible refine Blk.drew ?_ | (with_reducible refine Blk.at _ _ _ ?_; (simp <;> fail)) | with_reducible refine Blk.alloc ?_ _) hb2
  have hBN := Below.step (w := w) (by repeat' first | with_reducible exact HBel.out | with_reducible exact Below.refl _ _ | with_reducible refine Below.drew ?_ | with_reducible refine below_drewN ?_ _ | with_reducible refine Below.setCell ?_ ?_ _ | with_reducible refine Below.alloc ?_ ?_ _ | (dsimp only; omega) | (simp <;> fail) | (have := HBel.out.size; simp; omega)) hb2
  try clear cK
  try clear cB
  try clear cR
  clear HK lK HB lB HR lR fR0 fR1 fR2 fR3 HBel hb2
  have cK := bK.two
  have HK := mkHid bK
  have lK := bK.lt
  clear bK
  have cB := bB.two
  have HB := mkHid bB
  have lB := bB.lt
  clear bB
  have cR := bR.four
  have HR := mkHid bR
  have lR := bR.lt
  have fR0 := bR.frozen 0
  have fR1 := bR.frozen 1
  have fR2 := bR.frozen 2
  have fR3 := bR.frozen 3
  clear bR
  have cM := bM.two
  have HM := mkHid bM
  have lM := bM.lt
  clear bM
  have HBel := mkHid hBN
  clear hBN
  go_wp2_with fail
  have dCK : w.heap.size < w2.heap.size := lK
  have dCB : w.heap.size + 1 < w2.heap.size := lB
  have dCR : w.heap.size + 1 + 1 < w2.heap.size := lR
  have dCM : w1.heap.size < w2.heap.size := lM
  have fA0 : ∀ o, ((w2.alloc o).drew).frozen? ⟨w.heap.size + 1 + 1, 0, none⟩ = false := fun o => (World.frozen?_alloc_past o _ 0 lR).trans fR0
  have fA1 : ∀ o, ((w2.alloc o).drew).frozen? ⟨w.heap.size + 1 + 1, 1, none⟩ = false := fun o => (World.frozen?_alloc_past o _ 1 lR).trans fR1
  have fA2 : ∀ o, ((w2.alloc o).drew).frozen? ⟨w.heap.size + 1 + 1, 2, none⟩ = false := fun o => (World.frozen?_alloc_past o _ 2 lR).trans fR2
  have fA3 : ∀ o, ((w2.alloc o).drew).frozen? ⟨w.heap.size + 1 + 1, 3, none⟩ = false := fun o => (World.frozen?_alloc_past o _ 3 lR).trans fR3
  have cC := (Blk.at w2 (n := w2.heap.size) 24 #[.int .u64 (U c0), .int .u64 (U c1)] rfl).drew.two
  have ⟨Kx0, Kx1⟩ := (HK.out.alloc (.cells #[.int .u64 (U c0), .int .u64 (U c1)] 24)).drew.two
  have ⟨Bx0, Bx1⟩ := (HB.out.alloc (.cells #[.int .u64 (U c0), .int .u64 (U c1)] 24)).drew.two
  have ⟨Mx0, Mx1⟩ := (HM.out.alloc (.cells #[.int .u64 (U c0), .int .u64 (U c1)] 24)).drew.two
  have ⟨z0, z1, z2, z3⟩ := (HR.out.alloc (.cells #[.int .u64 (U c0), .int .u64 (U c1)] 24)).drew.four
  have hRz := mkHid ((HR.out.alloc (.cells #[.int .u64 (U c0), .int .u64 (U c1)] 24)).drew)
  have HBel0 := mkHid (HBel.out.alloc HBel.out.size (.cells #[.int .u64 (U c0), .int .u64 (U c1)] 24)).drew
  first
  | go_region_with
    (first
        | (go_at_call 38; ((with_reducible refine (rtag_eq h _).mono ?_); (try go_split_ands); rintro e wn ⟨rfl, hbn⟩; have fc0 := keeps hbn (p := ⟨w.heap.size, 0, none⟩) (v := .int .u64 (U k0)) (by first | assumption | (simp [*] <;> fail)); have fc1 := keeps hbn (p := ⟨w.heap.size, 1, none⟩) (v := .int .u64 (U k1)) (by first | assumption | (simp [*] <;> fail)); have fc2 := keeps hbn (p := ⟨w.heap.size + 1, 0, none⟩) (v := .int .u64 (U b0)) (by first | assumption | (simp [*] <;> fail)); have fc3 := keeps hbn (p := ⟨w.heap.size + 1, 1, none⟩) (v := .int .u64 (U b1)) (by first | assumption | (simp [*] <;> fail)); have fc4 := keeps hbn (p := ⟨w.heap.size + 1 + 1, 0, none⟩) (v := .int .u64 (0)) (by first | assumption | (simp [*] <;> fail)); have fc5 := keeps hbn (p := ⟨w.heap.size + 1 + 1, 1, none⟩) (v := .int .u64 (0)) (by first | assumption | (simp [*] <;> fail)); have fc6 := keeps hbn (p := ⟨w.heap.size + 1 + 1, 2, none⟩) (v := .int .u64 (0)) (by first | assumption | (simp [*] <;> fail)); have fc7 := keeps hbn (p := ⟨w.heap.size + 1 + 1, 3, none⟩) (v := .int .u64 (0)) (by first | assumption | (simp [*] <;> fail)); have fc8 := keeps hbn (p := ⟨w1.heap.size, 0, none⟩) (v := .int .u64 (U m0)) (by first | assumption | (simp [*] <;> fail)); have fc9 := keeps hbn (p := ⟨w1.heap.size, 1, none⟩) (v := .int .u64 (U m1)) (by first | assumption | (simp [*] <;> fail)); have fc10 := keeps hbn (p := ⟨w2.heap.size, 0, none⟩) (v := .int .u64 (U c0)) (by first | assumption | (simp [*] <;> fail)); have fc11 := keeps hbn (p := ⟨w2.heap.size, 1, none⟩) (v := .int .u64 (U c1)) (by first | assumption | (simp [*] <;> fail)); have hBn := mkHid (Below.step (w := w) (Hid.out (by assumption)) hbn); have fz0 := keepsF hbn (p := ⟨w.heap.size + 1 + 1, 0, none⟩) (v := .int .u64 0) (by first | assumption | simp [*]) (fA0 _); have fz1 := keepsF hbn (p := ⟨w.heap.size + 1 + 1, 1, none⟩) (v := .int .u64 0) (by first | assumption | simp [*]) (fA1 _); have fz2 := keepsF hbn (p := ⟨w.heap.size + 1 + 1, 2, none⟩) (v := .int .u64 0) (by first | assumption | simp [*]) (fA2 _); have fz3 := keepsF hbn (p := ⟨w.heap.size + 1 + 1, 3, none⟩) (v := .int .u64 0) (by first | assumption | simp [*]) (fA3 _); have hRn := mkHid (hRz.out.keep hbn))))
  | fail
  all_goals have hRX : Blk (((((wn).setCell ⟨w.heap.size + 1 + 1, 0, none⟩ (.int .u64 (U c0))).setCell ⟨w.heap.size + 1 + 1, 1, none⟩ (.int .u64 (U c1))).setCell ⟨w.heap.size + 1 + 1, 2, none⟩ (.int .u64 (U t0))).setCell ⟨w.heap.size + 1 + 1, 3, none⟩ (.int .u64 (U t1))) (w.heap.size + 1 + 1) 43 #[.int .u64 (U c0), .int .u64 (U c1), .int .u64 (U t0), .int .u64 (U t1)] := by repeat' first | with_reducible exact hRn.out | with_reducible apply Blk.fill4
  all_goals have hRY := hRX.four
  all_goals go_wp2_with fail
  all_goals refine bodyPost_ret (v := .agg #[.int .u64 (U c0), .int .u64 (U c1), .int .u64 (U t0), .int .u64 (U t1)]) (by simp [results, Try.results37, go_sem, hRY]) rfl ⟨rfl, ?_⟩
  all_goals exact ((((hBn.out.setCell (by dsimp only; omega) _).setCell (by dsimp only; omega) _).setCell (by dsimp only; omega) _).setCell (by dsimp only; omega) _)
end Go.Proofs.Ytdaodopeodheeaa
