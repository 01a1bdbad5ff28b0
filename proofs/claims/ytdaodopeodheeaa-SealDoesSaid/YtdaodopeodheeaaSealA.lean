/- The contracts of seal: what a key makes, tags, wrapping, taking out. -/
import Derived.Test.YtdaodopeodheeaaKit
import Derived.Deep.DeepCutAuto
import Derived.Deep.RegionHeld3
namespace Go.Proofs.Ytdaodopeodheeaa
open Go.RowKit

def tagB (k c : BitVec 64 × BitVec 64) : BitVec 64 × BitVec 64 := mixTo 8 (xorB (partB 4 k) c)
def hideB (k b : BitVec 64 × BitVec 64) : BitVec 64 × BitVec 64 := xorB b (partB 3 k)
theorem hide_back (k b : BitVec 64 × BitVec 64) : hideB k (hideB k b) = b := by
  unfold hideB xorB
  apply Prod.ext
  · exact xor_xor_cancel _ _
  · exact xor_xor_cancel _ _

theorem partC (a b c d : Int) (w : World) : (part 24 #[.int .u64 a, .int .u64 b, .int .u64 c, .int .u64 d] 0).run Try.prog w = .ok (.agg #[.int .u64 a, .int .u64 b]) w := by kernel_rfl
theorem partT (a b c d : Int) (w : World) : (part 24 #[.int .u64 a, .int .u64 b, .int .u64 c, .int .u64 d] 2).run Try.prog w = .ok (.agg #[.int .u64 c, .int .u64 d]) w := by kernel_rfl
theorem eq_blocks' (a b c d : Int) (w : World) : (Op.equalIn 9999 24 (.agg #[.int .u64 a, .int .u64 b]) (.agg #[.int .u64 c, .int .u64 d])).run Try.prog w = .ok (a == c && b == d) w := by
  obtain ⟨i, hi⟩ := Option.isSome_iff_exists.1 info_u64
  rw [run_equalIn_array w 9998 _ _ Try.underlying24 hi, cells_u64]
  have e1 := run_equalIn_int w 9997 22 .u64 .u64 a c Try.underlying22
  have e2 := run_equalIn_int w 9997 22 .u64 .u64 b d Try.underlying22
  rw [show List.range 2 = [0, 1] from rfl]
  simp only [Op.eqItems, Sem.run_bind, Nat.zero_mul, Nat.one_mul, part0_u64, Result.andThen_ok, e1]
  cases (a == c)
  · simp
  · simp only [Bool.not_true, Bool.false_eq_true, if_false, Sem.run_bind, part1_u64, Result.andThen_ok, e2]
    cases (b == d) <;> simp
theorem stood_sealed : Try.prog.stoodInHeld 43 = false := by kernel_rfl
theorem eqFields_step {P : Program} {d : Nat} {xs ys : Array Value} {f : Field} {fs : List Field} {w : World} {a b : Value} {r : Bool} (hn : f.name ≠ "_") (pa : (part f.type xs f.offset).run P w = .ok a w)
    (pb : (part f.type ys f.offset).run P w = .ok b w) (he : (Op.equalIn d f.type a b).run P w = .ok r w) : (Op.eqFields d xs ys (f :: fs)).run P w = if r = true then (Op.eqFields d xs ys fs).run P w else .ok false w := by
  rw [Op.eqFields, if_pos hn]
  simp only [Sem.run_bind, pa, pb, he, Result.andThen_ok]
  cases r <;> simp
theorem list_two {α β : Type} (g : α → β) (l : List α) (a b : β) (h : l.map g = [a, b]) : ∃ x y, l = [x, y] ∧ g x = a ∧ g y = b := by
  match l, h with
  | [x, y], h => exact ⟨x, y, rfl, (List.cons.inj h).1, (List.cons.inj (List.cons.inj h).2).1⟩
/-- '==' on two sealed blocks -/
theorem eq_sealed (a b c d a' b' c' d' : Int) (w : World) : (Op.equalIn 10000 43 (.agg #[.int .u64 a, .int .u64 b, .int .u64 c, .int .u64 d]) (.agg #[.int .u64 a', .int .u64 b', .int .u64 c', .int .u64 d'])).run Try.prog w = .ok ((a == a' && b == b') && (c == c' && d == d')) w := by
  rw [run_equalIn_struct w 9999 _ _ _ (by kernel_rfl) stood_sealed]
  have hf : (Try.prog.fieldsOf 43).toList.map (fun f => (f.name, f.type, f.offset)) = [("C", 24, 0), ("T", 24, 2)] := by kernel_rfl
  obtain ⟨f0, f1, hl, h0, h1⟩ := list_two _ _ _ _ hf
  simp only [Prod.mk.injEq] at h0 h1
  obtain ⟨n0, t0, o0⟩ := h0
  obtain ⟨n1, t1, o1⟩ := h1
  rw [hl, eqFields_step (a := .agg #[.int .u64 a, .int .u64 b]) (b := .agg #[.int .u64 a', .int .u64 b']) (r := (a == a' && b == b')) (by rw [n0]; decide) (by rw [t0, o0]; exact partC _ _ _ _ _) (by rw [t0, o0]; exact partC _ _ _ _ _) (by rw [t0]; exact eq_blocks' _ _ _ _ _)]
  rw [eqFields_step (a := .agg #[.int .u64 c, .int .u64 d]) (b := .agg #[.int .u64 c', .int .u64 d']) (r := (c == c' && d == d')) (by rw [n1]; decide) (by rw [t1, o1]; exact partT _ _ _ _ _) (by rw [t1, o1]; exact partT _ _ _ _ _) (by rw [t1]; exact eq_blocks' _ _ _ _ _)]
  generalize (a == a' && b == b') = p
  generalize (c == c' && d == d') = q
  cases p <;> cases q <;> simp [Op.eqFields]

set_option maxRecDepth 100000 in
set_option maxHeartbeats 1000000 in
theorem parts_eq {k0 k1 m0 m1 t0 t1 : BitVec 64} (hm : Hid (partB 3 (k0, k1) = (m0, m1))) (ht : Hid (partB 4 (k0, k1) = (t0, t1))) (w : World) :
    Calls Try.prog 45 #[.agg #[.int .u64 (U k0), .int .u64 (U k1)]] w fun e w' => e = .returned (.tuple #[.agg #[.int .u64 (U m0), .int .u64 (U m1)], .agg #[.int .u64 (U t0), .int .u64 (U t1)]]) ∧ Below w.heap.size w w' := by
  have hq := eq_blocks
  go_enter Try.func45, Try.ntmps45
  go_wp2_with fail
  refine (part_eq hm rfl rfl (i := 3) rfl (by omega) _).mono ?_
  rintro e w1 ⟨rfl, hb1⟩
  have bK := Blk.keep (n := w.heap.size) (t := 24) (cs := #[.int .u64 (U k0), .int .u64 (U k1)]) (by repeat' first | with_reducible refine Blk.drew ?_ | (with_reducible refine Blk.at _ _ _ ?_; (simp <;> fail)) | with_reducible refine Blk.alloc ?_ _) hb1
  have bM := Blk.keep (n := w.heap.size + 1) (t := 24) (cs := #[.int .u64 (0), .int .u64 (0)]) (by repeat' first | with_reducible refine Blk.drew ?_ | (with_reducible refine Blk.at _ _ _ ?_; (simp <;> fail)) | with_reducible refine Blk.alloc ?_ _) hb1
  have bT := Blk.keep (n := w.heap.size + 1 + 1) (t := 24) (cs := #[.int .u64 (0), .int .u64 (0)]) (by repeat' first | with_reducible refine Blk.drew ?_ | (with_reducible refine Blk.at _ _ _ ?_; (simp <;> fail)) | with_reducible refine Blk.alloc ?_ _) hb1
  have hBN := Below.step (w := w) (by repeat' first | with_reducible exact Below.refl _ _ | with_reducible refine Below.drew ?_ | with_reducible refine below_drewN ?_ _ | with_reducible refine Below.setCell ?_ ?_ _ | with_reducible refine Below.alloc ?_ ?_ _ | (dsimp only; omega) | (simp <;> fail) | (simp; omega)) hb1
  clear hb1
  have cK := bK.two
  have HK := mkHid bK
  have lK := bK.lt
  clear bK
  have cM := bM.two
  have HM := mkHid bM
  have lM := bM.lt
  have fM0 := bM.frozen 0
  have fM1 := bM.frozen 1
  clear bM
  have cT := bT.two
  have HT := mkHid bT
  have lT := bT.lt
  have fT0 := bT.frozen 0
  have fT1 := bT.frozen 1
  clear bT
  have HBel := mkHid hBN
  clear hBN
  go_wp2_with fail
  refine (part_eq ht rfl rfl (i := 4) rfl (by omega) _).mono ?_
  rintro e w2 ⟨rfl, hb2⟩
  have bK := Blk.keep (n := w.heap.size) (t := 24) (cs := #[.int .u64 (U k0), .int .u64 (U k1)]) (by repeat' first | with_reducible exact HK.out | with_reducible refine Blk.other ?_ _ ?_ | omega | with_reducible refine Blk.drew ?_ | (with_reducible refine Blk.at _ _ _ ?_; (simp <;> fail)) | with_reducible refine Blk.alloc ?_ _) hb2
  have bM := Blk.keep (n := w.heap.size + 1) (t := 24) (cs := #[.int .u64 (U m0), .int .u64 (U m1)]) (by repeat' first | with_reducible exact HM.out | (with_reducible apply Blk.fill2; with_reducible exact HM.out) | (with_reducible apply Blk.fill4a; with_reducible exact HM.out) | (with_reducible apply Blk.fill4b; with_reducible exact HM.out) | with_reducible refine Blk.other ?_ _ ?_ | omega | with_reducible refine Blk.drew ?_ | (with_reducible refine Blk.at _ _ _ ?_; (simp <;> fail)) | with_reducible refine Blk.alloc ?_ _) hb2
  have bT := Blk.keep (n := w.heap.size + 1 + 1) (t := 24) (cs := #[.int .u64 (0), .int .u64 (0)]) (by repeat' first | with_reducible exact HT.out | with_reducible refine Blk.other ?_ _ ?_ | omega | with_reducible refine Blk.drew ?_ | (with_reducible refine Blk.at _ _ _ ?_; (simp <;> fail)) | with_reducible refine Blk.alloc ?_ _) hb2
  have hBN := Below.step (w := w) (by repeat' first | with_reducible exact HBel.out | with_reducible exact Below.refl _ _ | with_reducible refine Below.drew ?_ | with_reducible refine below_drewN ?_ _ | with_reducible refine Below.setCell ?_ ?_ _ | with_reducible refine Below.alloc ?_ ?_ _ | (dsimp only; omega) | (simp <;> fail) | (have := HBel.out.size; simp; omega)) hb2
  clear cK HK lK cM HM lM fM0 fM1 cT HT lT fT0 fT1 HBel hb2
  have cK := bK.two
  have HK := mkHid bK
  have lK := bK.lt
  clear bK
  have cM := bM.two
  have HM := mkHid bM
  have lM := bM.lt
  have fM0 := bM.frozen 0
  have fM1 := bM.frozen 1
  clear bM
  have cT := bT.two
  have HT := mkHid bT
  have lT := bT.lt
  have fT0 := bT.frozen 0
  have fT1 := bT.frozen 1
  clear bT
  have HBel := mkHid hBN
  clear hBN
  go_wp2_with fail
  go_region
  go_wp2_with fail
  have qM : Blk (((((((w2).setCell ⟨w.heap.size + 1 + 1, 0, none⟩ (.int .u64 (U t0))).setCell ⟨w.heap.size + 1 + 1, 1, none⟩ (.int .u64 (U t1))).setCell ⟨w.heap.size + 1, 0, none⟩ (.int .u64 (U m0))).setCell ⟨w.heap.size + 1, 1, none⟩ (.int .u64 (U m1))).setCell ⟨w.heap.size + 1 + 1, 0, none⟩ (.int .u64 (U t0))).setCell ⟨w.heap.size + 1 + 1, 1, none⟩ (.int .u64 (U t1))) (w.heap.size + 1) 24 #[.int .u64 (U m0), .int .u64 (U m1)] := (by repeat' first | with_reducible exact HM.out | (with_reducible refine Blk.at _ _ _ ?_; (simp <;> fail)) | (with_reducible apply Blk.fill2) | (with_reducible apply Blk.fill4a) | (with_reducible apply Blk.fill4b) | with_reducible refine Blk.other ?_ _ ?_ | omega | with_reducible refine Blk.drew ?_ | with_reducible refine Blk.alloc ?_ _)
  have qM' := qM.two
  have qT : Blk (((((((w2).setCell ⟨w.heap.size + 1 + 1, 0, none⟩ (.int .u64 (U t0))).setCell ⟨w.heap.size + 1 + 1, 1, none⟩ (.int .u64 (U t1))).setCell ⟨w.heap.size + 1, 0, none⟩ (.int .u64 (U m0))).setCell ⟨w.heap.size + 1, 1, none⟩ (.int .u64 (U m1))).setCell ⟨w.heap.size + 1 + 1, 0, none⟩ (.int .u64 (U t0))).setCell ⟨w.heap.size + 1 + 1, 1, none⟩ (.int .u64 (U t1))) (w.heap.size + 1 + 1) 24 #[.int .u64 (U t0), .int .u64 (U t1)] := (by repeat' first | with_reducible exact HT.out | (with_reducible refine Blk.at _ _ _ ?_; (simp <;> fail)) | (with_reducible apply Blk.fill2) | (with_reducible apply Blk.fill4a) | (with_reducible apply Blk.fill4b) | with_reducible refine Blk.other ?_ _ ?_ | omega | with_reducible refine Blk.drew ?_ | with_reducible refine Blk.alloc ?_ _)
  have qT' := qT.two
  refine bodyPost_ret (v := .tuple #[.agg #[.int .u64 (U m0), .int .u64 (U m1)], .agg #[.int .u64 (U t0), .int .u64 (U t1)]]) (by simp [results, Try.results45, go_sem, qM', qT']) rfl ⟨rfl, ?_⟩
  exact (by repeat' first | with_reducible exact HBel.out | with_reducible exact Below.refl _ _ | with_reducible refine Below.drew ?_ | with_reducible refine below_drewN ?_ _ | with_reducible refine Below.setCell ?_ ?_ _ | with_reducible refine Below.alloc ?_ ?_ _ | (dsimp only; omega) | (simp <;> fail) | (have := HBel.out.size; simp; omega))

set_option maxRecDepth 100000 in
set_option maxHeartbeats 1000000 in
theorem tag_eq {k0 k1 c0 c1 t0 t1 : BitVec 64} (h : Hid (tagB (k0, k1) (c0, c1) = (t0, t1))) (w : World) :
    Calls Try.prog 33 #[.agg #[.int .u64 (U k0), .int .u64 (U k1)], .agg #[.int .u64 (U c0), .int .u64 (U c1)]] w fun e w' => e = .returned (.agg #[.int .u64 (U t0), .int .u64 (U t1)]) ∧ Below w.heap.size w w' := by
  have hq := eq_blocks
  obtain ⟨m0, m1, hm⟩ := pair_ex (partB 3 (k0, k1))
  obtain ⟨g0, g1, hg⟩ := pair_ex (partB 4 (k0, k1))
  have hx : mixTo 8 (g0 ^^^ c0, g1 ^^^ c1) = (t0, t1) := by
    have h2 := h.out
    unfold tagB xorB at h2
    rw [hg] at h2
    exact h2
  have K1 := mkHid hm
  have K2 := mkHid hg
  have K3 := mkHid hx
  clear hm hg hx h
  go_enter Try.func33, Try.ntmps33
  go_wp2_with fail
  refine (parts_eq K1 K2 _).mono ?_
  rintro e w1 ⟨rfl, hb1⟩
  have bK := Blk.keep (n := w.heap.size) (t := 24) (cs := #[.int .u64 (U k0), .int .u64 (U k1)]) (by repeat' first | with_reducible refine Blk.drew ?_ | (with_reducible refine Blk.at _ _ _ ?_; (simp <;> fail)) | with_reducible refine Blk.alloc ?_ _) hb1
  have bC := Blk.keep (n := w.heap.size + 1) (t := 24) (cs := #[.int .u64 (U c0), .int .u64 (U c1)]) (by repeat' first | with_reducible refine Blk.drew ?_ | (with_reducible refine Blk.at _ _ _ ?_; (simp <;> fail)) | with_reducible refine Blk.alloc ?_ _) hb1
  have bR := Blk.keep (n := w.heap.size + 1 + 1) (t := 24) (cs := #[.int .u64 (0), .int .u64 (0)]) (by repeat' first | with_reducible refine Blk.drew ?_ | (with_reducible refine Blk.at _ _ _ ?_; (simp <;> fail)) | with_reducible refine Blk.alloc ?_ _) hb1
  have hBN := Below.step (w := w) (by repeat' first | with_reducible exact Below.refl _ _ | with_reducible refine Below.drew ?_ | with_reducible refine below_drewN ?_ _ | with_reducible refine Below.setCell ?_ ?_ _ | with_reducible refine Below.alloc ?_ ?_ _ | (dsimp only; omega) | (simp <;> fail) | (simp; omega)) hb1
  clear hb1
  have cK := bK.two
  have HK := mkHid bK
  have lK := bK.lt
  clear bK
  have cC := bC.two
  have HC := mkHid bC
  have lC := bC.lt
  clear bC
  have cR := bR.two
  have HR := mkHid bR
  have lR := bR.lt
  have fR0 := bR.frozen 0
  have fR1 := bR.frozen 1
  clear bR
  have HBel := mkHid hBN
  clear hBN
  go_wp2_with fail
  have dMK : w.heap.size < w1.heap.size := lK
  have dMC : w.heap.size + 1 < w1.heap.size := lC
  have dMR : w.heap.size + 1 + 1 < w1.heap.size := lR
  have dTK : w.heap.size < w1.heap.size := lK
  have dTC : w.heap.size + 1 < w1.heap.size := lC
  have dTR : w.heap.size + 1 + 1 < w1.heap.size := lR
  refine (xor_any rfl rfl rfl rfl _).mono ?_
  rintro e w2 ⟨rfl, hb2⟩
  have bK := Blk.keep (n := w.heap.size) (t := 24) (cs := #[.int .u64 (U k0), .int .u64 (U k1)]) (by repeat' first | with_reducible exact HK.out | with_reducible refine Blk.drew ?_ | (with_reducible refine Blk.at _ _ _ ?_; (simp <;> fail)) | with_reducible refine Blk.alloc ?_ _) hb2
  have bC := Blk.keep (n := w.heap.size + 1) (t := 24) (cs := #[.int .u64 (U c0), .int .u64 (U c1)]) (by repeat' first | with_reducible exact HC.out | with_reducible refine Blk.drew ?_ | (with_reducible refine Blk.at _ _ _ ?_; (simp <;> fail)) | with_reducible refine Blk.alloc ?_ _) hb2
  have bR := Blk.keep (n := w.heap.size + 1 + 1) (t := 24) (cs := #[.int .u64 (0), .int .u64 (0)]) (by repeat' first | with_reducible exact HR.out | with_reducible refine Blk.drew ?_ | (with_reducible refine Blk.at _ _ _ ?_; (simp <;> fail)) | with_reducible refine Blk.alloc ?_ _) hb2
  have bM := Blk.keep (n := w1.heap.size) (t := 24) (cs := #[.int .u64 (U m0), .int .u64 (U m1)]) (by repeat' first | with_reducible refine Blk.drew ?_ | (with_reducible refine Blk.at _ _ _ ?_; (simp <;> fail)) | with_reducible refine Blk.alloc ?_ _) hb2
  have bT := Blk.keep (n := w1.heap.size + 1) (t := 24) (cs := #[.int .u64 (U g0), .int .u64 (U g1)]) (by repeat' first | with_reducible refine Blk.drew ?_ | (with_reducible refine Blk.at _ _ _ ?_; (simp <;> fail)) | with_reducible refine Blk.alloc ?_ _) hb2
  have hBN := Below.step (w := w) (by repeat' first | with_reducible exact HBel.out | with_reducible exact Below.refl _ _ | with_reducible refine Below.drew ?_ | with_reducible refine below_drewN ?_ _ | with_reducible refine Below.setCell ?_ ?_ _ | with_reducible refine Below.alloc ?_ ?_ _ | (dsimp only; omega) | (simp <;> fail) | (have := HBel.out.size; simp; omega)) hb2
  clear cK HK lK cC HC lC cR HR lR fR0 fR1 HBel hb2
  have cK := bK.two
  have HK := mkHid bK
  have lK := bK.lt
  clear bK
  have cC := bC.two
  have HC := mkHid bC
  have lC := bC.lt
  clear bC
  have cR := bR.two
  have HR := mkHid bR
  have lR := bR.lt
  have fR0 := bR.frozen 0
  have fR1 := bR.frozen 1
  clear bR
  have cM := bM.two
  have HM := mkHid bM
  have lM := bM.lt
  clear bM
  have cT := bT.two
  have HT := mkHid bT
  have lT := bT.lt
  clear bT
  have HBel := mkHid hBN
  clear hBN
  go_wp2_with fail
  refine (mix_eq K3 rfl rfl _).mono ?_
  rintro e w3 ⟨rfl, hb3⟩
  have bK := Blk.keep (n := w.heap.size) (t := 24) (cs := #[.int .u64 (U k0), .int .u64 (U k1)]) (by repeat' first | with_reducible exact HK.out | with_reducible refine Blk.drew ?_ | (with_reducible refine Blk.at _ _ _ ?_; (simp <;> fail)) | with_reducible refine Blk.alloc ?_ _) hb3
  have bC := Blk.keep (n := w.heap.size + 1) (t := 24) (cs := #[.int .u64 (U c0), .int .u64 (U c1)]) (by repeat' first | with_reducible exact HC.out | with_reducible refine Blk.drew ?_ | (with_reducible refine Blk.at _ _ _ ?_; (simp <;> fail)) | with_reducible refine Blk.alloc ?_ _) hb3
  have bR := Blk.keep (n := w.heap.size + 1 + 1) (t := 24) (cs := #[.int .u64 (0), .int .u64 (0)]) (by repeat' first | with_reducible exact HR.out | with_reducible refine Blk.drew ?_ | (with_reducible refine Blk.at _ _ _ ?_; (simp <;> fail)) | with_reducible refine Blk.alloc ?_ _) hb3
  have bM := Blk.keep (n := w1.heap.size) (t := 24) (cs := #[.int .u64 (U m0), .int .u64 (U m1)]) (by repeat' first | with_reducible exact HM.out | with_reducible refine Blk.drew ?_ | (with_reducible refine Blk.at _ _ _ ?_; (simp <;> fail)) | with_reducible refine Blk.alloc ?_ _) hb3
  have bT := Blk.keep (n := w1.heap.size + 1) (t := 24) (cs := #[.int .u64 (U g0), .int .u64 (U g1)]) (by repeat' first | with_reducible exact HT.out | with_reducible refine Blk.drew ?_ | (with_reducible refine Blk.at _ _ _ ?_; (simp <;> fail)) | with_reducible refine Blk.alloc ?_ _) hb3
  have hBN := Below.step (w := w) (by repeat' first | with_reducible exact HBel.out | with_reducible exact Below.refl _ _ | with_reducible refine Below.drew ?_ | with_reducible refine below_drewN ?_ _ | with_reducible refine Below.setCell ?_ ?_ _ | with_reducible refine Below.alloc ?_ ?_ _ | (dsimp only; omega) | (simp <;> fail) | (have := HBel.out.size; simp; omega)) hb3
  clear cK HK lK cC HC lC cR HR lR fR0 fR1 cM HM lM cT HT lT HBel hb3
  have cK := bK.two
  have HK := mkHid bK
  have lK := bK.lt
  clear bK
  have cC := bC.two
  have HC := mkHid bC
  have lC := bC.lt
  clear bC
  have cR := bR.two
  have HR := mkHid bR
  have lR := bR.lt
  have fR0 := bR.frozen 0
  have fR1 := bR.frozen 1
  clear bR
  have cM := bM.two
  have HM := mkHid bM
  have lM := bM.lt
  clear bM
  have cT := bT.two
  have HT := mkHid bT
  have lT := bT.lt
  clear bT
  have HBel := mkHid hBN
  clear hBN
  go_wp2_with fail
  have qR : Blk (((w3).setCell ⟨w.heap.size + 1 + 1, 0, none⟩ (.int .u64 (U t0))).setCell ⟨w.heap.size + 1 + 1, 1, none⟩ (.int .u64 (U t1))) (w.heap.size + 1 + 1) 24 #[.int .u64 (U t0), .int .u64 (U t1)] := (by repeat' first | with_reducible exact HR.out | (with_reducible refine Blk.at _ _ _ ?_; (simp <;> fail)) | (with_reducible apply Blk.fill2) | (with_reducible apply Blk.fill4a) | (with_reducible apply Blk.fill4b) | with_reducible refine Blk.other ?_ _ ?_ | omega | with_reducible refine Blk.drew ?_ | with_reducible refine Blk.alloc ?_ _)
  have qR' := qR.two
  refine bodyPost_ret (v := .agg #[.int .u64 (U t0), .int .u64 (U t1)]) (by simp [results, Try.results33, go_sem, qR']) rfl ⟨rfl, ?_⟩
  exact (by repeat' first | with_reducible exact HBel.out | with_reducible exact Below.refl _ _ | with_reducible refine Below.drew ?_ | with_reducible refine below_drewN ?_ _ | with_reducible refine Below.setCell ?_ ?_ _ | with_reducible refine Below.alloc ?_ ?_ _ | (dsimp only; omega) | (simp <;> fail) | (have := HBel.out.size; simp; omega))

set_option maxRecDepth 100000 in
set_option maxHeartbeats 1000000 in
theorem wrap_eq {k0 k1 b0 b1 c0 c1 t0 t1 : BitVec 64} (hc : Hid (hideB (k0, k1) (b0, b1) = (c0, c1))) (h : Hid (tagB (k0, k1) (c0, c1) = (t0, t1))) (w : World) :
    Calls Try.prog 31 #[.agg #[.int .u64 (U k0), .int .u64 (U k1)], .agg #[.int .u64 (U b0), .int .u64 (U b1)]] w fun e w' => e = .returned (.agg #[.int .u64 (U c0), .int .u64 (U c1), .int .u64 (U t0), .int .u64 (U t1)]) ∧ Below w.heap.size w w' := by
  have hq := eq_blocks
  obtain ⟨m0, m1, hm⟩ := pair_ex (partB 3 (k0, k1))
  obtain ⟨g0, g1, hg⟩ := pair_ex (partB 4 (k0, k1))
  have h2 := hc.out
  unfold hideB xorB at h2
  rw [hm] at h2
  have e0 : U (b0 ^^^ m0) = U c0 := congrArg U (congrArg Prod.fst h2)
  have e1 : U (b1 ^^^ m1) = U c1 := congrArg U (congrArg Prod.snd h2)
  have K1 := mkHid hm
  have K2 := mkHid hg
  have E0 := mkHid e0
  have E1 := mkHid e1
  clear hm hg h2 e0 e1
  go_enter Try.func31, Try.ntmps31
  go_wp2_with fail
  refine (parts_eq K1 K2 _).mono ?_
  rintro e w1 ⟨rfl, hb1⟩
  have bK := Blk.keep (n := w.heap.size) (t := 24) (cs := #[.int .u64 (U k0), .int .u64 (U k1)]) (by repeat' first | with_reducible refine Blk.drew ?_ | (with_reducible refine Blk.at _ _ _ ?_; (simp <;> fail)) | with_reducible refine Blk.alloc ?_ _) hb1
  have bB := Blk.keep (n := w.heap.size + 1) (t := 24) (cs := #[.int .u64 (U b0), .int .u64 (U b1)]) (by repeat' first | with_reducible refine Blk.drew ?_ | (with_reducible refine Blk.at _ _ _ ?_; (simp <;> fail)) | with_reducible refine Blk.alloc ?_ _) hb1
  have bR := Blk.keep (n := w.heap.size + 1 + 1) (t := 43) (cs := #[.int .u64 (0), .int .u64 (0), .int .u64 (0), .int .u64 (0)]) (by repeat' first | with_reducible refine Blk.drew ?_ | (with_reducible refine Blk.at _ _ _ ?_; (simp <;> fail)) | with_reducible refine Blk.alloc ?_ _) hb1
  have hBN := Below.step (w := w) (by repeat' first | with_reducible exact Below.refl _ _ | with_reducible refine Below.drew ?_ | with_reducible refine below_drewN ?_ _ | with_reducible refine Below.setCell ?_ ?_ _ | with_reducible refine Below.alloc ?_ ?_ _ | (dsimp only; omega) | (simp <;> fail) | (simp; omega)) hb1
  clear hb1
  have cK := bK.two
  have HK := mkHid bK
  have lK := bK.lt
  clear bK
  have cB := bB.two
  have HB := mkHid bB
  have lB := bB.lt
  clear bB
  have cR := bR.four
  have HR := mkHid bR
  have lR := bR.lt
  have fR0 := bR.frozen 0
  have fR1 := bR.frozen 1
  have fR2 := bR.frozen 2
  have fR3 := bR.frozen 3
  clear bR
  have HBel := mkHid hBN
  clear hBN
  go_wp2_with fail
  have dMK : w.heap.size < w1.heap.size := lK
  have dMB : w.heap.size + 1 < w1.heap.size := lB
  have dMR : w.heap.size + 1 + 1 < w1.heap.size := lR
  have dTK : w.heap.size < w1.heap.size := lK
  have dTB : w.heap.size + 1 < w1.heap.size := lB
  have dTR : w.heap.size + 1 + 1 < w1.heap.size := lR
  refine (xor_to rfl rfl rfl rfl E0.out E1.out _).mono ?_
  rintro e w2 ⟨rfl, hb2⟩
  have bK := Blk.keep (n := w.heap.size) (t := 24) (cs := #[.int .u64 (U k0), .int .u64 (U k1)]) (by repeat' first | with_reducible exact HK.out | with_reducible refine Blk.drew ?_ | (with_reducible refine Blk.at _ _ _ ?_; (simp <;> fail)) | with_reducible refine Blk.alloc ?_ _) hb2
  have bB := Blk.keep (n := w.heap.size + 1) (t := 24) (cs := #[.int .u64 (U b0), .int .u64 (U b1)]) (by repeat' first | with_reducible exact HB.out | with_reducible refine Blk.drew ?_ | (with_reducible refine Blk.at _ _ _ ?_; (simp <;> fail)) | with_reducible refine Blk.alloc ?_ _) hb2
  have bR := Blk.keep (n := w.heap.size + 1 + 1) (t := 43) (cs := #[.int .u64 (0), .int .u64 (0), .int .u64 (0), .int .u64 (0)]) (by repeat' first | with_reducible exact HR.out | with_reducible refine Blk.drew ?_ | (with_reducible refine Blk.at _ _ _ ?_; (simp <;> fail)) | with_reducible refine Blk.alloc ?_ _) hb2
  have bM := Blk.keep (n := w1.heap.size) (t := 24) (cs := #[.int .u64 (U m0), .int .u64 (U m1)]) (by repeat' first | with_reducible refine Blk.drew ?_ | (with_reducible refine Blk.at _ _ _ ?_; (simp <;> fail)) | with_reducible refine Blk.alloc ?_ _) hb2
  have bT := Blk.keep (n := w1.heap.size + 1) (t := 24) (cs := #[.int .u64 (U g0), .int .u64 (U g1)]) (by repeat' first | with_reducible refine Blk.drew ?_ | (with_reducible refine Blk.at _ _ _ ?_; (simp <;> fail)) | with_reducible refine Blk.alloc ?_ _) hb2
  have hBN := Below.step (w := w) (by repeat' first | with_reducible exact HBel.out | with_reducible exact Below.refl _ _ | with_reducible refine Below.drew ?_ | with_reducible refine below_drewN ?_ _ | with_reducible refine Below.setCell ?_ ?_ _ | with_reducible refine Below.alloc ?_ ?_ _ | (dsimp only; omega) | (simp <;> fail) | (have := HBel.out.size; simp; omega)) hb2
  clear cK HK lK cB HB lB cR HR lR fR0 fR1 fR2 fR3 HBel hb2
  have cK := bK.two
  have HK := mkHid bK
  have lK := bK.lt
  clear bK
  have cB := bB.two
  have HB := mkHid bB
  have lB := bB.lt
  clear bB
  have cR := bR.four
  have HR := mkHid bR
  have lR := bR.lt
  have fR0 := bR.frozen 0
  have fR1 := bR.frozen 1
  have fR2 := bR.frozen 2
  have fR3 := bR.frozen 3
  clear bR
  have cM := bM.two
  have HM := mkHid bM
  have lM := bM.lt
  clear bM
  have cT := bT.two
  have HT := mkHid bT
  have lT := bT.lt
  clear bT
  have HBel := mkHid hBN
  clear hBN
  go_wp2_with fail
  refine (tag_eq h _).mono ?_
  rintro e w3 ⟨rfl, hb3⟩
  have bK := Blk.keep (n := w.heap.size) (t := 24) (cs := #[.int .u64 (U k0), .int .u64 (U k1)]) (by repeat' first | with_reducible exact HK.out | with_reducible refine Blk.other ?_ _ ?_ | omega | with_reducible refine Blk.drew ?_ | (with_reducible refine Blk.at _ _ _ ?_; (simp <;> fail)) | with_reducible refine Blk.alloc ?_ _) hb3
  have bB := Blk.keep (n := w.heap.size + 1) (t := 24) (cs := #[.int .u64 (U b0), .int .u64 (U b1)]) (by repeat' first | with_reducible exact HB.out | with_reducible refine Blk.other ?_ _ ?_ | omega | with_reducible refine Blk.drew ?_ | (with_reducible refine Blk.at _ _ _ ?_; (simp <;> fail)) | with_reducible refine Blk.alloc ?_ _) hb3
  have bR := Blk.keep (n := w.heap.size + 1 + 1) (t := 43) (cs := #[.int .u64 (U c0), .int .u64 (U c1), .int .u64 (0), .int .u64 (0)]) (by repeat' first | with_reducible exact HR.out | (with_reducible apply Blk.fill4; with_reducible exact HR.out) | (with_reducible apply Blk.fill4a; with_reducible exact HR.out) | (with_reducible apply Blk.fill4b; with_reducible exact HR.out) | with_reducible refine Blk.other ?_ _ ?_ | omega | with_reducible refine Blk.drew ?_ | (with_reducible refine Blk.at _ _ _ ?_; (simp <;> fail)) | with_reducible refine Blk.alloc ?_ _) hb3
  have bM := Blk.keep (n := w1.heap.size) (t := 24) (cs := #[.int .u64 (U m0), .int .u64 (U m1)]) (by repeat' first | with_reducible exact HM.out | with_reducible refine Blk.other ?_ _ ?_ | omega | with_reducible refine Blk.drew ?_ | (with_reducible refine Blk.at _ _ _ ?_; (simp <;> fail)) | with_reducible refine Blk.alloc ?_ _) hb3
  have bT := Blk.keep (n := w1.heap.size + 1) (t := 24) (cs := #[.int .u64 (U g0), .int .u64 (U g1)]) (by repeat' first | with_reducible exact HT.out | with_reducible refine Blk.other ?_ _ ?_ | omega | with_reducible refine Blk.drew ?_ | (with_reducible refine Blk.at _ _ _ ?_; (simp <;> fail)) | with_reducible refine Blk.alloc ?_ _) hb3
  have hBN := Below.step (w := w) (by repeat' first | with_reducible exact HBel.out | with_reducible exact Below.refl _ _ | with_reducible refine Below.drew ?_ | with_reducible refine below_drewN ?_ _ | with_reducible refine Below.setCell ?_ ?_ _ | with_reducible refine Below.alloc ?_ ?_ _ | (dsimp only; omega) | (simp <;> fail) | (have := HBel.out.size; simp; omega)) hb3
  clear cK HK lK cB HB lB cR HR lR fR0 fR1 fR2 fR3 cM HM lM cT HT lT HBel hb3
  have cK := bK.two
  have HK := mkHid bK
  have lK := bK.lt
  clear bK
  have cB := bB.two
  have HB := mkHid bB
  have lB := bB.lt
  clear bB
  have cR := bR.four
  have HR := mkHid bR
  have lR := bR.lt
  have fR0 := bR.frozen 0
  have fR1 := bR.frozen 1
  have fR2 := bR.frozen 2
  have fR3 := bR.frozen 3
  clear bR
  have cM := bM.two
  have HM := mkHid bM
  have lM := bM.lt
  clear bM
  have cT := bT.two
  have HT := mkHid bT
  have lT := bT.lt
  clear bT
  have HBel := mkHid hBN
  clear hBN
  go_wp2_with fail
  have qR : Blk (((((((w3).setCell ⟨w.heap.size + 1 + 1, 2, none⟩ (.int .u64 (U t0))).setCell ⟨w.heap.size + 1 + 1, 3, none⟩ (.int .u64 (U t1))).setCell ⟨w.heap.size + 1 + 1, 0, none⟩ (.int .u64 (U c0))).setCell ⟨w.heap.size + 1 + 1, 1, none⟩ (.int .u64 (U c1))).setCell ⟨w.heap.size + 1 + 1, 2, none⟩ (.int .u64 (U t0))).setCell ⟨w.heap.size + 1 + 1, 3, none⟩ (.int .u64 (U t1))) (w.heap.size + 1 + 1) 43 #[.int .u64 (U c0), .int .u64 (U c1), .int .u64 (U t0), .int .u64 (U t1)] := (by repeat' first | with_reducible exact HR.out | (with_reducible refine Blk.at _ _ _ ?_; (simp <;> fail)) | (with_reducible apply Blk.fill4) | (with_reducible apply Blk.fill4a) | (with_reducible apply Blk.fill4b) | with_reducible refine Blk.other ?_ _ ?_ | omega | with_reducible refine Blk.drew ?_ | with_reducible refine Blk.alloc ?_ _)
  have qR' := qR.four
  refine bodyPost_ret (v := .agg #[.int .u64 (U c0), .int .u64 (U c1), .int .u64 (U t0), .int .u64 (U t1)]) (by simp [results, Try.results31, go_sem, qR']) rfl ⟨rfl, ?_⟩
  exact (by repeat' first | with_reducible exact HBel.out | with_reducible exact Below.refl _ _ | with_reducible refine Below.drew ?_ | with_reducible refine below_drewN ?_ _ | with_reducible refine Below.setCell ?_ ?_ _ | with_reducible refine Below.alloc ?_ ?_ _ | (dsimp only; omega) | (simp <;> fail) | (have := HBel.out.size; simp; omega))

set_option maxRecDepth 100000 in
set_option maxHeartbeats 1000000 in
theorem unwrap_yes {k0 k1 c0 c1 t0 t1 b0 b1 : BitVec 64} (hb : Hid (hideB (k0, k1) (c0, c1) = (b0, b1))) (h : Hid (tagB (k0, k1) (c0, c1) = (t0, t1))) (w : World) :
    Calls Try.prog 32 #[.agg #[.int .u64 (U k0), .int .u64 (U k1)], .agg #[.int .u64 (U c0), .int .u64 (U c1), .int .u64 (U t0), .int .u64 (U t1)]] w fun e w' => e = .returned (.tuple #[.agg #[.int .u64 (U b0), .int .u64 (U b1)], .int .i64 0]) ∧ Below w.heap.size w w' := by
  have hq := eq_blocks
  have hq4 := eq_sealed
  obtain ⟨m0, m1, hm⟩ := pair_ex (partB 3 (k0, k1))
  obtain ⟨g0, g1, hg⟩ := pair_ex (partB 4 (k0, k1))
  have h2 := hb.out
  unfold hideB xorB at h2
  rw [hm] at h2
  have e0 : U (c0 ^^^ m0) = U b0 := congrArg U (congrArg Prod.fst h2)
  have e1 : U (c1 ^^^ m1) = U b1 := congrArg U (congrArg Prod.snd h2)
  have K1 := mkHid hm
  have K2 := mkHid hg
  have E0 := mkHid e0
  have E1 := mkHid e1
  have K3 : Hid (hideB (k0, k1) (b0, b1) = (c0, c1)) := mkHid (by rw [← hb.out, hide_back])
  clear hm hg h2 e0 e1
  go_enter Try.func32, Try.ntmps32
  go_wp2_with fail
  refine (parts_eq K1 K2 _).mono ?_
  rintro e w1 ⟨rfl, hb1⟩
  have bK := Blk.keep (n := w.heap.size) (t := 24) (cs := #[.int .u64 (U k0), .int .u64 (U k1)]) (by repeat' first | with_reducible refine Blk.drew ?_ | (with_reducible refine Blk.at _ _ _ ?_; (simp <;> fail)) | with_reducible refine Blk.alloc ?_ _) hb1
  have bS := Blk.keep (n := w.heap.size + 1) (t := 43) (cs := #[.int .u64 (U c0), .int .u64 (U c1), .int .u64 (U t0), .int .u64 (U t1)]) (by repeat' first | with_reducible refine Blk.drew ?_ | (with_reducible refine Blk.at _ _ _ ?_; (simp <;> fail)) | with_reducible refine Blk.alloc ?_ _) hb1
  have bR := Blk.keep (n := w.heap.size + 1 + 1) (t := 24) (cs := #[.int .u64 (0), .int .u64 (0)]) (by repeat' first | with_reducible refine Blk.drew ?_ | (with_reducible refine Blk.at _ _ _ ?_; (simp <;> fail)) | with_reducible refine Blk.alloc ?_ _) hb1
  have hBN := Below.step (w := w) (by repeat' first | with_reducible exact Below.refl _ _ | with_reducible refine Below.drew ?_ | with_reducible refine below_drewN ?_ _ | with_reducible refine Below.setCell ?_ ?_ _ | with_reducible refine Below.alloc ?_ ?_ _ | (dsimp only; omega) | (simp <;> fail) | (simp; omega)) hb1
  clear hb1
  have cK := bK.two
  have HK := mkHid bK
  have lK := bK.lt
  clear bK
  have cS := bS.four
  have HS := mkHid bS
  have lS := bS.lt
  clear bS
  have cR := bR.two
  have HR := mkHid bR
  have lR := bR.lt
  have fR0 := bR.frozen 0
  have fR1 := bR.frozen 1
  clear bR
  have HBel := mkHid hBN
  clear hBN
  go_wp2_with fail
  have dMK : w.heap.size < w1.heap.size := lK
  have dMS : w.heap.size + 1 < w1.heap.size := lS
  have dMR : w.heap.size + 1 + 1 < w1.heap.size := lR
  have dTK : w.heap.size < w1.heap.size := lK
  have dTS : w.heap.size + 1 < w1.heap.size := lS
  have dTR : w.heap.size + 1 + 1 < w1.heap.size := lR
  refine (xor_to rfl rfl rfl rfl E0.out E1.out _).mono ?_
  rintro e w2 ⟨rfl, hb2⟩
  have bK := Blk.keep (n := w.heap.size) (t := 24) (cs := #[.int .u64 (U k0), .int .u64 (U k1)]) (by repeat' first | with_reducible exact HK.out | with_reducible refine Blk.drew ?_ | (with_reducible refine Blk.at _ _ _ ?_; (simp <;> fail)) | with_reducible refine Blk.alloc ?_ _) hb2
  have bS := Blk.keep (n := w.heap.size + 1) (t := 43) (cs := #[.int .u64 (U c0), .int .u64 (U c1), .int .u64 (U t0), .int .u64 (U t1)]) (by repeat' first | with_reducible exact HS.out | with_reducible refine Blk.drew ?_ | (with_reducible refine Blk.at _ _ _ ?_; (simp <;> fail)) | with_reducible refine Blk.alloc ?_ _) hb2
  have bR := Blk.keep (n := w.heap.size + 1 + 1) (t := 24) (cs := #[.int .u64 (0), .int .u64 (0)]) (by repeat' first | with_reducible exact HR.out | with_reducible refine Blk.drew ?_ | (with_reducible refine Blk.at _ _ _ ?_; (simp <;> fail)) | with_reducible refine Blk.alloc ?_ _) hb2
  have bM := Blk.keep (n := w1.heap.size) (t := 24) (cs := #[.int .u64 (U m0), .int .u64 (U m1)]) (by repeat' first | with_reducible refine Blk.drew ?_ | (with_reducible refine Blk.at _ _ _ ?_; (simp <;> fail)) | with_reducible refine Blk.alloc ?_ _) hb2
  have bT := Blk.keep (n := w1.heap.size + 1) (t := 24) (cs := #[.int .u64 (U g0), .int .u64 (U g1)]) (by repeat' first | with_reducible refine Blk.drew ?_ | (with_reducible refine Blk.at _ _ _ ?_; (simp <;> fail)) | with_reducible refine Blk.alloc ?_ _) hb2
  have hBN := Below.step (w := w) (by repeat' first | with_reducible exact HBel.out | with_reducible exact Below.refl _ _ | with_reducible refine Below.drew ?_ | with_reducible refine below_drewN ?_ _ | with_reducible refine Below.setCell ?_ ?_ _ | with_reducible refine Below.alloc ?_ ?_ _ | (dsimp only; omega) | (simp <;> fail) | (have := HBel.out.size; simp; omega)) hb2
  clear cK HK lK cS HS lS cR HR lR fR0 fR1 HBel hb2
  have cK := bK.two
  have HK := mkHid bK
  have lK := bK.lt
  clear bK
  have cS := bS.four
  have HS := mkHid bS
  have lS := bS.lt
  clear bS
  have cR := bR.two
  have HR := mkHid bR
  have lR := bR.lt
  have fR0 := bR.frozen 0
  have fR1 := bR.frozen 1
  clear bR
  have cM := bM.two
  have HM := mkHid bM
  have lM := bM.lt
  clear bM
  have cT := bT.two
  have HT := mkHid bT
  have lT := bT.lt
  clear bT
  have HBel := mkHid hBN
  clear hBN
  go_wp2_with fail
  have dBK : w.heap.size < w2.heap.size := lK
  have dBS : w.heap.size + 1 < w2.heap.size := lS
  have dBR : w.heap.size + 1 + 1 < w2.heap.size := lR
  have dBM : w1.heap.size < w2.heap.size := lM
  have dBT : w1.heap.size + 1 < w2.heap.size := lT
  have fA0 : ∀ o, ((w2.alloc o).drew).frozen? ⟨w.heap.size + 1 + 1, 0, none⟩ = false := fun o => (World.frozen?_alloc_past o _ 0 lR).trans fR0
  have fA1 : ∀ o, ((w2.alloc o).drew).frozen? ⟨w.heap.size + 1 + 1, 1, none⟩ = false := fun o => (World.frozen?_alloc_past o _ 1 lR).trans fR1
  have HBel0 := mkHid (HBel.out.alloc HBel.out.size (.cells #[.int .u64 (U b0), .int .u64 (U b1)] 24)).drew
  go_region_held3 (fun w' => w'.cell? ⟨w.heap.size, 0, none⟩ = some (.int .u64 (U k0)) ∧ w'.cell? ⟨w.heap.size, 1, none⟩ = some (.int .u64 (U k1)) ∧ w'.cell? ⟨w.heap.size + 1, 0, none⟩ = some (.int .u64 (U c0)) ∧ w'.cell? ⟨w.heap.size + 1, 1, none⟩ = some (.int .u64 (U c1)) ∧ w'.cell? ⟨w.heap.size + 1, 2, none⟩ = some (.int .u64 (U t0)) ∧ w'.cell? ⟨w.heap.size + 1, 3, none⟩ = some (.int .u64 (U t1)) ∧ w'.cell? ⟨w.heap.size + 1 + 1, 0, none⟩ = some (.int .u64 (0)) ∧ w'.cell? ⟨w.heap.size + 1 + 1, 1, none⟩ = some (.int .u64 (0)) ∧ w'.cell? ⟨w1.heap.size, 0, none⟩ = some (.int .u64 (U m0)) ∧ w'.cell? ⟨w1.heap.size, 1, none⟩ = some (.int .u64 (U m1)) ∧ w'.cell? ⟨w1.heap.size + 1, 0, none⟩ = some (.int .u64 (U g0)) ∧ w'.cell? ⟨w1.heap.size + 1, 1, none⟩ = some (.int .u64 (U g1)) ∧ w'.cell? ⟨w2.heap.size, 0, none⟩ = some (.int .u64 (U b0)) ∧ w'.cell? ⟨w2.heap.size, 1, none⟩ = some (.int .u64 (U b1)))
    (first | ((try dsimp only); (try go_split_ands); refine ⟨?_, ?_, ?_, ?_, ?_, ?_, ?_, ?_, ?_, ?_, ?_, ?_, ?_, ?_⟩ <;> assumption) | (go_keep; done))
    (first
        | (go_at_call 31; ((with_reducible refine (wrap_eq K3 h _).mono ?_); (try go_split_ands); rintro e wn ⟨rfl, hbn⟩; have fc0 := keeps hbn (p := ⟨w.heap.size, 0, none⟩) (v := .int .u64 (U k0)) (by first | assumption | (simp [*] <;> fail)); have fc1 := keeps hbn (p := ⟨w.heap.size, 1, none⟩) (v := .int .u64 (U k1)) (by first | assumption | (simp [*] <;> fail)); have fc2 := keeps hbn (p := ⟨w.heap.size + 1, 0, none⟩) (v := .int .u64 (U c0)) (by first | assumption | (simp [*] <;> fail)); have fc3 := keeps hbn (p := ⟨w.heap.size + 1, 1, none⟩) (v := .int .u64 (U c1)) (by first | assumption | (simp [*] <;> fail)); have fc4 := keeps hbn (p := ⟨w.heap.size + 1, 2, none⟩) (v := .int .u64 (U t0)) (by first | assumption | (simp [*] <;> fail)); have fc5 := keeps hbn (p := ⟨w.heap.size + 1, 3, none⟩) (v := .int .u64 (U t1)) (by first | assumption | (simp [*] <;> fail)); have fc6 := keeps hbn (p := ⟨w.heap.size + 1 + 1, 0, none⟩) (v := .int .u64 (0)) (by first | assumption | (simp [*] <;> fail)); have fc7 := keeps hbn (p := ⟨w.heap.size + 1 + 1, 1, none⟩) (v := .int .u64 (0)) (by first | assumption | (simp [*] <;> fail)); have fc8 := keeps hbn (p := ⟨w1.heap.size, 0, none⟩) (v := .int .u64 (U m0)) (by first | assumption | (simp [*] <;> fail)); have fc9 := keeps hbn (p := ⟨w1.heap.size, 1, none⟩) (v := .int .u64 (U m1)) (by first | assumption | (simp [*] <;> fail)); have fc10 := keeps hbn (p := ⟨w1.heap.size + 1, 0, none⟩) (v := .int .u64 (U g0)) (by first | assumption | (simp [*] <;> fail)); have fc11 := keeps hbn (p := ⟨w1.heap.size + 1, 1, none⟩) (v := .int .u64 (U g1)) (by first | assumption | (simp [*] <;> fail)); have fc12 := keeps hbn (p := ⟨w2.heap.size, 0, none⟩) (v := .int .u64 (U b0)) (by first | assumption | (simp [*] <;> fail)); have fc13 := keeps hbn (p := ⟨w2.heap.size, 1, none⟩) (v := .int .u64 (U b1)) (by first | assumption | (simp [*] <;> fail)); have hBn := mkHid (Below.step (w := w) (Hid.out (by assumption)) hbn); have fz0 := keepsF hbn (p := ⟨w.heap.size + 1 + 1, 0, none⟩) (v := .int .u64 0) (by first | assumption | simp [*]) (fA0 _); have fz1 := keepsF hbn (p := ⟨w.heap.size + 1 + 1, 1, none⟩) (v := .int .u64 0) (by first | assumption | simp [*]) (fA1 _))))
  go_wp2_with fail
  have hR0 : (((wn).setCell ⟨w.heap.size + 1 + 1, 0, none⟩ (.int .u64 (U b0))).setCell ⟨w.heap.size + 1 + 1, 1, none⟩ (.int .u64 (U b1))).cell? ⟨w.heap.size + 1 + 1, 0, none⟩ = some (.int .u64 (U b0)) := fill_cell0 (u0 := .int .u64 0) (u1 := .int .u64 0) (by assumption) (by assumption)
  have hR1 : (((wn).setCell ⟨w.heap.size + 1 + 1, 0, none⟩ (.int .u64 (U b0))).setCell ⟨w.heap.size + 1 + 1, 1, none⟩ (.int .u64 (U b1))).cell? ⟨w.heap.size + 1 + 1, 1, none⟩ = some (.int .u64 (U b1)) := fill_cell1 (u0 := .int .u64 0) (u1 := .int .u64 0) (by assumption) (by assumption)
  refine bodyPost_ret (v := .tuple #[.agg #[.int .u64 (U b0), .int .u64 (U b1)], .int .i64 0]) (by simp [results, Try.results32, go_sem, hR0, hR1]) rfl ⟨rfl, ?_⟩
  exact ((hBn.out.setCell (by dsimp only; omega) _).setCell (by dsimp only; omega) _)

set_option maxRecDepth 100000 in
set_option maxHeartbeats 1000000 in
theorem unwrap_no {k0 k1 c0 c1 t0 t1 r0 r1 : BitVec 64} (h : Hid (tagB (k0, k1) (c0, c1) = (r0, r1))) (hne : (U r0 == U t0 && U r1 == U t1) = false) (w : World) :
    Calls Try.prog 32 #[.agg #[.int .u64 (U k0), .int .u64 (U k1)], .agg #[.int .u64 (U c0), .int .u64 (U c1), .int .u64 (U t0), .int .u64 (U t1)]] w fun e w' => e = .returned (.tuple #[.agg #[.int .u64 0, .int .u64 0], .int .i64 7]) ∧ Below w.heap.size w w' := by
  have hq := eq_blocks
  obtain ⟨b0, b1, hb'⟩ := pair_ex (hideB (k0, k1) (c0, c1))
  have hb := mkHid hb'
  clear hb'
  have hq4 := eq_sealed
  obtain ⟨m0, m1, hm⟩ := pair_ex (partB 3 (k0, k1))
  obtain ⟨g0, g1, hg⟩ := pair_ex (partB 4 (k0, k1))
  have h2 := hb.out
  unfold hideB xorB at h2
  rw [hm] at h2
  have e0 : U (c0 ^^^ m0) = U b0 := congrArg U (congrArg Prod.fst h2)
  have e1 : U (c1 ^^^ m1) = U b1 := congrArg U (congrArg Prod.snd h2)
  have K1 := mkHid hm
  have K2 := mkHid hg
  have E0 := mkHid e0
  have E1 := mkHid e1
  have K3 : Hid (hideB (k0, k1) (b0, b1) = (c0, c1)) := mkHid (by rw [← hb.out, hide_back])
  clear hm hg h2 e0 e1
  go_enter Try.func32, Try.ntmps32
  go_wp2_with fail
  refine (parts_eq K1 K2 _).mono ?_
  rintro e w1 ⟨rfl, hb1⟩
  have bK := Blk.keep (n := w.heap.size) (t := 24) (cs := #[.int .u64 (U k0), .int .u64 (U k1)]) (by repeat' first | with_reducible refine Blk.drew ?_ | (with_reducible refine Blk.at _ _ _ ?_; (simp <;> fail)) | with_reducible refine Blk.alloc ?_ _) hb1
  have bS := Blk.keep (n := w.heap.size + 1) (t := 43) (cs := #[.int .u64 (U c0), .int .u64 (U c1), .int .u64 (U t0), .int .u64 (U t1)]) (by repeat' first | with_reducible refine Blk.drew ?_ | (with_reducible refine Blk.at _ _ _ ?_; (simp <;> fail)) | with_reducible refine Blk.alloc ?_ _) hb1
  have bR := Blk.keep (n := w.heap.size + 1 + 1) (t := 24) (cs := #[.int .u64 (0), .int .u64 (0)]) (by repeat' first | with_reducible refine Blk.drew ?_ | (with_reducible refine Blk.at _ _ _ ?_; (simp <;> fail)) | with_reducible refine Blk.alloc ?_ _) hb1
  have hBN := Below.step (w := w) (by repeat' first | with_reducible exact Below.refl _ _ | with_reducible refine Below.drew ?_ | with_reducible refine below_drewN ?_ _ | with_reducible refine Below.setCell ?_ ?_ _ | with_reducible refine Below.alloc ?_ ?_ _ | (dsimp only; omega) | (simp <;> fail) | (simp; omega)) hb1
  clear hb1
  have cK := bK.two
  have HK := mkHid bK
  have lK := bK.lt
  clear bK
  have cS := bS.four
  have HS := mkHid bS
  have lS := bS.lt
  clear bS
  have cR := bR.two
  have HR := mkHid bR
  have lR := bR.lt
  have fR0 := bR.frozen 0
  have fR1 := bR.frozen 1
  clear bR
  have HBel := mkHid hBN
  clear hBN
  go_wp2_with fail
  have dMK : w.heap.size < w1.heap.size := lK
  have dMS : w.heap.size + 1 < w1.heap.size := lS
  have dMR : w.heap.size + 1 + 1 < w1.heap.size := lR
  have dTK : w.heap.size < w1.heap.size := lK
  have dTS : w.heap.size + 1 < w1.heap.size := lS
  have dTR : w.heap.size + 1 + 1 < w1.heap.size := lR
  refine (xor_to rfl rfl rfl rfl E0.out E1.out _).mono ?_
  rintro e w2 ⟨rfl, hb2⟩
  have bK := Blk.keep (n := w.heap.size) (t := 24) (cs := #[.int .u64 (U k0), .int .u64 (U k1)]) (by repeat' first | with_reducible exact HK.out | with_reducible refine Blk.drew ?_ | (with_reducible refine Blk.at _ _ _ ?_; (simp <;> fail)) | with_reducible refine Blk.alloc ?_ _) hb2
  have bS := Blk.keep (n := w.heap.size + 1) (t := 43) (cs := #[.int .u64 (U c0), .int .u64 (U c1), .int .u64 (U t0), .int .u64 (U t1)]) (by repeat' first | with_reducible exact HS.out | with_reducible refine Blk.drew ?_ | (with_reducible refine Blk.at _ _ _ ?_; (simp <;> fail)) | with_reducible refine Blk.alloc ?_ _) hb2
  have bR := Blk.keep (n := w.heap.size + 1 + 1) (t := 24) (cs := #[.int .u64 (0), .int .u64 (0)]) (by repeat' first | with_reducible exact HR.out | with_reducible refine Blk.drew ?_ | (with_reducible refine Blk.at _ _ _ ?_; (simp <;> fail)) | with_reducible refine Blk.alloc ?_ _) hb2
  have bM := Blk.keep (n := w1.heap.size) (t := 24) (cs := #[.int .u64 (U m0), .int .u64 (U m1)]) (by repeat' first | with_reducible refine Blk.drew ?_ | (with_reducible refine Blk.at _ _ _ ?_; (simp <;> fail)) | with_reducible refine Blk.alloc ?_ _) hb2
  have bT := Blk.keep (n := w1.heap.size + 1) (t := 24) (cs := #[.int .u64 (U g0), .int .u64 (U g1)]) (by repeat' first | with_reducible refine Blk.drew ?_ | (with_reducible refine Blk.at _ _ _ ?_; (simp <;> fail)) | with_reducible refine Blk.alloc ?_ _) hb2
  have hBN := Below.step (w := w) (by repeat' first | with_reducible exact HBel.out | with_reducible exact Below.refl _ _ | with_reducible refine Below.drew ?_ | with_reducible refine below_drewN ?_ _ | with_reducible refine Below.setCell ?_ ?_ _ | with_reducible refine Below.alloc ?_ ?_ _ | (dsimp only; omega) | (simp <;> fail) | (have := HBel.out.size; simp; omega)) hb2
  clear cK HK lK cS HS lS cR HR lR fR0 fR1 HBel hb2
  have cK := bK.two
  have HK := mkHid bK
  have lK := bK.lt
  clear bK
  have cS := bS.four
  have HS := mkHid bS
  have lS := bS.lt
  clear bS
  have cR := bR.two
  have HR := mkHid bR
  have lR := bR.lt
  have fR0 := bR.frozen 0
  have fR1 := bR.frozen 1
  clear bR
  have cM := bM.two
  have HM := mkHid bM
  have lM := bM.lt
  clear bM
  have cT := bT.two
  have HT := mkHid bT
  have lT := bT.lt
  clear bT
  have HBel := mkHid hBN
  clear hBN
  go_wp2_with fail
  have dBK : w.heap.size < w2.heap.size := lK
  have dBS : w.heap.size + 1 < w2.heap.size := lS
  have dBR : w.heap.size + 1 + 1 < w2.heap.size := lR
  have dBM : w1.heap.size < w2.heap.size := lM
  have dBT : w1.heap.size + 1 < w2.heap.size := lT
  have fA0 : ∀ o, ((w2.alloc o).drew).frozen? ⟨w.heap.size + 1 + 1, 0, none⟩ = false := fun o => (World.frozen?_alloc_past o _ 0 lR).trans fR0
  have fA1 : ∀ o, ((w2.alloc o).drew).frozen? ⟨w.heap.size + 1 + 1, 1, none⟩ = false := fun o => (World.frozen?_alloc_past o _ 1 lR).trans fR1
  have HBel0 := mkHid (HBel.out.alloc HBel.out.size (.cells #[.int .u64 (U b0), .int .u64 (U b1)] 24)).drew
  go_region_held3 (fun w' => w'.cell? ⟨w.heap.size, 0, none⟩ = some (.int .u64 (U k0)) ∧ w'.cell? ⟨w.heap.size, 1, none⟩ = some (.int .u64 (U k1)) ∧ w'.cell? ⟨w.heap.size + 1, 0, none⟩ = some (.int .u64 (U c0)) ∧ w'.cell? ⟨w.heap.size + 1, 1, none⟩ = some (.int .u64 (U c1)) ∧ w'.cell? ⟨w.heap.size + 1, 2, none⟩ = some (.int .u64 (U t0)) ∧ w'.cell? ⟨w.heap.size + 1, 3, none⟩ = some (.int .u64 (U t1)) ∧ w'.cell? ⟨w.heap.size + 1 + 1, 0, none⟩ = some (.int .u64 (0)) ∧ w'.cell? ⟨w.heap.size + 1 + 1, 1, none⟩ = some (.int .u64 (0)) ∧ w'.cell? ⟨w1.heap.size, 0, none⟩ = some (.int .u64 (U m0)) ∧ w'.cell? ⟨w1.heap.size, 1, none⟩ = some (.int .u64 (U m1)) ∧ w'.cell? ⟨w1.heap.size + 1, 0, none⟩ = some (.int .u64 (U g0)) ∧ w'.cell? ⟨w1.heap.size + 1, 1, none⟩ = some (.int .u64 (U g1)) ∧ w'.cell? ⟨w2.heap.size, 0, none⟩ = some (.int .u64 (U b0)) ∧ w'.cell? ⟨w2.heap.size, 1, none⟩ = some (.int .u64 (U b1)))
    (first | ((try dsimp only); (try go_split_ands); refine ⟨?_, ?_, ?_, ?_, ?_, ?_, ?_, ?_, ?_, ?_, ?_, ?_, ?_, ?_⟩ <;> assumption) | (go_keep; done))
    (first
        | (go_at_call 31; ((with_reducible refine (wrap_eq K3 h _).mono ?_); (try go_split_ands); rintro e wn ⟨rfl, hbn⟩; have fc0 := keeps hbn (p := ⟨w.heap.size, 0, none⟩) (v := .int .u64 (U k0)) (by first | assumption | (simp [*] <;> fail)); have fc1 := keeps hbn (p := ⟨w.heap.size, 1, none⟩) (v := .int .u64 (U k1)) (by first | assumption | (simp [*] <;> fail)); have fc2 := keeps hbn (p := ⟨w.heap.size + 1, 0, none⟩) (v := .int .u64 (U c0)) (by first | assumption | (simp [*] <;> fail)); have fc3 := keeps hbn (p := ⟨w.heap.size + 1, 1, none⟩) (v := .int .u64 (U c1)) (by first | assumption | (simp [*] <;> fail)); have fc4 := keeps hbn (p := ⟨w.heap.size + 1, 2, none⟩) (v := .int .u64 (U t0)) (by first | assumption | (simp [*] <;> fail)); have fc5 := keeps hbn (p := ⟨w.heap.size + 1, 3, none⟩) (v := .int .u64 (U t1)) (by first | assumption | (simp [*] <;> fail)); have fc6 := keeps hbn (p := ⟨w.heap.size + 1 + 1, 0, none⟩) (v := .int .u64 (0)) (by first | assumption | (simp [*] <;> fail)); have fc7 := keeps hbn (p := ⟨w.heap.size + 1 + 1, 1, none⟩) (v := .int .u64 (0)) (by first | assumption | (simp [*] <;> fail)); have fc8 := keeps hbn (p := ⟨w1.heap.size, 0, none⟩) (v := .int .u64 (U m0)) (by first | assumption | (simp [*] <;> fail)); have fc9 := keeps hbn (p := ⟨w1.heap.size, 1, none⟩) (v := .int .u64 (U m1)) (by first | assumption | (simp [*] <;> fail)); have fc10 := keeps hbn (p := ⟨w1.heap.size + 1, 0, none⟩) (v := .int .u64 (U g0)) (by first | assumption | (simp [*] <;> fail)); have fc11 := keeps hbn (p := ⟨w1.heap.size + 1, 1, none⟩) (v := .int .u64 (U g1)) (by first | assumption | (simp [*] <;> fail)); have fc12 := keeps hbn (p := ⟨w2.heap.size, 0, none⟩) (v := .int .u64 (U b0)) (by first | assumption | (simp [*] <;> fail)); have fc13 := keeps hbn (p := ⟨w2.heap.size, 1, none⟩) (v := .int .u64 (U b1)) (by first | assumption | (simp [*] <;> fail)); have hBn := mkHid (Below.step (w := w) (Hid.out (by assumption)) hbn); have fz0 := keepsF hbn (p := ⟨w.heap.size + 1 + 1, 0, none⟩) (v := .int .u64 0) (by first | assumption | simp [*]) (fA0 _); have fz1 := keepsF hbn (p := ⟨w.heap.size + 1 + 1, 1, none⟩) (v := .int .u64 0) (by first | assumption | simp [*]) (fA1 _))))
  go_wp2_with fail
  have hR0 : (((wn).setCell ⟨w.heap.size + 1 + 1, 0, none⟩ (.int .u64 (0))).setCell ⟨w.heap.size + 1 + 1, 1, none⟩ (.int .u64 (0))).cell? ⟨w.heap.size + 1 + 1, 0, none⟩ = some (.int .u64 (0)) := fill_cell0 (u0 := .int .u64 0) (u1 := .int .u64 0) (by assumption) (by assumption)
  have hR1 : (((wn).setCell ⟨w.heap.size + 1 + 1, 0, none⟩ (.int .u64 (0))).setCell ⟨w.heap.size + 1 + 1, 1, none⟩ (.int .u64 (0))).cell? ⟨w.heap.size + 1 + 1, 1, none⟩ = some (.int .u64 (0)) := fill_cell1 (u0 := .int .u64 0) (u1 := .int .u64 0) (by assumption) (by assumption)
  refine bodyPost_ret (v := .tuple #[.agg #[.int .u64 0, .int .u64 0], .int .i64 7]) (by simp [results, Try.results32, go_sem, hR0, hR1]) rfl ⟨rfl, ?_⟩
  exact ((hBn.out.setCell (by dsimp only; omega) _).setCell (by dsimp only; omega) _)
end Go.Proofs.Ytdaodopeodheeaa
