/- 'ModelDoes' is true for every input, part 3 of its proof: words, contracts and plain laws. No condition. -/
import Derived.Test.YtmehbonjpmlmfaaMModelDoes2
import Derived.ProofKit
import Derived.OpenShut
import Derived.ShutString
import Derived.ChangeOld
import Derived.ChangeSame
import Derived.SizedLaws
import Derived.Lib.SmallJoins
import Derived.Deep.SlicePairs
import Derived.Deep.Slices
import Derived.ChangeKeysEq
namespace Go.Proofs.Ytmehbonjpmlmfaa
open Go.RowKit

set_option linter.unusedSimpArgs false in
set_option maxRecDepth 100000 in
set_option maxHeartbeats 4000000 in
theorem do2_err {m : ModD} {i : Nat} {n : Int} {p1 p2 : BitVec 64} (e : Hid ((if okM m then (0 : Int) else 1) = 0)) {L : List Nat} {r : Int} (f : Hid (withoutAll m.h m.l i = (L, r))) (r0 : r ≠ 0) (r6 : r ≠ 6)  (A : Option Addr) (c : Nat) (B : Option Addr) (d : Nat) (w : World) (hM : MemM w A c B d m) :
    Calls Try.prog 29 #[.agg #[.int .i64 m.h, .int .i64 m.cap, .slice A m.l.length c, .int .i64 m.n, .int .i64 m.draws, .slice B m.sent.length d], .agg #[.int .i64 2, .int .u64 (i : Int), .int .i64 n, .int .u64 (p1.toNat : Int), .int .u64 (p2.toNat : Int)]] w (DoPost m (ansE r) 0 w) := by
  have HS := mkHid (okM_sizes (m := m) (by cases hk : okM m with | true => rfl | false => exact absurd e.out (by rw [hk]; simp)))
  skip
  have ZX : Hid (Blk ((((w.alloc (.cells #[.int .i64 m.h, .int .i64 m.cap, .slice A m.l.length c, .int .i64 m.n, .int .i64 m.draws, .slice B m.sent.length d] 45)).alloc (.cells #[.int .i64 2, .int .u64 (i : Int), .int .i64 n, .int .u64 (p1.toNat : Int), .int .u64 (p2.toNat : Int)] 53)).alloc (.cells #[.int .i64 0, .int .i64 0, .slice none 0 0, .int .i64 0, .int .i64 0, .slice none 0 0] 45)).alloc (.cells #[.int .i64 0, .int .i64 0, .int .i64 0, .int .u64 0, .int .u64 0] 55)) w.heap.size 45 #[.int .i64 m.h, .int .i64 m.cap, .slice A m.l.length c, .int .i64 m.n, .int .i64 m.draws, .slice B m.sent.length d]) := mkHid ((((Blk.new _ _ _).alloc _).alloc _).alloc _)
  have ZP : Hid (Blk ((((w.alloc (.cells #[.int .i64 m.h, .int .i64 m.cap, .slice A m.l.length c, .int .i64 m.n, .int .i64 m.draws, .slice B m.sent.length d] 45)).alloc (.cells #[.int .i64 2, .int .u64 (i : Int), .int .i64 n, .int .u64 (p1.toNat : Int), .int .u64 (p2.toNat : Int)] 53)).alloc (.cells #[.int .i64 0, .int .i64 0, .slice none 0 0, .int .i64 0, .int .i64 0, .slice none 0 0] 45)).alloc (.cells #[.int .i64 0, .int .i64 0, .int .i64 0, .int .u64 0, .int .u64 0] 55)) (w.heap.size + 1) 53 #[.int .i64 2, .int .u64 (i : Int), .int .i64 n, .int .u64 (p1.toNat : Int), .int .u64 (p2.toNat : Int)]) := mkHid (((Blk.at _ _ _ (by simp)).alloc _).alloc _)
  have ZZ : Hid (Blk ((((w.alloc (.cells #[.int .i64 m.h, .int .i64 m.cap, .slice A m.l.length c, .int .i64 m.n, .int .i64 m.draws, .slice B m.sent.length d] 45)).alloc (.cells #[.int .i64 2, .int .u64 (i : Int), .int .i64 n, .int .u64 (p1.toNat : Int), .int .u64 (p2.toNat : Int)] 53)).alloc (.cells #[.int .i64 0, .int .i64 0, .slice none 0 0, .int .i64 0, .int .i64 0, .slice none 0 0] 45)).alloc (.cells #[.int .i64 0, .int .i64 0, .int .i64 0, .int .u64 0, .int .u64 0] 55)) (w.heap.size + 1 + 1) 45 #[.int .i64 0, .int .i64 0, .slice none 0 0, .int .i64 0, .int .i64 0, .slice none 0 0]) := mkHid ((Blk.at _ _ _ (by simp)).alloc _)
  have ZA : Hid (Blk ((((w.alloc (.cells #[.int .i64 m.h, .int .i64 m.cap, .slice A m.l.length c, .int .i64 m.n, .int .i64 m.draws, .slice B m.sent.length d] 45)).alloc (.cells #[.int .i64 2, .int .u64 (i : Int), .int .i64 n, .int .u64 (p1.toNat : Int), .int .u64 (p2.toNat : Int)] 53)).alloc (.cells #[.int .i64 0, .int .i64 0, .slice none 0 0, .int .i64 0, .int .i64 0, .slice none 0 0] 45)).alloc (.cells #[.int .i64 0, .int .i64 0, .int .i64 0, .int .u64 0, .int .u64 0] 55)) (w.heap.size + 1 + 1 + 1) 55 #[.int .i64 0, .int .i64 0, .int .i64 0, .int .u64 0, .int .u64 0]) := mkHid (Blk.at _ _ _ (by simp))
  have KB : Hid (Below w.heap.size w ((((w.alloc (.cells #[.int .i64 m.h, .int .i64 m.cap, .slice A m.l.length c, .int .i64 m.n, .int .i64 m.draws, .slice B m.sent.length d] 45)).alloc (.cells #[.int .i64 2, .int .u64 (i : Int), .int .i64 n, .int .u64 (p1.toNat : Int), .int .u64 (p2.toNat : Int)] 53)).alloc (.cells #[.int .i64 0, .int .i64 0, .slice none 0 0, .int .i64 0, .int .i64 0, .slice none 0 0] 45)).alloc (.cells #[.int .i64 0, .int .i64 0, .int .i64 0, .int .u64 0, .int .u64 0] 55))) := mkHid (((((Below.refl _ _).alloc (Nat.le_refl _) (.cells #[.int .i64 m.h, .int .i64 m.cap, .slice A m.l.length c, .int .i64 m.n, .int .i64 m.draws, .slice B m.sent.length d] 45)).alloc (by simp) (.cells #[.int .i64 2, .int .u64 (i : Int), .int .i64 n, .int .u64 (p1.toNat : Int), .int .u64 (p2.toNat : Int)] 53)).alloc (by simp; omega) (.cells #[.int .i64 0, .int .i64 0, .slice none 0 0, .int .i64 0, .int .i64 0, .slice none 0 0] 45)).alloc (by simp; omega) (.cells #[.int .i64 0, .int .i64 0, .int .i64 0, .int .u64 0, .int .u64 0] 55))
  have HM := mkHid (hM.below (((((Below.refl _ _).alloc (Nat.le_refl _) (.cells #[.int .i64 m.h, .int .i64 m.cap, .slice A m.l.length c, .int .i64 m.n, .int .i64 m.draws, .slice B m.sent.length d] 45)).alloc (by simp) (.cells #[.int .i64 2, .int .u64 (i : Int), .int .i64 n, .int .u64 (p1.toNat : Int), .int .u64 (p2.toNat : Int)] 53)).alloc (by simp; omega) (.cells #[.int .i64 0, .int .i64 0, .slice none 0 0, .int .i64 0, .int .i64 0, .slice none 0 0] 45)).alloc (by simp; omega) (.cells #[.int .i64 0, .int .i64 0, .int .i64 0, .int .u64 0, .int .u64 0] 55)))
  clear hM
  go_enter Try.func29, Try.ntmps29
  go_upto_region 1 with fail
  generalize ((((w.alloc (.cells #[.int .i64 m.h, .int .i64 m.cap, .slice A m.l.length c, .int .i64 m.n, .int .i64 m.draws, .slice B m.sent.length d] 45)).alloc (.cells #[.int .i64 2, .int .u64 (i : Int), .int .i64 n, .int .u64 (p1.toNat : Int), .int .u64 (p2.toNat : Int)] 53)).alloc (.cells #[.int .i64 0, .int .i64 0, .slice none 0 0, .int .i64 0, .int .i64 0, .slice none 0 0] 45)).alloc (.cells #[.int .i64 0, .int .i64 0, .int .i64 0, .int .u64 0, .int .u64 0] 55)) = w0 at *
  have lZA : w.heap.size + 1 + 1 + 1 < w0.heap.size := ZA.out.lt
  have cX := ZX.out.six
  have cP := ZP.out.five
  go_wp2_with fail
  refine (mchk e _ _ _ _ _ HM.out).mono ?_
  rintro e w1 ⟨rfl, hb⟩
  replace ZX := mkHid (ZX.out.keep hb)
  replace ZP := mkHid (ZP.out.keep hb)
  replace ZZ := mkHid (ZZ.out.keep hb)
  replace ZA := mkHid (ZA.out.keep hb)
  replace KB := mkHid (KB.out.step hb)
  replace HM := mkHid (HM.out.below hb)
  clear hb
  clear lZA cX cP
  have lZA : w.heap.size + 1 + 1 + 1 < w1.heap.size := ZA.out.lt
  have cX := ZX.out.six
  have cP := ZP.out.five
  go_wp2_with fail
  refine (mown HS.out.1 HS.out.2.1 HS.out.2.2 _ _ _ _ _ HM.out).mono ?_
  rintro e w2 ⟨⟨A1, c1, B1, d1, X1, rfl, ho⟩, hb⟩
  have HO := mkHid (ho.base (b := w.heap.size + 4) (by omega))
  clear ho HM
  replace ZX := mkHid (ZX.out.keep hb)
  replace ZP := mkHid (ZP.out.keep hb)
  replace ZZ := mkHid (ZZ.out.keep hb)
  replace ZA := mkHid (ZA.out.keep hb)
  replace KB := mkHid (KB.out.step hb)
  clear hb
  clear lZA cX cP
  have lZA : w.heap.size + 1 + 1 + 1 < w2.heap.size := ZA.out.lt
  have cX := ZX.out.six
  have cP := ZP.out.five
  have fX0 := ZX.out.frozen 0
  have fX1 := ZX.out.frozen 1
  have fX2 := ZX.out.frozen 2
  have fX3 := ZX.out.frozen 3
  have fX4 := ZX.out.frozen 4
  have fX5 := ZX.out.frozen 5
  go_upto_region 4 with fail
  replace ZX := mkHid (ZX.out.fill6 (b0 := .int .i64 m.h) (b1 := .int .i64 m.cap) (b2 := .slice A1 m.l.length c1) (b3 := .int .i64 m.n) (b4 := .int .i64 m.draws) (b5 := .slice B1 m.sent.length d1))
  replace ZP := mkHid (ZP.out.other6 (g := w.heap.size) (x0 := .int .i64 m.h) (x1 := .int .i64 m.cap) (x2 := .slice A1 m.l.length c1) (x3 := .int .i64 m.n) (x4 := .int .i64 m.draws) (x5 := .slice B1 m.sent.length d1) (by omega))
  replace ZZ := mkHid (ZZ.out.other6 (g := w.heap.size) (x0 := .int .i64 m.h) (x1 := .int .i64 m.cap) (x2 := .slice A1 m.l.length c1) (x3 := .int .i64 m.n) (x4 := .int .i64 m.draws) (x5 := .slice B1 m.sent.length d1) (by omega))
  replace ZA := mkHid (ZA.out.other6 (g := w.heap.size) (x0 := .int .i64 m.h) (x1 := .int .i64 m.cap) (x2 := .slice A1 m.l.length c1) (x3 := .int .i64 m.n) (x4 := .int .i64 m.draws) (x5 := .slice B1 m.sent.length d1) (by omega))
  replace KB := mkHid (below_six KB.out (Nat.le_refl _) (.int .i64 m.h) (.int .i64 m.cap) (.slice A1 m.l.length c1) (.int .i64 m.n) (.int .i64 m.draws) (.slice B1 m.sent.length d1))
  replace HO := mkHid (HO.out.past6 (g := w.heap.size) (by omega) (.int .i64 m.h) (.int .i64 m.cap) (.slice A1 m.l.length c1) (.int .i64 m.n) (.int .i64 m.draws) (.slice B1 m.sent.length d1))
  clear lZA cX cP fX0 fX1 fX2 fX3 fX4 fX5
  generalize ((((((w2.setCell ⟨w.heap.size, 0, none⟩ (.int .i64 m.h)).setCell ⟨w.heap.size, 1, none⟩ (.int .i64 m.cap)).setCell ⟨w.heap.size, 2, none⟩ (.slice A1 m.l.length c1)).setCell ⟨w.heap.size, 3, none⟩ (.int .i64 m.n)).setCell ⟨w.heap.size, 4, none⟩ (.int .i64 m.draws)).setCell ⟨w.heap.size, 5, none⟩ (.slice B1 m.sent.length d1)) = w3 at *
  have lZA : w.heap.size + 1 + 1 + 1 < w3.heap.size := ZA.out.lt
  have cX := ZX.out.six
  have cP := ZP.out.five
  have cA := ZA.out.five
  have HRd := mkHid HO.out.reads
  have fa := ZA.out.frozen 0
  go_wp2_with fail
  refine (co_err_true f r0 r6 w.heap.size A1 c1 B1 d1 _ ZX.out HRd.out).mono ?_
  rintro e w4 ⟨rfl, hb⟩
  clear HRd fa
  replace ZX := mkHid (ZX.out.keep hb)
  replace ZP := mkHid (ZP.out.keep hb)
  replace ZZ := mkHid (ZZ.out.keep hb)
  replace ZA := mkHid (ZA.out.keep hb)
  replace KB := mkHid (KB.out.step hb)
  replace HO := mkHid (HO.out.below hb)
  clear hb
  clear lZA cX cP cA
  have lZA : w.heap.size + 1 + 1 + 1 < w4.heap.size := ZA.out.lt
  have cX := ZX.out.six
  have cP := ZP.out.five
  have cA := ZA.out.five
  have fa := ZA.out.frozen 0
  go_upto_region 23 with fail
  clear fa
  replace ZX : Hid (Blk (w4.setCell ⟨w.heap.size + 1 + 1 + 1, 0, none⟩ (.int .i64 r)) w.heap.size 45 #[.int .i64 m.h, .int .i64 m.cap, .slice A1 m.l.length c1, .int .i64 m.n, .int .i64 m.draws, .slice B1 m.sent.length d1]) := mkHid ((ZX.out.other _ (by omega)))
  replace ZP : Hid (Blk (w4.setCell ⟨w.heap.size + 1 + 1 + 1, 0, none⟩ (.int .i64 r)) (w.heap.size + 1) 53 #[.int .i64 2, .int .u64 (i : Int), .int .i64 n, .int .u64 (p1.toNat : Int), .int .u64 (p2.toNat : Int)]) := mkHid ((ZP.out.other _ (by omega)))
  replace ZZ : Hid (Blk (w4.setCell ⟨w.heap.size + 1 + 1 + 1, 0, none⟩ (.int .i64 r)) (w.heap.size + 1 + 1) 45 #[.int .i64 0, .int .i64 0, .slice none 0 0, .int .i64 0, .int .i64 0, .slice none 0 0]) := mkHid ((ZZ.out.other _ (by omega)))
  replace ZA : Hid (Blk (w4.setCell ⟨w.heap.size + 1 + 1 + 1, 0, none⟩ (.int .i64 r)) (w.heap.size + 1 + 1 + 1) 55 #[.int .i64 r, .int .i64 0, .int .i64 0, .int .u64 0, .int .u64 0]) := mkHid ((ZA.out.set 0 (.int .i64 r)))
  replace KB : Hid (Below w.heap.size w (w4.setCell ⟨w.heap.size + 1 + 1 + 1, 0, none⟩ (.int .i64 r))) := mkHid ((KB.out.setCell (by show w.heap.size ≤ w.heap.size + 1 + 1 + 1; omega) _))
  replace HO := mkHid ((HO.out.past (g := w.heap.size + 1 + 1 + 1) (by omega) 0 (.int .i64 r)))
  generalize (w4.setCell ⟨w.heap.size + 1 + 1 + 1, 0, none⟩ (.int .i64 r)) = w5 at *
  clear lZA cX cP cA
  have lZA : w.heap.size + 1 + 1 + 1 < w5.heap.size := ZA.out.lt
  have cX := ZX.out.six
  have cP := ZP.out.five
  have cA := ZA.out.five
  replace ZX : Hid (Blk w5.drew _ _ _) := mkHid ZX.out.drew
  replace ZA : Hid (Blk w5.drew _ _ _) := mkHid ZA.out.drew
  replace ZZ : Hid (Blk w5.drew _ _ _) := mkHid ZZ.out.drew
  replace KB : Hid (Below w.heap.size w w5.drew) := mkHid KB.out.drew
  replace HO := mkHid (HO.out.below (Below.drew (Below.refl _ w5)))
  clear cX cP cA
  have cZ := ZZ.out.six
  have cA := ZA.out.five
  have gz0 := ZZ.out.frozen 0
  have gz1 := ZZ.out.frozen 1
  have gz2 := ZZ.out.frozen 2
  have gz3 := ZZ.out.frozen 3
  have gz4 := ZZ.out.frozen 4
  have gz5 := ZZ.out.frozen 5
  have ga0 := ZA.out.frozen 0
  have ga1 := ZA.out.frozen 1
  have ga2 := ZA.out.frozen 2
  have ga3 := ZA.out.frozen 3
  have ga4 := ZA.out.frozen 4
  clear ZP
  refine wp_region_late (late := fun i => decide (3 ≤ i)) (S := fun w' => Hid (Blk w' w.heap.size 45 #[.int .i64 m.h, .int .i64 m.cap, .slice A1 m.l.length c1, .int .i64 m.n, .int .i64 m.draws, .slice B1 m.sent.length d1]) ∧ Hid (Blk w' (w.heap.size + 1 + 1 + 1) 55 #[.int .i64 r, .int .i64 0, .int .i64 0, .int .u64 0, .int .u64 0])) (by kernel_rfl) ?_ (fun hHeld => ?_)
  · ((try dsimp only); refine ⟨?_, ?_⟩ <;> first | with_reducible assumption | (with_reducible refine mkHid (Blk.other6 (Hid.out ?_) ?_) <;> first | with_reducible assumption | omega))
  generalize w5.drew = u at *
  refine Any.take (i := 0) (v := ?_) rfl (by kernel_rfl) (by kernel_rfl) (by kernel_rfl) (by kernel_rfl) (fun _ _ _ h => h) (Or.inl ⟨by rfl, ?_⟩) hHeld ?_
  rotate_left
  · intro w hSw
    (try dsimp only at hSw)
    have q := hSw.1.out.six
    clear hSw
    go_simp
    all_goals with_reducible rfl
  try simp only [List.getElem_toArray, List.getElem_cons_succ, List.getElem_cons_zero, Act.put, List.setIfInBounds_toArray, List.set_cons_zero, List.set_cons_succ]
  refine Any.take (i := 1) (v := ?_) rfl (by kernel_rfl) (by kernel_rfl) (by kernel_rfl) (by kernel_rfl) (fun _ _ _ h => h) (Or.inl ⟨by rfl, ?_⟩) hHeld ?_
  rotate_left
  · intro w hSw
    (try dsimp only at hSw)
    have q := hSw.2.out.five
    clear hSw
    go_simp
    all_goals with_reducible rfl
  try simp only [List.getElem_toArray, List.getElem_cons_succ, List.getElem_cons_zero, Act.put, List.setIfInBounds_toArray, List.set_cons_zero, List.set_cons_succ]
  refine Any.ready (rs := [2]) (by kernel_rfl) (by simp) ?_
  refine AllAny.cons rfl rfl (fun K hK => ?_) AllAny.nil
  go_simp
  refine hK.out _ _ ?_ (fun hHeld => ?_)
  · ((try dsimp only); refine ⟨?_, ?_⟩ <;> first | with_reducible assumption | (with_reducible refine mkHid (Blk.other6 (Hid.out ?_) ?_) <;> first | with_reducible assumption | omega))
  clear hK K
  try simp only [List.getElem_toArray, List.getElem_cons_succ, List.getElem_cons_zero, Act.put, List.setIfInBounds_toArray, List.set_cons_zero, List.set_cons_succ]
  refine Any.ready (rs := [3]) (by kernel_rfl) (by simp) ?_
  refine AllAny.lateCons rfl rfl (fun K hK => ?_) AllAny.nil
  go_simp
  refine hK.out _ _ ?_
  clear hK K
  try simp only [List.getElem_toArray, List.getElem_cons_succ, List.getElem_cons_zero, Act.put, List.setIfInBounds_toArray, List.set_cons_zero, List.set_cons_succ]
  refine Any.ready (rs := [4]) (by kernel_rfl) (by simp) ?_
  refine AllAny.lateCons rfl rfl (fun K hK => ?_) AllAny.nil
  go_simp
  refine hK.out _ _ ?_
  clear hK K
  try simp only [List.getElem_toArray, List.getElem_cons_succ, List.getElem_cons_zero, Act.put, List.setIfInBounds_toArray, List.set_cons_zero, List.set_cons_succ]
  refine Any.done (by kernel_rfl) ?_ _
  have qR := ((ZZ.out.fill6 (b0 := .int .i64 m.h) (b1 := .int .i64 m.cap) (b2 := .slice A1 m.l.length c1) (b3 := .int .i64 m.n) (b4 := .int .i64 m.draws) (b5 := .slice B1 m.sent.length d1)).other5 (g := w.heap.size + 1 + 1 + 1) (x0 := .int .i64 r) (x1 := .int .i64 0) (x2 := .int .i64 0) (x3 := .int .u64 0) (x4 := .int .u64 0) (by omega)).six
  have qA := ((ZA.out.other6 (g := w.heap.size + 1 + 1) (x0 := .int .i64 m.h) (x1 := .int .i64 m.cap) (x2 := .slice A1 m.l.length c1) (x3 := .int .i64 m.n) (x4 := .int .i64 m.draws) (x5 := .slice B1 m.sent.length d1) (by omega)).fill5 (b0 := .int .i64 r) (b1 := .int .i64 0) (b2 := .int .i64 0) (b3 := .int .u64 0) (b4 := .int .u64 0)).five
  go_wp2_with fail
  refine bodyPost_ret (v := .tuple #[.agg #[.int .i64 m.h, .int .i64 m.cap, .slice A1 m.l.length c1, .int .i64 m.n, .int .i64 m.draws, .slice B1 m.sent.length d1], .agg #[.int .i64 r, .int .i64 0, .int .i64 0, .int .u64 0, .int .u64 0], .int .i64 0]) (by simp [results, Try.results29, go_sem, qR, qA]) rfl ⟨_, _, _, _, X1, rfl, OwnM.base (b' := w.heap.size + 4) ?_ (by omega), below_five (below_six KB.out (by omega) _ _ _ _ _ _) (by omega) _ _ _ _ _⟩
  exact (HO.out.past6 (by omega) _ _ _ _ _ _).past5 (by omega) _ _ _ _ _

set_option linter.unusedSimpArgs false in
set_option maxRecDepth 100000 in
set_option maxHeartbeats 4000000 in
theorem do2_over {m : ModD} {i : Nat} {n : Int} {p1 p2 : BitVec 64} (e : Hid ((if okM m then (0 : Int) else 1) = 0)) {L : List Nat} (f : Hid (withoutAll m.h m.l i = (L, 0))) (hn : Hid (m.n = 1099511627776)) (A : Option Addr) (c : Nat) (B : Option Addr) (d : Nat) (w : World) (hM : MemM w A c B d m) :
    Calls Try.prog 29 #[.agg #[.int .i64 m.h, .int .i64 m.cap, .slice A m.l.length c, .int .i64 m.n, .int .i64 m.draws, .slice B m.sent.length d], .agg #[.int .i64 2, .int .u64 (i : Int), .int .i64 n, .int .u64 (p1.toNat : Int), .int .u64 (p2.toNat : Int)]] w (DoPost m (ansE 9) 0 w) := by
  have HS := mkHid (okM_sizes (m := m) (by cases hk : okM m with | true => rfl | false => exact absurd e.out (by rw [hk]; simp)))
  skip
  have ZX : Hid (Blk ((((w.alloc (.cells #[.int .i64 m.h, .int .i64 m.cap, .slice A m.l.length c, .int .i64 m.n, .int .i64 m.draws, .slice B m.sent.length d] 45)).alloc (.cells #[.int .i64 2, .int .u64 (i : Int), .int .i64 n, .int .u64 (p1.toNat : Int), .int .u64 (p2.toNat : Int)] 53)).alloc (.cells #[.int .i64 0, .int .i64 0, .slice none 0 0, .int .i64 0, .int .i64 0, .slice none 0 0] 45)).alloc (.cells #[.int .i64 0, .int .i64 0, .int .i64 0, .int .u64 0, .int .u64 0] 55)) w.heap.size 45 #[.int .i64 m.h, .int .i64 m.cap, .slice A m.l.length c, .int .i64 m.n, .int .i64 m.draws, .slice B m.sent.length d]) := mkHid ((((Blk.new _ _ _).alloc _).alloc _).alloc _)
  have ZP : Hid (Blk ((((w.alloc (.cells #[.int .i64 m.h, .int .i64 m.cap, .slice A m.l.length c, .int .i64 m.n, .int .i64 m.draws, .slice B m.sent.length d] 45)).alloc (.cells #[.int .i64 2, .int .u64 (i : Int), .int .i64 n, .int .u64 (p1.toNat : Int), .int .u64 (p2.toNat : Int)] 53)).alloc (.cells #[.int .i64 0, .int .i64 0, .slice none 0 0, .int .i64 0, .int .i64 0, .slice none 0 0] 45)).alloc (.cells #[.int .i64 0, .int .i64 0, .int .i64 0, .int .u64 0, .int .u64 0] 55)) (w.heap.size + 1) 53 #[.int .i64 2, .int .u64 (i : Int), .int .i64 n, .int .u64 (p1.toNat : Int), .int .u64 (p2.toNat : Int)]) := mkHid (((Blk.at _ _ _ (by simp)).alloc _).alloc _)
  have ZZ : Hid (Blk ((((w.alloc (.cells #[.int .i64 m.h, .int .i64 m.cap, .slice A m.l.length c, .int .i64 m.n, .int .i64 m.draws, .slice B m.sent.length d] 45)).alloc (.cells #[.int .i64 2, .int .u64 (i : Int), .int .i64 n, .int .u64 (p1.toNat : Int), .int .u64 (p2.toNat : Int)] 53)).alloc (.cells #[.int .i64 0, .int .i64 0, .slice none 0 0, .int .i64 0, .int .i64 0, .slice none 0 0] 45)).alloc (.cells #[.int .i64 0, .int .i64 0, .int .i64 0, .int .u64 0, .int .u64 0] 55)) (w.heap.size + 1 + 1) 45 #[.int .i64 0, .int .i64 0, .slice none 0 0, .int .i64 0, .int .i64 0, .slice none 0 0]) := mkHid ((Blk.at _ _ _ (by simp)).alloc _)
  have ZA : Hid (Blk ((((w.alloc (.cells #[.int .i64 m.h, .int .i64 m.cap, .slice A m.l.length c, .int .i64 m.n, .int .i64 m.draws, .slice B m.sent.length d] 45)).alloc (.cells #[.int .i64 2, .int .u64 (i : Int), .int .i64 n, .int .u64 (p1.toNat : Int), .int .u64 (p2.toNat : Int)] 53)).alloc (.cells #[.int .i64 0, .int .i64 0, .slice none 0 0, .int .i64 0, .int .i64 0, .slice none 0 0] 45)).alloc (.cells #[.int .i64 0, .int .i64 0, .int .i64 0, .int .u64 0, .int .u64 0] 55)) (w.heap.size + 1 + 1 + 1) 55 #[.int .i64 0, .int .i64 0, .int .i64 0, .int .u64 0, .int .u64 0]) := mkHid (Blk.at _ _ _ (by simp))
  have KB : Hid (Below w.heap.size w ((((w.alloc (.cells #[.int .i64 m.h, .int .i64 m.cap, .slice A m.l.length c, .int .i64 m.n, .int .i64 m.draws, .slice B m.sent.length d] 45)).alloc (.cells #[.int .i64 2, .int .u64 (i : Int), .int .i64 n, .int .u64 (p1.toNat : Int), .int .u64 (p2.toNat : Int)] 53)).alloc (.cells #[.int .i64 0, .int .i64 0, .slice none 0 0, .int .i64 0, .int .i64 0, .slice none 0 0] 45)).alloc (.cells #[.int .i64 0, .int .i64 0, .int .i64 0, .int .u64 0, .int .u64 0] 55))) := mkHid (((((Below.refl _ _).alloc (Nat.le_refl _) (.cells #[.int .i64 m.h, .int .i64 m.cap, .slice A m.l.length c, .int .i64 m.n, .int .i64 m.draws, .slice B m.sent.length d] 45)).alloc (by simp) (.cells #[.int .i64 2, .int .u64 (i : Int), .int .i64 n, .int .u64 (p1.toNat : Int), .int .u64 (p2.toNat : Int)] 53)).alloc (by simp; omega) (.cells #[.int .i64 0, .int .i64 0, .slice none 0 0, .int .i64 0, .int .i64 0, .slice none 0 0] 45)).alloc (by simp; omega) (.cells #[.int .i64 0, .int .i64 0, .int .i64 0, .int .u64 0, .int .u64 0] 55))
  have HM := mkHid (hM.below (((((Below.refl _ _).alloc (Nat.le_refl _) (.cells #[.int .i64 m.h, .int .i64 m.cap, .slice A m.l.length c, .int .i64 m.n, .int .i64 m.draws, .slice B m.sent.length d] 45)).alloc (by simp) (.cells #[.int .i64 2, .int .u64 (i : Int), .int .i64 n, .int .u64 (p1.toNat : Int), .int .u64 (p2.toNat : Int)] 53)).alloc (by simp; omega) (.cells #[.int .i64 0, .int .i64 0, .slice none 0 0, .int .i64 0, .int .i64 0, .slice none 0 0] 45)).alloc (by simp; omega) (.cells #[.int .i64 0, .int .i64 0, .int .i64 0, .int .u64 0, .int .u64 0] 55)))
  clear hM
  go_enter Try.func29, Try.ntmps29
  go_upto_region 1 with fail
  generalize ((((w.alloc (.cells #[.int .i64 m.h, .int .i64 m.cap, .slice A m.l.length c, .int .i64 m.n, .int .i64 m.draws, .slice B m.sent.length d] 45)).alloc (.cells #[.int .i64 2, .int .u64 (i : Int), .int .i64 n, .int .u64 (p1.toNat : Int), .int .u64 (p2.toNat : Int)] 53)).alloc (.cells #[.int .i64 0, .int .i64 0, .slice none 0 0, .int .i64 0, .int .i64 0, .slice none 0 0] 45)).alloc (.cells #[.int .i64 0, .int .i64 0, .int .i64 0, .int .u64 0, .int .u64 0] 55)) = w0 at *
  have lZA : w.heap.size + 1 + 1 + 1 < w0.heap.size := ZA.out.lt
  have cX := ZX.out.six
  have cP := ZP.out.five
  go_wp2_with fail
  refine (mchk e _ _ _ _ _ HM.out).mono ?_
  rintro e w1 ⟨rfl, hb⟩
  replace ZX := mkHid (ZX.out.keep hb)
  replace ZP := mkHid (ZP.out.keep hb)
  replace ZZ := mkHid (ZZ.out.keep hb)
  replace ZA := mkHid (ZA.out.keep hb)
  replace KB := mkHid (KB.out.step hb)
  replace HM := mkHid (HM.out.below hb)
  clear hb
  clear lZA cX cP
  have lZA : w.heap.size + 1 + 1 + 1 < w1.heap.size := ZA.out.lt
  have cX := ZX.out.six
  have cP := ZP.out.five
  go_wp2_with fail
  refine (mown HS.out.1 HS.out.2.1 HS.out.2.2 _ _ _ _ _ HM.out).mono ?_
  rintro e w2 ⟨⟨A1, c1, B1, d1, X1, rfl, ho⟩, hb⟩
  have HO := mkHid (ho.base (b := w.heap.size + 4) (by omega))
  clear ho HM
  replace ZX := mkHid (ZX.out.keep hb)
  replace ZP := mkHid (ZP.out.keep hb)
  replace ZZ := mkHid (ZZ.out.keep hb)
  replace ZA := mkHid (ZA.out.keep hb)
  replace KB := mkHid (KB.out.step hb)
  clear hb
  clear lZA cX cP
  have lZA : w.heap.size + 1 + 1 + 1 < w2.heap.size := ZA.out.lt
  have cX := ZX.out.six
  have cP := ZP.out.five
  have fX0 := ZX.out.frozen 0
  have fX1 := ZX.out.frozen 1
  have fX2 := ZX.out.frozen 2
  have fX3 := ZX.out.frozen 3
  have fX4 := ZX.out.frozen 4
  have fX5 := ZX.out.frozen 5
  go_upto_region 4 with fail
  replace ZX := mkHid (ZX.out.fill6 (b0 := .int .i64 m.h) (b1 := .int .i64 m.cap) (b2 := .slice A1 m.l.length c1) (b3 := .int .i64 m.n) (b4 := .int .i64 m.draws) (b5 := .slice B1 m.sent.length d1))
  replace ZP := mkHid (ZP.out.other6 (g := w.heap.size) (x0 := .int .i64 m.h) (x1 := .int .i64 m.cap) (x2 := .slice A1 m.l.length c1) (x3 := .int .i64 m.n) (x4 := .int .i64 m.draws) (x5 := .slice B1 m.sent.length d1) (by omega))
  replace ZZ := mkHid (ZZ.out.other6 (g := w.heap.size) (x0 := .int .i64 m.h) (x1 := .int .i64 m.cap) (x2 := .slice A1 m.l.length c1) (x3 := .int .i64 m.n) (x4 := .int .i64 m.draws) (x5 := .slice B1 m.sent.length d1) (by omega))
  replace ZA := mkHid (ZA.out.other6 (g := w.heap.size) (x0 := .int .i64 m.h) (x1 := .int .i64 m.cap) (x2 := .slice A1 m.l.length c1) (x3 := .int .i64 m.n) (x4 := .int .i64 m.draws) (x5 := .slice B1 m.sent.length d1) (by omega))
  replace KB := mkHid (below_six KB.out (Nat.le_refl _) (.int .i64 m.h) (.int .i64 m.cap) (.slice A1 m.l.length c1) (.int .i64 m.n) (.int .i64 m.draws) (.slice B1 m.sent.length d1))
  replace HO := mkHid (HO.out.past6 (g := w.heap.size) (by omega) (.int .i64 m.h) (.int .i64 m.cap) (.slice A1 m.l.length c1) (.int .i64 m.n) (.int .i64 m.draws) (.slice B1 m.sent.length d1))
  clear lZA cX cP fX0 fX1 fX2 fX3 fX4 fX5
  generalize ((((((w2.setCell ⟨w.heap.size, 0, none⟩ (.int .i64 m.h)).setCell ⟨w.heap.size, 1, none⟩ (.int .i64 m.cap)).setCell ⟨w.heap.size, 2, none⟩ (.slice A1 m.l.length c1)).setCell ⟨w.heap.size, 3, none⟩ (.int .i64 m.n)).setCell ⟨w.heap.size, 4, none⟩ (.int .i64 m.draws)).setCell ⟨w.heap.size, 5, none⟩ (.slice B1 m.sent.length d1)) = w3 at *
  have lZA : w.heap.size + 1 + 1 + 1 < w3.heap.size := ZA.out.lt
  have cX := ZX.out.six
  have cP := ZP.out.five
  have cA := ZA.out.five
  have HRd := mkHid HO.out.reads
  have fa := ZA.out.frozen 0
  go_wp2_with fail
  refine (co_over f hn.out w.heap.size A1 c1 B1 d1 _ ZX.out HRd.out).mono ?_
  rintro e w4 ⟨rfl, hb⟩
  clear HRd fa
  replace ZX := mkHid (ZX.out.keep hb)
  replace ZP := mkHid (ZP.out.keep hb)
  replace ZZ := mkHid (ZZ.out.keep hb)
  replace ZA := mkHid (ZA.out.keep hb)
  replace KB := mkHid (KB.out.step hb)
  replace HO := mkHid (HO.out.below hb)
  clear hb
  clear lZA cX cP cA
  have lZA : w.heap.size + 1 + 1 + 1 < w4.heap.size := ZA.out.lt
  have cX := ZX.out.six
  have cP := ZP.out.five
  have cA := ZA.out.five
  have fa := ZA.out.frozen 0
  go_upto_region 23 with fail
  clear fa
  replace ZX : Hid (Blk (w4.setCell ⟨w.heap.size + 1 + 1 + 1, 0, none⟩ (.int .i64 9)) w.heap.size 45 #[.int .i64 m.h, .int .i64 m.cap, .slice A1 m.l.length c1, .int .i64 m.n, .int .i64 m.draws, .slice B1 m.sent.length d1]) := mkHid ((ZX.out.other _ (by omega)))
  replace ZP : Hid (Blk (w4.setCell ⟨w.heap.size + 1 + 1 + 1, 0, none⟩ (.int .i64 9)) (w.heap.size + 1) 53 #[.int .i64 2, .int .u64 (i : Int), .int .i64 n, .int .u64 (p1.toNat : Int), .int .u64 (p2.toNat : Int)]) := mkHid ((ZP.out.other _ (by omega)))
  replace ZZ : Hid (Blk (w4.setCell ⟨w.heap.size + 1 + 1 + 1, 0, none⟩ (.int .i64 9)) (w.heap.size + 1 + 1) 45 #[.int .i64 0, .int .i64 0, .slice none 0 0, .int .i64 0, .int .i64 0, .slice none 0 0]) := mkHid ((ZZ.out.other _ (by omega)))
  replace ZA : Hid (Blk (w4.setCell ⟨w.heap.size + 1 + 1 + 1, 0, none⟩ (.int .i64 9)) (w.heap.size + 1 + 1 + 1) 55 #[.int .i64 9, .int .i64 0, .int .i64 0, .int .u64 0, .int .u64 0]) := mkHid ((ZA.out.set 0 (.int .i64 9)))
  replace KB : Hid (Below w.heap.size w (w4.setCell ⟨w.heap.size + 1 + 1 + 1, 0, none⟩ (.int .i64 9))) := mkHid ((KB.out.setCell (by show w.heap.size ≤ w.heap.size + 1 + 1 + 1; omega) _))
  replace HO := mkHid ((HO.out.past (g := w.heap.size + 1 + 1 + 1) (by omega) 0 (.int .i64 9)))
  generalize (w4.setCell ⟨w.heap.size + 1 + 1 + 1, 0, none⟩ (.int .i64 9)) = w5 at *
  clear lZA cX cP cA
  have lZA : w.heap.size + 1 + 1 + 1 < w5.heap.size := ZA.out.lt
  have cX := ZX.out.six
  have cP := ZP.out.five
  have cA := ZA.out.five
  replace ZX : Hid (Blk w5.drew _ _ _) := mkHid ZX.out.drew
  replace ZA : Hid (Blk w5.drew _ _ _) := mkHid ZA.out.drew
  replace ZZ : Hid (Blk w5.drew _ _ _) := mkHid ZZ.out.drew
  replace KB : Hid (Below w.heap.size w w5.drew) := mkHid KB.out.drew
  replace HO := mkHid (HO.out.below (Below.drew (Below.refl _ w5)))
  clear cX cP cA
  have cZ := ZZ.out.six
  have cA := ZA.out.five
  have gz0 := ZZ.out.frozen 0
  have gz1 := ZZ.out.frozen 1
  have gz2 := ZZ.out.frozen 2
  have gz3 := ZZ.out.frozen 3
  have gz4 := ZZ.out.frozen 4
  have gz5 := ZZ.out.frozen 5
  have ga0 := ZA.out.frozen 0
  have ga1 := ZA.out.frozen 1
  have ga2 := ZA.out.frozen 2
  have ga3 := ZA.out.frozen 3
  have ga4 := ZA.out.frozen 4
  clear ZP
  refine wp_region_late (late := fun i => decide (3 ≤ i)) (S := fun w' => Hid (Blk w' w.heap.size 45 #[.int .i64 m.h, .int .i64 m.cap, .slice A1 m.l.length c1, .int .i64 m.n, .int .i64 m.draws, .slice B1 m.sent.length d1]) ∧ Hid (Blk w' (w.heap.size + 1 + 1 + 1) 55 #[.int .i64 9, .int .i64 0, .int .i64 0, .int .u64 0, .int .u64 0])) (by kernel_rfl) ?_ (fun hHeld => ?_)
  · ((try dsimp only); refine ⟨?_, ?_⟩ <;> first | with_reducible assumption | (with_reducible refine mkHid (Blk.other6 (Hid.out ?_) ?_) <;> first | with_reducible assumption | omega))
  generalize w5.drew = u at *
  refine Any.take (i := 0) (v := ?_) rfl (by kernel_rfl) (by kernel_rfl) (by kernel_rfl) (by kernel_rfl) (fun _ _ _ h => h) (Or.inl ⟨by rfl, ?_⟩) hHeld ?_
  rotate_left
  · intro w hSw
    (try dsimp only at hSw)
    have q := hSw.1.out.six
    clear hSw
    go_simp
    all_goals with_reducible rfl
  try simp only [List.getElem_toArray, List.getElem_cons_succ, List.getElem_cons_zero, Act.put, List.setIfInBounds_toArray, List.set_cons_zero, List.set_cons_succ]
  refine Any.take (i := 1) (v := ?_) rfl (by kernel_rfl) (by kernel_rfl) (by kernel_rfl) (by kernel_rfl) (fun _ _ _ h => h) (Or.inl ⟨by rfl, ?_⟩) hHeld ?_
  rotate_left
  · intro w hSw
    (try dsimp only at hSw)
    have q := hSw.2.out.five
    clear hSw
    go_simp
    all_goals with_reducible rfl
  try simp only [List.getElem_toArray, List.getElem_cons_succ, List.getElem_cons_zero, Act.put, List.setIfInBounds_toArray, List.set_cons_zero, List.set_cons_succ]
  refine Any.ready (rs := [2]) (by kernel_rfl) (by simp) ?_
  refine AllAny.cons rfl rfl (fun K hK => ?_) AllAny.nil
  go_simp
  refine hK.out _ _ ?_ (fun hHeld => ?_)
  · ((try dsimp only); refine ⟨?_, ?_⟩ <;> first | with_reducible assumption | (with_reducible refine mkHid (Blk.other6 (Hid.out ?_) ?_) <;> first | with_reducible assumption | omega))
  clear hK K
  try simp only [List.getElem_toArray, List.getElem_cons_succ, List.getElem_cons_zero, Act.put, List.setIfInBounds_toArray, List.set_cons_zero, List.set_cons_succ]
  refine Any.ready (rs := [3]) (by kernel_rfl) (by simp) ?_
  refine AllAny.lateCons rfl rfl (fun K hK => ?_) AllAny.nil
  go_simp
  refine hK.out _ _ ?_
  clear hK K
  try simp only [List.getElem_toArray, List.getElem_cons_succ, List.getElem_cons_zero, Act.put, List.setIfInBounds_toArray, List.set_cons_zero, List.set_cons_succ]
  refine Any.ready (rs := [4]) (by kernel_rfl) (by simp) ?_
  refine AllAny.lateCons rfl rfl (fun K hK => ?_) AllAny.nil
  go_simp
  refine hK.out _ _ ?_
  clear hK K
  try simp only [List.getElem_toArray, List.getElem_cons_succ, List.getElem_cons_zero, Act.put, List.setIfInBounds_toArray, List.set_cons_zero, List.set_cons_succ]
  refine Any.done (by kernel_rfl) ?_ _
  have qR := ((ZZ.out.fill6 (b0 := .int .i64 m.h) (b1 := .int .i64 m.cap) (b2 := .slice A1 m.l.length c1) (b3 := .int .i64 m.n) (b4 := .int .i64 m.draws) (b5 := .slice B1 m.sent.length d1)).other5 (g := w.heap.size + 1 + 1 + 1) (x0 := .int .i64 9) (x1 := .int .i64 0) (x2 := .int .i64 0) (x3 := .int .u64 0) (x4 := .int .u64 0) (by omega)).six
  have qA := ((ZA.out.other6 (g := w.heap.size + 1 + 1) (x0 := .int .i64 m.h) (x1 := .int .i64 m.cap) (x2 := .slice A1 m.l.length c1) (x3 := .int .i64 m.n) (x4 := .int .i64 m.draws) (x5 := .slice B1 m.sent.length d1) (by omega)).fill5 (b0 := .int .i64 9) (b1 := .int .i64 0) (b2 := .int .i64 0) (b3 := .int .u64 0) (b4 := .int .u64 0)).five
  go_wp2_with fail
  refine bodyPost_ret (v := .tuple #[.agg #[.int .i64 m.h, .int .i64 m.cap, .slice A1 m.l.length c1, .int .i64 m.n, .int .i64 m.draws, .slice B1 m.sent.length d1], .agg #[.int .i64 9, .int .i64 0, .int .i64 0, .int .u64 0, .int .u64 0], .int .i64 0]) (by simp [results, Try.results29, go_sem, qR, qA]) rfl ⟨_, _, _, _, X1, rfl, OwnM.base (b' := w.heap.size + 4) ?_ (by omega), below_five (below_six KB.out (by omega) _ _ _ _ _ _) (by omega) _ _ _ _ _⟩
  exact (HO.out.past6 (by omega) _ _ _ _ _ _).past5 (by omega) _ _ _ _ _

set_option linter.unusedSimpArgs false in
set_option maxRecDepth 100000 in
set_option maxHeartbeats 4000000 in
theorem do2_ok {m : ModD} {i : Nat} {n : Int} {p1 p2 : BitVec 64} (e : Hid ((if okM m then (0 : Int) else 1) = 0)) {L : List Nat} (f : Hid (withoutAll m.h m.l i = (L, 0))) (hn : m.n ≠ 1099511627776) (n0 : 0 ≤ m.n) (n1 : m.n ≤ 1099511627776) (A : Option Addr) (c : Nat) (B : Option Addr) (d : Nat) (w : World) (hM : MemM w A c B d m) :
    Calls Try.prog 29 #[.agg #[.int .i64 m.h, .int .i64 m.cap, .slice A m.l.length c, .int .i64 m.n, .int .i64 m.draws, .slice B m.sent.length d], .agg #[.int .i64 2, .int .u64 (i : Int), .int .i64 n, .int .u64 (p1.toNat : Int), .int .u64 (p2.toNat : Int)]] w (DoPost { m with l := L, n := m.n + 1 } (ansE 0) 0 w) := by
  have HS := mkHid (okM_sizes (m := m) (by cases hk : okM m with | true => rfl | false => exact absurd e.out (by rw [hk]; simp)))
  skip
  have ZX : Hid (Blk ((((w.alloc (.cells #[.int .i64 m.h, .int .i64 m.cap, .slice A m.l.length c, .int .i64 m.n, .int .i64 m.draws, .slice B m.sent.length d] 45)).alloc (.cells #[.int .i64 2, .int .u64 (i : Int), .int .i64 n, .int .u64 (p1.toNat : Int), .int .u64 (p2.toNat : Int)] 53)).alloc (.cells #[.int .i64 0, .int .i64 0, .slice none 0 0, .int .i64 0, .int .i64 0, .slice none 0 0] 45)).alloc (.cells #[.int .i64 0, .int .i64 0, .int .i64 0, .int .u64 0, .int .u64 0] 55)) w.heap.size 45 #[.int .i64 m.h, .int .i64 m.cap, .slice A m.l.length c, .int .i64 m.n, .int .i64 m.draws, .slice B m.sent.length d]) := mkHid ((((Blk.new _ _ _).alloc _).alloc _).alloc _)
  have ZP : Hid (Blk ((((w.alloc (.cells #[.int .i64 m.h, .int .i64 m.cap, .slice A m.l.length c, .int .i64 m.n, .int .i64 m.draws, .slice B m.sent.length d] 45)).alloc (.cells #[.int .i64 2, .int .u64 (i : Int), .int .i64 n, .int .u64 (p1.toNat : Int), .int .u64 (p2.toNat : Int)] 53)).alloc (.cells #[.int .i64 0, .int .i64 0, .slice none 0 0, .int .i64 0, .int .i64 0, .slice none 0 0] 45)).alloc (.cells #[.int .i64 0, .int .i64 0, .int .i64 0, .int .u64 0, .int .u64 0] 55)) (w.heap.size + 1) 53 #[.int .i64 2, .int .u64 (i : Int), .int .i64 n, .int .u64 (p1.toNat : Int), .int .u64 (p2.toNat : Int)]) := mkHid (((Blk.at _ _ _ (by simp)).alloc _).alloc _)
  have ZZ : Hid (Blk ((((w.alloc (.cells #[.int .i64 m.h, .int .i64 m.cap, .slice A m.l.length c, .int .i64 m.n, .int .i64 m.draws, .slice B m.sent.length d] 45)).alloc (.cells #[.int .i64 2, .int .u64 (i : Int), .int .i64 n, .int .u64 (p1.toNat : Int), .int .u64 (p2.toNat : Int)] 53)).alloc (.cells #[.int .i64 0, .int .i64 0, .slice none 0 0, .int .i64 0, .int .i64 0, .slice none 0 0] 45)).alloc (.cells #[.int .i64 0, .int .i64 0, .int .i64 0, .int .u64 0, .int .u64 0] 55)) (w.heap.size + 1 + 1) 45 #[.int .i64 0, .int .i64 0, .slice none 0 0, .int .i64 0, .int .i64 0, .slice none 0 0]) := mkHid ((Blk.at _ _ _ (by simp)).alloc _)
  have ZA : Hid (Blk ((((w.alloc (.cells #[.int .i64 m.h, .int .i64 m.cap, .slice A m.l.length c, .int .i64 m.n, .int .i64 m.draws, .slice B m.sent.length d] 45)).alloc (.cells #[.int .i64 2, .int .u64 (i : Int), .int .i64 n, .int .u64 (p1.toNat : Int), .int .u64 (p2.toNat : Int)] 53)).alloc (.cells #[.int .i64 0, .int .i64 0, .slice none 0 0, .int .i64 0, .int .i64 0, .slice none 0 0] 45)).alloc (.cells #[.int .i64 0, .int .i64 0, .int .i64 0, .int .u64 0, .int .u64 0] 55)) (w.heap.size + 1 + 1 + 1) 55 #[.int .i64 0, .int .i64 0, .int .i64 0, .int .u64 0, .int .u64 0]) := mkHid (Blk.at _ _ _ (by simp))
  have KB : Hid (Below w.heap.size w ((((w.alloc (.cells #[.int .i64 m.h, .int .i64 m.cap, .slice A m.l.length c, .int .i64 m.n, .int .i64 m.draws, .slice B m.sent.length d] 45)).alloc (.cells #[.int .i64 2, .int .u64 (i : Int), .int .i64 n, .int .u64 (p1.toNat : Int), .int .u64 (p2.toNat : Int)] 53)).alloc (.cells #[.int .i64 0, .int .i64 0, .slice none 0 0, .int .i64 0, .int .i64 0, .slice none 0 0] 45)).alloc (.cells #[.int .i64 0, .int .i64 0, .int .i64 0, .int .u64 0, .int .u64 0] 55))) := mkHid (((((Below.refl _ _).alloc (Nat.le_refl _) (.cells #[.int .i64 m.h, .int .i64 m.cap, .slice A m.l.length c, .int .i64 m.n, .int .i64 m.draws, .slice B m.sent.length d] 45)).alloc (by simp) (.cells #[.int .i64 2, .int .u64 (i : Int), .int .i64 n, .int .u64 (p1.toNat : Int), .int .u64 (p2.toNat : Int)] 53)).alloc (by simp; omega) (.cells #[.int .i64 0, .int .i64 0, .slice none 0 0, .int .i64 0, .int .i64 0, .slice none 0 0] 45)).alloc (by simp; omega) (.cells #[.int .i64 0, .int .i64 0, .int .i64 0, .int .u64 0, .int .u64 0] 55))
  have HM := mkHid (hM.below (((((Below.refl _ _).alloc (Nat.le_refl _) (.cells #[.int .i64 m.h, .int .i64 m.cap, .slice A m.l.length c, .int .i64 m.n, .int .i64 m.draws, .slice B m.sent.length d] 45)).alloc (by simp) (.cells #[.int .i64 2, .int .u64 (i : Int), .int .i64 n, .int .u64 (p1.toNat : Int), .int .u64 (p2.toNat : Int)] 53)).alloc (by simp; omega) (.cells #[.int .i64 0, .int .i64 0, .slice none 0 0, .int .i64 0, .int .i64 0, .slice none 0 0] 45)).alloc (by simp; omega) (.cells #[.int .i64 0, .int .i64 0, .int .i64 0, .int .u64 0, .int .u64 0] 55)))
  clear hM
  go_enter Try.func29, Try.ntmps29
  go_upto_region 1 with fail
  generalize ((((w.alloc (.cells #[.int .i64 m.h, .int .i64 m.cap, .slice A m.l.length c, .int .i64 m.n, .int .i64 m.draws, .slice B m.sent.length d] 45)).alloc (.cells #[.int .i64 2, .int .u64 (i : Int), .int .i64 n, .int .u64 (p1.toNat : Int), .int .u64 (p2.toNat : Int)] 53)).alloc (.cells #[.int .i64 0, .int .i64 0, .slice none 0 0, .int .i64 0, .int .i64 0, .slice none 0 0] 45)).alloc (.cells #[.int .i64 0, .int .i64 0, .int .i64 0, .int .u64 0, .int .u64 0] 55)) = w0 at *
  have lZA : w.heap.size + 1 + 1 + 1 < w0.heap.size := ZA.out.lt
  have cX := ZX.out.six
  have cP := ZP.out.five
  go_wp2_with fail
  refine (mchk e _ _ _ _ _ HM.out).mono ?_
  rintro e w1 ⟨rfl, hb⟩
  replace ZX := mkHid (ZX.out.keep hb)
  replace ZP := mkHid (ZP.out.keep hb)
  replace ZZ := mkHid (ZZ.out.keep hb)
  replace ZA := mkHid (ZA.out.keep hb)
  replace KB := mkHid (KB.out.step hb)
  replace HM := mkHid (HM.out.below hb)
  clear hb
  clear lZA cX cP
  have lZA : w.heap.size + 1 + 1 + 1 < w1.heap.size := ZA.out.lt
  have cX := ZX.out.six
  have cP := ZP.out.five
  go_wp2_with fail
  refine (mown HS.out.1 HS.out.2.1 HS.out.2.2 _ _ _ _ _ HM.out).mono ?_
  rintro e w2 ⟨⟨A1, c1, B1, d1, X1, rfl, ho⟩, hb⟩
  have HO := mkHid (ho.base (b := w.heap.size + 4) (by omega))
  clear ho HM
  replace ZX := mkHid (ZX.out.keep hb)
  replace ZP := mkHid (ZP.out.keep hb)
  replace ZZ := mkHid (ZZ.out.keep hb)
  replace ZA := mkHid (ZA.out.keep hb)
  replace KB := mkHid (KB.out.step hb)
  clear hb
  clear lZA cX cP
  have lZA : w.heap.size + 1 + 1 + 1 < w2.heap.size := ZA.out.lt
  have cX := ZX.out.six
  have cP := ZP.out.five
  have fX0 := ZX.out.frozen 0
  have fX1 := ZX.out.frozen 1
  have fX2 := ZX.out.frozen 2
  have fX3 := ZX.out.frozen 3
  have fX4 := ZX.out.frozen 4
  have fX5 := ZX.out.frozen 5
  go_upto_region 4 with fail
  replace ZX := mkHid (ZX.out.fill6 (b0 := .int .i64 m.h) (b1 := .int .i64 m.cap) (b2 := .slice A1 m.l.length c1) (b3 := .int .i64 m.n) (b4 := .int .i64 m.draws) (b5 := .slice B1 m.sent.length d1))
  replace ZP := mkHid (ZP.out.other6 (g := w.heap.size) (x0 := .int .i64 m.h) (x1 := .int .i64 m.cap) (x2 := .slice A1 m.l.length c1) (x3 := .int .i64 m.n) (x4 := .int .i64 m.draws) (x5 := .slice B1 m.sent.length d1) (by omega))
  replace ZZ := mkHid (ZZ.out.other6 (g := w.heap.size) (x0 := .int .i64 m.h) (x1 := .int .i64 m.cap) (x2 := .slice A1 m.l.length c1) (x3 := .int .i64 m.n) (x4 := .int .i64 m.draws) (x5 := .slice B1 m.sent.length d1) (by omega))
  replace ZA := mkHid (ZA.out.other6 (g := w.heap.size) (x0 := .int .i64 m.h) (x1 := .int .i64 m.cap) (x2 := .slice A1 m.l.length c1) (x3 := .int .i64 m.n) (x4 := .int .i64 m.draws) (x5 := .slice B1 m.sent.length d1) (by omega))
  replace KB := mkHid (below_six KB.out (Nat.le_refl _) (.int .i64 m.h) (.int .i64 m.cap) (.slice A1 m.l.length c1) (.int .i64 m.n) (.int .i64 m.draws) (.slice B1 m.sent.length d1))
  replace HO := mkHid (HO.out.past6 (g := w.heap.size) (by omega) (.int .i64 m.h) (.int .i64 m.cap) (.slice A1 m.l.length c1) (.int .i64 m.n) (.int .i64 m.draws) (.slice B1 m.sent.length d1))
  clear lZA cX cP fX0 fX1 fX2 fX3 fX4 fX5
  generalize ((((((w2.setCell ⟨w.heap.size, 0, none⟩ (.int .i64 m.h)).setCell ⟨w.heap.size, 1, none⟩ (.int .i64 m.cap)).setCell ⟨w.heap.size, 2, none⟩ (.slice A1 m.l.length c1)).setCell ⟨w.heap.size, 3, none⟩ (.int .i64 m.n)).setCell ⟨w.heap.size, 4, none⟩ (.int .i64 m.draws)).setCell ⟨w.heap.size, 5, none⟩ (.slice B1 m.sent.length d1)) = w3 at *
  have lZA : w.heap.size + 1 + 1 + 1 < w3.heap.size := ZA.out.lt
  have cX := ZX.out.six
  have cP := ZP.out.five
  have cA := ZA.out.five
  have HRd := mkHid HO.out.reads
  have fa := ZA.out.frozen 0
  go_wp2_with fail
  refine (co_ok f hn n0 n1 w.heap.size A1 c1 B1 d1 _ ZX.out HRd.out).mono ?_
  rintro e w4 ⟨A2, c2, rfl, hrow, hz, hg⟩
  clear HRd fa
  replace ZX := mkHid hz
  replace ZP := mkHid (ZP.out.grown hg (by omega))
  replace ZZ := mkHid (ZZ.out.grown hg (by omega))
  replace ZA := mkHid (ZA.out.grown hg (by omega))
  replace KB := mkHid (KB.out.grown hg (by omega) (fun k hk => by cases hk; omega))
  replace HO := mkHid ((HO.out.grown hg (by omega)).newL (k := m.n + 1) (RowOf.rebase hrow (by omega)))
  clear hz hg hrow lZA cX cP cA
  have lZA : w.heap.size + 1 + 1 + 1 < w4.heap.size := ZA.out.lt
  have cX := ZX.out.six
  have cP := ZP.out.five
  have cA := ZA.out.five
  have fa := ZA.out.frozen 0
  go_upto_region 23 with fail
  clear fa
  replace ZX : Hid (Blk (w4.setCell ⟨w.heap.size + 1 + 1 + 1, 0, none⟩ (.int .i64 0)) w.heap.size 45 #[.int .i64 m.h, .int .i64 m.cap, .slice A2 L.length c2, .int .i64 (m.n + 1), .int .i64 m.draws, .slice B1 m.sent.length d1]) := mkHid ((ZX.out.other _ (by omega)))
  replace ZP : Hid (Blk (w4.setCell ⟨w.heap.size + 1 + 1 + 1, 0, none⟩ (.int .i64 0)) (w.heap.size + 1) 53 #[.int .i64 2, .int .u64 (i : Int), .int .i64 n, .int .u64 (p1.toNat : Int), .int .u64 (p2.toNat : Int)]) := mkHid ((ZP.out.other _ (by omega)))
  replace ZZ : Hid (Blk (w4.setCell ⟨w.heap.size + 1 + 1 + 1, 0, none⟩ (.int .i64 0)) (w.heap.size + 1 + 1) 45 #[.int .i64 0, .int .i64 0, .slice none 0 0, .int .i64 0, .int .i64 0, .slice none 0 0]) := mkHid ((ZZ.out.other _ (by omega)))
  replace ZA : Hid (Blk (w4.setCell ⟨w.heap.size + 1 + 1 + 1, 0, none⟩ (.int .i64 0)) (w.heap.size + 1 + 1 + 1) 55 #[.int .i64 0, .int .i64 0, .int .i64 0, .int .u64 0, .int .u64 0]) := mkHid ((ZA.out.set 0 (.int .i64 0)))
  replace KB : Hid (Below w.heap.size w (w4.setCell ⟨w.heap.size + 1 + 1 + 1, 0, none⟩ (.int .i64 0))) := mkHid ((KB.out.setCell (by show w.heap.size ≤ w.heap.size + 1 + 1 + 1; omega) _))
  replace HO := mkHid ((HO.out.past (g := w.heap.size + 1 + 1 + 1) (by omega) 0 (.int .i64 0)))
  generalize (w4.setCell ⟨w.heap.size + 1 + 1 + 1, 0, none⟩ (.int .i64 0)) = w5 at *
  clear lZA cX cP cA
  have lZA : w.heap.size + 1 + 1 + 1 < w5.heap.size := ZA.out.lt
  have cX := ZX.out.six
  have cP := ZP.out.five
  have cA := ZA.out.five
  replace ZX : Hid (Blk w5.drew _ _ _) := mkHid ZX.out.drew
  replace ZA : Hid (Blk w5.drew _ _ _) := mkHid ZA.out.drew
  replace ZZ : Hid (Blk w5.drew _ _ _) := mkHid ZZ.out.drew
  replace KB : Hid (Below w.heap.size w w5.drew) := mkHid KB.out.drew
  replace HO := mkHid (HO.out.below (Below.drew (Below.refl _ w5)))
  clear cX cP cA
  have cZ := ZZ.out.six
  have cA := ZA.out.five
  have gz0 := ZZ.out.frozen 0
  have gz1 := ZZ.out.frozen 1
  have gz2 := ZZ.out.frozen 2
  have gz3 := ZZ.out.frozen 3
  have gz4 := ZZ.out.frozen 4
  have gz5 := ZZ.out.frozen 5
  have ga0 := ZA.out.frozen 0
  have ga1 := ZA.out.frozen 1
  have ga2 := ZA.out.frozen 2
  have ga3 := ZA.out.frozen 3
  have ga4 := ZA.out.frozen 4
  clear ZP
  refine wp_region_late (late := fun i => decide (3 ≤ i)) (S := fun w' => Hid (Blk w' w.heap.size 45 #[.int .i64 m.h, .int .i64 m.cap, .slice A2 L.length c2, .int .i64 (m.n + 1), .int .i64 m.draws, .slice B1 m.sent.length d1]) ∧ Hid (Blk w' (w.heap.size + 1 + 1 + 1) 55 #[.int .i64 0, .int .i64 0, .int .i64 0, .int .u64 0, .int .u64 0])) (by kernel_rfl) ?_ (fun hHeld => ?_)
  · ((try dsimp only); refine ⟨?_, ?_⟩ <;> first | with_reducible assumption | (with_reducible refine mkHid (Blk.other6 (Hid.out ?_) ?_) <;> first | with_reducible assumption | omega))
  generalize w5.drew = u at *
  refine Any.take (i := 0) (v := ?_) rfl (by kernel_rfl) (by kernel_rfl) (by kernel_rfl) (by kernel_rfl) (fun _ _ _ h => h) (Or.inl ⟨by rfl, ?_⟩) hHeld ?_
  rotate_left
  · intro w hSw
    (try dsimp only at hSw)
    have q := hSw.1.out.six
    clear hSw
    go_simp
    all_goals with_reducible rfl
  try simp only [List.getElem_toArray, List.getElem_cons_succ, List.getElem_cons_zero, Act.put, List.setIfInBounds_toArray, List.set_cons_zero, List.set_cons_succ]
  refine Any.take (i := 1) (v := ?_) rfl (by kernel_rfl) (by kernel_rfl) (by kernel_rfl) (by kernel_rfl) (fun _ _ _ h => h) (Or.inl ⟨by rfl, ?_⟩) hHeld ?_
  rotate_left
  · intro w hSw
    (try dsimp only at hSw)
    have q := hSw.2.out.five
    clear hSw
    go_simp
    all_goals with_reducible rfl
  try simp only [List.getElem_toArray, List.getElem_cons_succ, List.getElem_cons_zero, Act.put, List.setIfInBounds_toArray, List.set_cons_zero, List.set_cons_succ]
  refine Any.ready (rs := [2]) (by kernel_rfl) (by simp) ?_
  refine AllAny.cons rfl rfl (fun K hK => ?_) AllAny.nil
  go_simp
  refine hK.out _ _ ?_ (fun hHeld => ?_)
  · ((try dsimp only); refine ⟨?_, ?_⟩ <;> first | with_reducible assumption | (with_reducible refine mkHid (Blk.other6 (Hid.out ?_) ?_) <;> first | with_reducible assumption | omega))
  clear hK K
  try simp only [List.getElem_toArray, List.getElem_cons_succ, List.getElem_cons_zero, Act.put, List.setIfInBounds_toArray, List.set_cons_zero, List.set_cons_succ]
  refine Any.ready (rs := [3]) (by kernel_rfl) (by simp) ?_
  refine AllAny.lateCons rfl rfl (fun K hK => ?_) AllAny.nil
  go_simp
  refine hK.out _ _ ?_
  clear hK K
  try simp only [List.getElem_toArray, List.getElem_cons_succ, List.getElem_cons_zero, Act.put, List.setIfInBounds_toArray, List.set_cons_zero, List.set_cons_succ]
  refine Any.ready (rs := [4]) (by kernel_rfl) (by simp) ?_
  refine AllAny.lateCons rfl rfl (fun K hK => ?_) AllAny.nil
  go_simp
  refine hK.out _ _ ?_
  clear hK K
  try simp only [List.getElem_toArray, List.getElem_cons_succ, List.getElem_cons_zero, Act.put, List.setIfInBounds_toArray, List.set_cons_zero, List.set_cons_succ]
  refine Any.done (by kernel_rfl) ?_ _
  have qR := ((ZZ.out.fill6 (b0 := .int .i64 m.h) (b1 := .int .i64 m.cap) (b2 := .slice A2 L.length c2) (b3 := .int .i64 (m.n + 1)) (b4 := .int .i64 m.draws) (b5 := .slice B1 m.sent.length d1)).other5 (g := w.heap.size + 1 + 1 + 1) (x0 := .int .i64 0) (x1 := .int .i64 0) (x2 := .int .i64 0) (x3 := .int .u64 0) (x4 := .int .u64 0) (by omega)).six
  have qA := ((ZA.out.other6 (g := w.heap.size + 1 + 1) (x0 := .int .i64 m.h) (x1 := .int .i64 m.cap) (x2 := .slice A2 L.length c2) (x3 := .int .i64 (m.n + 1)) (x4 := .int .i64 m.draws) (x5 := .slice B1 m.sent.length d1) (by omega)).fill5 (b0 := .int .i64 0) (b1 := .int .i64 0) (b2 := .int .i64 0) (b3 := .int .u64 0) (b4 := .int .u64 0)).five
  go_wp2_with fail
  refine bodyPost_ret (v := .tuple #[.agg #[.int .i64 m.h, .int .i64 m.cap, .slice A2 L.length c2, .int .i64 (m.n + 1), .int .i64 m.draws, .slice B1 m.sent.length d1], .agg #[.int .i64 0, .int .i64 0, .int .i64 0, .int .u64 0, .int .u64 0], .int .i64 0]) (by simp [results, Try.results29, go_sem, qR, qA]) rfl ⟨_, _, _, _, X1, rfl, OwnM.base (b' := w.heap.size + 4) ?_ (by omega), below_five (below_six KB.out (by omega) _ _ _ _ _ _) (by omega) _ _ _ _ _⟩
  exact (HO.out.past6 (by omega) _ _ _ _ _ _).past5 (by omega) _ _ _ _ _
end Go.Proofs.Ytmehbonjpmlmfaa

namespace Go.Proofs.Ytmehbonjpmlmfaa
open Go.RowKit

set_option linter.unusedSimpArgs false in
set_option maxRecDepth 100000 in
set_option maxHeartbeats 4000000 in
theorem do3_full {m : ModD} {i : Nat} {n : Int} {p1 p2 : BitVec 64} (e : Hid ((if okM m then (0 : Int) else 1) = 0)) (hd : Hid ((m.sent.length : Int) + 1 = m.draws)) (A : Option Addr) (c : Nat) (B : Option Addr) (d : Nat) (w : World) (hM : MemM w A c B d m) :
    Calls Try.prog 29 #[.agg #[.int .i64 m.h, .int .i64 m.cap, .slice A m.l.length c, .int .i64 m.n, .int .i64 m.draws, .slice B m.sent.length d], .agg #[.int .i64 3, .int .u64 (i : Int), .int .i64 n, .int .u64 (p1.toNat : Int), .int .u64 (p2.toNat : Int)]] w (DoPost m (ansE 10) 0 w) := by
  have HS := mkHid (okM_sizes (m := m) (by cases hk : okM m with | true => rfl | false => exact absurd e.out (by rw [hk]; simp)))
  have hwn : IntKind.i64.wrap ((m.sent.length : Int) + 1) = (m.sent.length : Int) + 1 := by rw [IntKind.wrap_i64]; have := HS.out.2.1; omega
  have t1 : ((m.sent.length : Int) + 1 == m.draws) = true := beq_iff_eq.2 hd.out
  have ZX : Hid (Blk ((((w.alloc (.cells #[.int .i64 m.h, .int .i64 m.cap, .slice A m.l.length c, .int .i64 m.n, .int .i64 m.draws, .slice B m.sent.length d] 45)).alloc (.cells #[.int .i64 3, .int .u64 (i : Int), .int .i64 n, .int .u64 (p1.toNat : Int), .int .u64 (p2.toNat : Int)] 53)).alloc (.cells #[.int .i64 0, .int .i64 0, .slice none 0 0, .int .i64 0, .int .i64 0, .slice none 0 0] 45)).alloc (.cells #[.int .i64 0, .int .i64 0, .int .i64 0, .int .u64 0, .int .u64 0] 55)) w.heap.size 45 #[.int .i64 m.h, .int .i64 m.cap, .slice A m.l.length c, .int .i64 m.n, .int .i64 m.draws, .slice B m.sent.length d]) := mkHid ((((Blk.new _ _ _).alloc _).alloc _).alloc _)
  have ZP : Hid (Blk ((((w.alloc (.cells #[.int .i64 m.h, .int .i64 m.cap, .slice A m.l.length c, .int .i64 m.n, .int .i64 m.draws, .slice B m.sent.length d] 45)).alloc (.cells #[.int .i64 3, .int .u64 (i : Int), .int .i64 n, .int .u64 (p1.toNat : Int), .int .u64 (p2.toNat : Int)] 53)).alloc (.cells #[.int .i64 0, .int .i64 0, .slice none 0 0, .int .i64 0, .int .i64 0, .slice none 0 0] 45)).alloc (.cells #[.int .i64 0, .int .i64 0, .int .i64 0, .int .u64 0, .int .u64 0] 55)) (w.heap.size + 1) 53 #[.int .i64 3, .int .u64 (i : Int), .int .i64 n, .int .u64 (p1.toNat : Int), .int .u64 (p2.toNat : Int)]) := mkHid (((Blk.at _ _ _ (by simp)).alloc _).alloc _)
  have ZZ : Hid (Blk ((((w.alloc (.cells #[.int .i64 m.h, .int .i64 m.cap, .slice A m.l.length c, .int .i64 m.n, .int .i64 m.draws, .slice B m.sent.length d] 45)).alloc (.cells #[.int .i64 3, .int .u64 (i : Int), .int .i64 n, .int .u64 (p1.toNat : Int), .int .u64 (p2.toNat : Int)] 53)).alloc (.cells #[.int .i64 0, .int .i64 0, .slice none 0 0, .int .i64 0, .int .i64 0, .slice none 0 0] 45)).alloc (.cells #[.int .i64 0, .int .i64 0, .int .i64 0, .int .u64 0, .int .u64 0] 55)) (w.heap.size + 1 + 1) 45 #[.int .i64 0, .int .i64 0, .slice none 0 0, .int .i64 0, .int .i64 0, .slice none 0 0]) := mkHid ((Blk.at _ _ _ (by simp)).alloc _)
  have ZA : Hid (Blk ((((w.alloc (.cells #[.int .i64 m.h, .int .i64 m.cap, .slice A m.l.length c, .int .i64 m.n, .int .i64 m.draws, .slice B m.sent.length d] 45)).alloc (.cells #[.int .i64 3, .int .u64 (i : Int), .int .i64 n, .int .u64 (p1.toNat : Int), .int .u64 (p2.toNat : Int)] 53)).alloc (.cells #[.int .i64 0, .int .i64 0, .slice none 0 0, .int .i64 0, .int .i64 0, .slice none 0 0] 45)).alloc (.cells #[.int .i64 0, .int .i64 0, .int .i64 0, .int .u64 0, .int .u64 0] 55)) (w.heap.size + 1 + 1 + 1) 55 #[.int .i64 0, .int .i64 0, .int .i64 0, .int .u64 0, .int .u64 0]) := mkHid (Blk.at _ _ _ (by simp))
  have KB : Hid (Below w.heap.size w ((((w.alloc (.cells #[.int .i64 m.h, .int .i64 m.cap, .slice A m.l.length c, .int .i64 m.n, .int .i64 m.draws, .slice B m.sent.length d] 45)).alloc (.cells #[.int .i64 3, .int .u64 (i : Int), .int .i64 n, .int .u64 (p1.toNat : Int), .int .u64 (p2.toNat : Int)] 53)).alloc (.cells #[.int .i64 0, .int .i64 0, .slice none 0 0, .int .i64 0, .int .i64 0, .slice none 0 0] 45)).alloc (.cells #[.int .i64 0, .int .i64 0, .int .i64 0, .int .u64 0, .int .u64 0] 55))) := mkHid (((((Below.refl _ _).alloc (Nat.le_refl _) (.cells #[.int .i64 m.h, .int .i64 m.cap, .slice A m.l.length c, .int .i64 m.n, .int .i64 m.draws, .slice B m.sent.length d] 45)).alloc (by simp) (.cells #[.int .i64 3, .int .u64 (i : Int), .int .i64 n, .int .u64 (p1.toNat : Int), .int .u64 (p2.toNat : Int)] 53)).alloc (by simp; omega) (.cells #[.int .i64 0, .int .i64 0, .slice none 0 0, .int .i64 0, .int .i64 0, .slice none 0 0] 45)).alloc (by simp; omega) (.cells #[.int .i64 0, .int .i64 0, .int .i64 0, .int .u64 0, .int .u64 0] 55))
  have HM := mkHid (hM.below (((((Below.refl _ _).alloc (Nat.le_refl _) (.cells #[.int .i64 m.h, .int .i64 m.cap, .slice A m.l.length c, .int .i64 m.n, .int .i64 m.draws, .slice B m.sent.length d] 45)).alloc (by simp) (.cells #[.int .i64 3, .int .u64 (i : Int), .int .i64 n, .int .u64 (p1.toNat : Int), .int .u64 (p2.toNat : Int)] 53)).alloc (by simp; omega) (.cells #[.int .i64 0, .int .i64 0, .slice none 0 0, .int .i64 0, .int .i64 0, .slice none 0 0] 45)).alloc (by simp; omega) (.cells #[.int .i64 0, .int .i64 0, .int .i64 0, .int .u64 0, .int .u64 0] 55)))
  clear hM
  go_enter Try.func29, Try.ntmps29
  go_upto_region 1 with fail
  generalize ((((w.alloc (.cells #[.int .i64 m.h, .int .i64 m.cap, .slice A m.l.length c, .int .i64 m.n, .int .i64 m.draws, .slice B m.sent.length d] 45)).alloc (.cells #[.int .i64 3, .int .u64 (i : Int), .int .i64 n, .int .u64 (p1.toNat : Int), .int .u64 (p2.toNat : Int)] 53)).alloc (.cells #[.int .i64 0, .int .i64 0, .slice none 0 0, .int .i64 0, .int .i64 0, .slice none 0 0] 45)).alloc (.cells #[.int .i64 0, .int .i64 0, .int .i64 0, .int .u64 0, .int .u64 0] 55)) = w0 at *
  have lZA : w.heap.size + 1 + 1 + 1 < w0.heap.size := ZA.out.lt
  have cX := ZX.out.six
  have cP := ZP.out.five
  go_wp2_with fail
  refine (mchk e _ _ _ _ _ HM.out).mono ?_
  rintro e w1 ⟨rfl, hb⟩
  replace ZX := mkHid (ZX.out.keep hb)
  replace ZP := mkHid (ZP.out.keep hb)
  replace ZZ := mkHid (ZZ.out.keep hb)
  replace ZA := mkHid (ZA.out.keep hb)
  replace KB := mkHid (KB.out.step hb)
  replace HM := mkHid (HM.out.below hb)
  clear hb
  clear lZA cX cP
  have lZA : w.heap.size + 1 + 1 + 1 < w1.heap.size := ZA.out.lt
  have cX := ZX.out.six
  have cP := ZP.out.five
  go_wp2_with fail
  refine (mown HS.out.1 HS.out.2.1 HS.out.2.2 _ _ _ _ _ HM.out).mono ?_
  rintro e w2 ⟨⟨A1, c1, B1, d1, X1, rfl, ho⟩, hb⟩
  have HO := mkHid (ho.base (b := w.heap.size + 4) (by omega))
  clear ho HM
  replace ZX := mkHid (ZX.out.keep hb)
  replace ZP := mkHid (ZP.out.keep hb)
  replace ZZ := mkHid (ZZ.out.keep hb)
  replace ZA := mkHid (ZA.out.keep hb)
  replace KB := mkHid (KB.out.step hb)
  clear hb
  clear lZA cX cP
  have lZA : w.heap.size + 1 + 1 + 1 < w2.heap.size := ZA.out.lt
  have cX := ZX.out.six
  have cP := ZP.out.five
  have fX0 := ZX.out.frozen 0
  have fX1 := ZX.out.frozen 1
  have fX2 := ZX.out.frozen 2
  have fX3 := ZX.out.frozen 3
  have fX4 := ZX.out.frozen 4
  have fX5 := ZX.out.frozen 5
  go_upto_region 4 with fail
  replace ZX := mkHid (ZX.out.fill6 (b0 := .int .i64 m.h) (b1 := .int .i64 m.cap) (b2 := .slice A1 m.l.length c1) (b3 := .int .i64 m.n) (b4 := .int .i64 m.draws) (b5 := .slice B1 m.sent.length d1))
  replace ZP := mkHid (ZP.out.other6 (g := w.heap.size) (x0 := .int .i64 m.h) (x1 := .int .i64 m.cap) (x2 := .slice A1 m.l.length c1) (x3 := .int .i64 m.n) (x4 := .int .i64 m.draws) (x5 := .slice B1 m.sent.length d1) (by omega))
  replace ZZ := mkHid (ZZ.out.other6 (g := w.heap.size) (x0 := .int .i64 m.h) (x1 := .int .i64 m.cap) (x2 := .slice A1 m.l.length c1) (x3 := .int .i64 m.n) (x4 := .int .i64 m.draws) (x5 := .slice B1 m.sent.length d1) (by omega))
  replace ZA := mkHid (ZA.out.other6 (g := w.heap.size) (x0 := .int .i64 m.h) (x1 := .int .i64 m.cap) (x2 := .slice A1 m.l.length c1) (x3 := .int .i64 m.n) (x4 := .int .i64 m.draws) (x5 := .slice B1 m.sent.length d1) (by omega))
  replace KB := mkHid (below_six KB.out (Nat.le_refl _) (.int .i64 m.h) (.int .i64 m.cap) (.slice A1 m.l.length c1) (.int .i64 m.n) (.int .i64 m.draws) (.slice B1 m.sent.length d1))
  replace HO := mkHid (HO.out.past6 (g := w.heap.size) (by omega) (.int .i64 m.h) (.int .i64 m.cap) (.slice A1 m.l.length c1) (.int .i64 m.n) (.int .i64 m.draws) (.slice B1 m.sent.length d1))
  clear lZA cX cP fX0 fX1 fX2 fX3 fX4 fX5
  generalize ((((((w2.setCell ⟨w.heap.size, 0, none⟩ (.int .i64 m.h)).setCell ⟨w.heap.size, 1, none⟩ (.int .i64 m.cap)).setCell ⟨w.heap.size, 2, none⟩ (.slice A1 m.l.length c1)).setCell ⟨w.heap.size, 3, none⟩ (.int .i64 m.n)).setCell ⟨w.heap.size, 4, none⟩ (.int .i64 m.draws)).setCell ⟨w.heap.size, 5, none⟩ (.slice B1 m.sent.length d1)) = w3 at *
  have lZA : w.heap.size + 1 + 1 + 1 < w3.heap.size := ZA.out.lt
  have cX := ZX.out.six
  have cP := ZP.out.five
  have cA := ZA.out.five
  have fa := ZA.out.frozen 0
  go_upto_region 23 with fail
  clear fa
  replace ZX : Hid (Blk (w3.setCell ⟨w.heap.size + 1 + 1 + 1, 0, none⟩ (.int .i64 10)) w.heap.size 45 #[.int .i64 m.h, .int .i64 m.cap, .slice A1 m.l.length c1, .int .i64 m.n, .int .i64 m.draws, .slice B1 m.sent.length d1]) := mkHid ((ZX.out.other _ (by omega)))
  replace ZP : Hid (Blk (w3.setCell ⟨w.heap.size + 1 + 1 + 1, 0, none⟩ (.int .i64 10)) (w.heap.size + 1) 53 #[.int .i64 3, .int .u64 (i : Int), .int .i64 n, .int .u64 (p1.toNat : Int), .int .u64 (p2.toNat : Int)]) := mkHid ((ZP.out.other _ (by omega)))
  replace ZZ : Hid (Blk (w3.setCell ⟨w.heap.size + 1 + 1 + 1, 0, none⟩ (.int .i64 10)) (w.heap.size + 1 + 1) 45 #[.int .i64 0, .int .i64 0, .slice none 0 0, .int .i64 0, .int .i64 0, .slice none 0 0]) := mkHid ((ZZ.out.other _ (by omega)))
  replace ZA : Hid (Blk (w3.setCell ⟨w.heap.size + 1 + 1 + 1, 0, none⟩ (.int .i64 10)) (w.heap.size + 1 + 1 + 1) 55 #[.int .i64 10, .int .i64 0, .int .i64 0, .int .u64 0, .int .u64 0]) := mkHid ((ZA.out.set 0 (.int .i64 10)))
  replace KB : Hid (Below w.heap.size w (w3.setCell ⟨w.heap.size + 1 + 1 + 1, 0, none⟩ (.int .i64 10))) := mkHid ((KB.out.setCell (by show w.heap.size ≤ w.heap.size + 1 + 1 + 1; omega) _))
  replace HO := mkHid ((HO.out.past (g := w.heap.size + 1 + 1 + 1) (by omega) 0 (.int .i64 10)))
  generalize (w3.setCell ⟨w.heap.size + 1 + 1 + 1, 0, none⟩ (.int .i64 10)) = w5 at *
  clear lZA cX cP cA
  have lZA : w.heap.size + 1 + 1 + 1 < w5.heap.size := ZA.out.lt
  have cX := ZX.out.six
  have cP := ZP.out.five
  have cA := ZA.out.five
  replace ZX : Hid (Blk w5.drew _ _ _) := mkHid ZX.out.drew
  replace ZA : Hid (Blk w5.drew _ _ _) := mkHid ZA.out.drew
  replace ZZ : Hid (Blk w5.drew _ _ _) := mkHid ZZ.out.drew
  replace KB : Hid (Below w.heap.size w w5.drew) := mkHid KB.out.drew
  replace HO := mkHid (HO.out.below (Below.drew (Below.refl _ w5)))
  clear cX cP cA
  have cZ := ZZ.out.six
  have cA := ZA.out.five
  have gz0 := ZZ.out.frozen 0
  have gz1 := ZZ.out.frozen 1
  have gz2 := ZZ.out.frozen 2
  have gz3 := ZZ.out.frozen 3
  have gz4 := ZZ.out.frozen 4
  have gz5 := ZZ.out.frozen 5
  have ga0 := ZA.out.frozen 0
  have ga1 := ZA.out.frozen 1
  have ga2 := ZA.out.frozen 2
  have ga3 := ZA.out.frozen 3
  have ga4 := ZA.out.frozen 4
  clear ZP
  refine wp_region_late (late := fun i => decide (3 ≤ i)) (S := fun w' => Hid (Blk w' w.heap.size 45 #[.int .i64 m.h, .int .i64 m.cap, .slice A1 m.l.length c1, .int .i64 m.n, .int .i64 m.draws, .slice B1 m.sent.length d1]) ∧ Hid (Blk w' (w.heap.size + 1 + 1 + 1) 55 #[.int .i64 10, .int .i64 0, .int .i64 0, .int .u64 0, .int .u64 0])) (by kernel_rfl) ?_ (fun hHeld => ?_)
  · ((try dsimp only); refine ⟨?_, ?_⟩ <;> first | with_reducible assumption | (with_reducible refine mkHid (Blk.other6 (Hid.out ?_) ?_) <;> first | with_reducible assumption | omega))
  generalize w5.drew = u at *
  refine Any.take (i := 0) (v := ?_) rfl (by kernel_rfl) (by kernel_rfl) (by kernel_rfl) (by kernel_rfl) (fun _ _ _ h => h) (Or.inl ⟨by rfl, ?_⟩) hHeld ?_
  rotate_left
  · intro w hSw
    (try dsimp only at hSw)
    have q := hSw.1.out.six
    clear hSw
    go_simp
    all_goals with_reducible rfl
  try simp only [List.getElem_toArray, List.getElem_cons_succ, List.getElem_cons_zero, Act.put, List.setIfInBounds_toArray, List.set_cons_zero, List.set_cons_succ]
  refine Any.take (i := 1) (v := ?_) rfl (by kernel_rfl) (by kernel_rfl) (by kernel_rfl) (by kernel_rfl) (fun _ _ _ h => h) (Or.inl ⟨by rfl, ?_⟩) hHeld ?_
  rotate_left
  · intro w hSw
    (try dsimp only at hSw)
    have q := hSw.2.out.five
    clear hSw
    go_simp
    all_goals with_reducible rfl
  try simp only [List.getElem_toArray, List.getElem_cons_succ, List.getElem_cons_zero, Act.put, List.setIfInBounds_toArray, List.set_cons_zero, List.set_cons_succ]
  refine Any.ready (rs := [2]) (by kernel_rfl) (by simp) ?_
  refine AllAny.cons rfl rfl (fun K hK => ?_) AllAny.nil
  go_simp
  refine hK.out _ _ ?_ (fun hHeld => ?_)
  · ((try dsimp only); refine ⟨?_, ?_⟩ <;> first | with_reducible assumption | (with_reducible refine mkHid (Blk.other6 (Hid.out ?_) ?_) <;> first | with_reducible assumption | omega))
  clear hK K
  try simp only [List.getElem_toArray, List.getElem_cons_succ, List.getElem_cons_zero, Act.put, List.setIfInBounds_toArray, List.set_cons_zero, List.set_cons_succ]
  refine Any.ready (rs := [3]) (by kernel_rfl) (by simp) ?_
  refine AllAny.lateCons rfl rfl (fun K hK => ?_) AllAny.nil
  go_simp
  refine hK.out _ _ ?_
  clear hK K
  try simp only [List.getElem_toArray, List.getElem_cons_succ, List.getElem_cons_zero, Act.put, List.setIfInBounds_toArray, List.set_cons_zero, List.set_cons_succ]
  refine Any.ready (rs := [4]) (by kernel_rfl) (by simp) ?_
  refine AllAny.lateCons rfl rfl (fun K hK => ?_) AllAny.nil
  go_simp
  refine hK.out _ _ ?_
  clear hK K
  try simp only [List.getElem_toArray, List.getElem_cons_succ, List.getElem_cons_zero, Act.put, List.setIfInBounds_toArray, List.set_cons_zero, List.set_cons_succ]
  refine Any.done (by kernel_rfl) ?_ _
  have qR := ((ZZ.out.fill6 (b0 := .int .i64 m.h) (b1 := .int .i64 m.cap) (b2 := .slice A1 m.l.length c1) (b3 := .int .i64 m.n) (b4 := .int .i64 m.draws) (b5 := .slice B1 m.sent.length d1)).other5 (g := w.heap.size + 1 + 1 + 1) (x0 := .int .i64 10) (x1 := .int .i64 0) (x2 := .int .i64 0) (x3 := .int .u64 0) (x4 := .int .u64 0) (by omega)).six
  have qA := ((ZA.out.other6 (g := w.heap.size + 1 + 1) (x0 := .int .i64 m.h) (x1 := .int .i64 m.cap) (x2 := .slice A1 m.l.length c1) (x3 := .int .i64 m.n) (x4 := .int .i64 m.draws) (x5 := .slice B1 m.sent.length d1) (by omega)).fill5 (b0 := .int .i64 10) (b1 := .int .i64 0) (b2 := .int .i64 0) (b3 := .int .u64 0) (b4 := .int .u64 0)).five
  go_wp2_with fail
  refine bodyPost_ret (v := .tuple #[.agg #[.int .i64 m.h, .int .i64 m.cap, .slice A1 m.l.length c1, .int .i64 m.n, .int .i64 m.draws, .slice B1 m.sent.length d1], .agg #[.int .i64 10, .int .i64 0, .int .i64 0, .int .u64 0, .int .u64 0], .int .i64 0]) (by simp [results, Try.results29, go_sem, qR, qA]) rfl ⟨_, _, _, _, X1, rfl, OwnM.base (b' := w.heap.size + 4) ?_ (by omega), below_five (below_six KB.out (by omega) _ _ _ _ _ _) (by omega) _ _ _ _ _⟩
  exact (HO.out.past6 (by omega) _ _ _ _ _ _).past5 (by omega) _ _ _ _ _

set_option linter.unusedSimpArgs false in
set_option maxRecDepth 100000 in
set_option maxHeartbeats 4000000 in
theorem do3_ok {m : ModD} {i : Nat} {n : Int} {p1 p2 : BitVec 64} (e : Hid ((if okM m then (0 : Int) else 1) = 0)) (hd : Hid ((m.sent.length : Int) + 1 ≠ m.draws)) (A : Option Addr) (c : Nat) (B : Option Addr) (d : Nat) (w : World) (hM : MemM w A c B d m) :
    Calls Try.prog 29 #[.agg #[.int .i64 m.h, .int .i64 m.cap, .slice A m.l.length c, .int .i64 m.n, .int .i64 m.draws, .slice B m.sent.length d], .agg #[.int .i64 3, .int .u64 (i : Int), .int .i64 n, .int .u64 (p1.toNat : Int), .int .u64 (p2.toNat : Int)]] w (DoPost { m with sent := m.sent ++ [⟨m.l, (m.sent.length : Int) + 1, (p1, p2)⟩] } ⟨0, (m.sent.length : Int) + 1, (m.sent.length : Int) + 1, (0, 0)⟩ 0 w) := by
  have HS := mkHid (okM_sizes (m := m) (by cases hk : okM m with | true => rfl | false => exact absurd e.out (by rw [hk]; simp)))
  have hwn : IntKind.i64.wrap ((m.sent.length : Int) + 1) = (m.sent.length : Int) + 1 := by rw [IntKind.wrap_i64]; have := HS.out.2.1; omega
  have t1 : ((m.sent.length : Int) + 1 == m.draws) = false := beq_eq_false_iff_ne.2 hd.out
  have ZX : Hid (Blk ((((w.alloc (.cells #[.int .i64 m.h, .int .i64 m.cap, .slice A m.l.length c, .int .i64 m.n, .int .i64 m.draws, .slice B m.sent.length d] 45)).alloc (.cells #[.int .i64 3, .int .u64 (i : Int), .int .i64 n, .int .u64 (p1.toNat : Int), .int .u64 (p2.toNat : Int)] 53)).alloc (.cells #[.int .i64 0, .int .i64 0, .slice none 0 0, .int .i64 0, .int .i64 0, .slice none 0 0] 45)).alloc (.cells #[.int .i64 0, .int .i64 0, .int .i64 0, .int .u64 0, .int .u64 0] 55)) w.heap.size 45 #[.int .i64 m.h, .int .i64 m.cap, .slice A m.l.length c, .int .i64 m.n, .int .i64 m.draws, .slice B m.sent.length d]) := mkHid ((((Blk.new _ _ _).alloc _).alloc _).alloc _)
  have ZP : Hid (Blk ((((w.alloc (.cells #[.int .i64 m.h, .int .i64 m.cap, .slice A m.l.length c, .int .i64 m.n, .int .i64 m.draws, .slice B m.sent.length d] 45)).alloc (.cells #[.int .i64 3, .int .u64 (i : Int), .int .i64 n, .int .u64 (p1.toNat : Int), .int .u64 (p2.toNat : Int)] 53)).alloc (.cells #[.int .i64 0, .int .i64 0, .slice none 0 0, .int .i64 0, .int .i64 0, .slice none 0 0] 45)).alloc (.cells #[.int .i64 0, .int .i64 0, .int .i64 0, .int .u64 0, .int .u64 0] 55)) (w.heap.size + 1) 53 #[.int .i64 3, .int .u64 (i : Int), .int .i64 n, .int .u64 (p1.toNat : Int), .int .u64 (p2.toNat : Int)]) := mkHid (((Blk.at _ _ _ (by simp)).alloc _).alloc _)
  have ZZ : Hid (Blk ((((w.alloc (.cells #[.int .i64 m.h, .int .i64 m.cap, .slice A m.l.length c, .int .i64 m.n, .int .i64 m.draws, .slice B m.sent.length d] 45)).alloc (.cells #[.int .i64 3, .int .u64 (i : Int), .int .i64 n, .int .u64 (p1.toNat : Int), .int .u64 (p2.toNat : Int)] 53)).alloc (.cells #[.int .i64 0, .int .i64 0, .slice none 0 0, .int .i64 0, .int .i64 0, .slice none 0 0] 45)).alloc (.cells #[.int .i64 0, .int .i64 0, .int .i64 0, .int .u64 0, .int .u64 0] 55)) (w.heap.size + 1 + 1) 45 #[.int .i64 0, .int .i64 0, .slice none 0 0, .int .i64 0, .int .i64 0, .slice none 0 0]) := mkHid ((Blk.at _ _ _ (by simp)).alloc _)
  have ZA : Hid (Blk ((((w.alloc (.cells #[.int .i64 m.h, .int .i64 m.cap, .slice A m.l.length c, .int .i64 m.n, .int .i64 m.draws, .slice B m.sent.length d] 45)).alloc (.cells #[.int .i64 3, .int .u64 (i : Int), .int .i64 n, .int .u64 (p1.toNat : Int), .int .u64 (p2.toNat : Int)] 53)).alloc (.cells #[.int .i64 0, .int .i64 0, .slice none 0 0, .int .i64 0, .int .i64 0, .slice none 0 0] 45)).alloc (.cells #[.int .i64 0, .int .i64 0, .int .i64 0, .int .u64 0, .int .u64 0] 55)) (w.heap.size + 1 + 1 + 1) 55 #[.int .i64 0, .int .i64 0, .int .i64 0, .int .u64 0, .int .u64 0]) := mkHid (Blk.at _ _ _ (by simp))
  have KB : Hid (Below w.heap.size w ((((w.alloc (.cells #[.int .i64 m.h, .int .i64 m.cap, .slice A m.l.length c, .int .i64 m.n, .int .i64 m.draws, .slice B m.sent.length d] 45)).alloc (.cells #[.int .i64 3, .int .u64 (i : Int), .int .i64 n, .int .u64 (p1.toNat : Int), .int .u64 (p2.toNat : Int)] 53)).alloc (.cells #[.int .i64 0, .int .i64 0, .slice none 0 0, .int .i64 0, .int .i64 0, .slice none 0 0] 45)).alloc (.cells #[.int .i64 0, .int .i64 0, .int .i64 0, .int .u64 0, .int .u64 0] 55))) := mkHid (((((Below.refl _ _).alloc (Nat.le_refl _) (.cells #[.int .i64 m.h, .int .i64 m.cap, .slice A m.l.length c, .int .i64 m.n, .int .i64 m.draws, .slice B m.sent.length d] 45)).alloc (by simp) (.cells #[.int .i64 3, .int .u64 (i : Int), .int .i64 n, .int .u64 (p1.toNat : Int), .int .u64 (p2.toNat : Int)] 53)).alloc (by simp; omega) (.cells #[.int .i64 0, .int .i64 0, .slice none 0 0, .int .i64 0, .int .i64 0, .slice none 0 0] 45)).alloc (by simp; omega) (.cells #[.int .i64 0, .int .i64 0, .int .i64 0, .int .u64 0, .int .u64 0] 55))
  have HM := mkHid (hM.below (((((Below.refl _ _).alloc (Nat.le_refl _) (.cells #[.int .i64 m.h, .int .i64 m.cap, .slice A m.l.length c, .int .i64 m.n, .int .i64 m.draws, .slice B m.sent.length d] 45)).alloc (by simp) (.cells #[.int .i64 3, .int .u64 (i : Int), .int .i64 n, .int .u64 (p1.toNat : Int), .int .u64 (p2.toNat : Int)] 53)).alloc (by simp; omega) (.cells #[.int .i64 0, .int .i64 0, .slice none 0 0, .int .i64 0, .int .i64 0, .slice none 0 0] 45)).alloc (by simp; omega) (.cells #[.int .i64 0, .int .i64 0, .int .i64 0, .int .u64 0, .int .u64 0] 55)))
  clear hM
  go_enter Try.func29, Try.ntmps29
  go_upto_region 1 with fail
  generalize ((((w.alloc (.cells #[.int .i64 m.h, .int .i64 m.cap, .slice A m.l.length c, .int .i64 m.n, .int .i64 m.draws, .slice B m.sent.length d] 45)).alloc (.cells #[.int .i64 3, .int .u64 (i : Int), .int .i64 n, .int .u64 (p1.toNat : Int), .int .u64 (p2.toNat : Int)] 53)).alloc (.cells #[.int .i64 0, .int .i64 0, .slice none 0 0, .int .i64 0, .int .i64 0, .slice none 0 0] 45)).alloc (.cells #[.int .i64 0, .int .i64 0, .int .i64 0, .int .u64 0, .int .u64 0] 55)) = w0 at *
  have lZA : w.heap.size + 1 + 1 + 1 < w0.heap.size := ZA.out.lt
  have cX := ZX.out.six
  have cP := ZP.out.five
  go_wp2_with fail
  refine (mchk e _ _ _ _ _ HM.out).mono ?_
  rintro e w1 ⟨rfl, hb⟩
  replace ZX := mkHid (ZX.out.keep hb)
  replace ZP := mkHid (ZP.out.keep hb)
  replace ZZ := mkHid (ZZ.out.keep hb)
  replace ZA := mkHid (ZA.out.keep hb)
  replace KB := mkHid (KB.out.step hb)
  replace HM := mkHid (HM.out.below hb)
  clear hb
  clear lZA cX cP
  have lZA : w.heap.size + 1 + 1 + 1 < w1.heap.size := ZA.out.lt
  have cX := ZX.out.six
  have cP := ZP.out.five
  go_wp2_with fail
  refine (mown HS.out.1 HS.out.2.1 HS.out.2.2 _ _ _ _ _ HM.out).mono ?_
  rintro e w2 ⟨⟨A1, c1, B1, d1, X1, rfl, ho⟩, hb⟩
  have HO := mkHid (ho.base (b := w.heap.size + 4) (by omega))
  clear ho HM
  replace ZX := mkHid (ZX.out.keep hb)
  replace ZP := mkHid (ZP.out.keep hb)
  replace ZZ := mkHid (ZZ.out.keep hb)
  replace ZA := mkHid (ZA.out.keep hb)
  replace KB := mkHid (KB.out.step hb)
  clear hb
  clear lZA cX cP
  have lZA : w.heap.size + 1 + 1 + 1 < w2.heap.size := ZA.out.lt
  have cX := ZX.out.six
  have cP := ZP.out.five
  have fX0 := ZX.out.frozen 0
  have fX1 := ZX.out.frozen 1
  have fX2 := ZX.out.frozen 2
  have fX3 := ZX.out.frozen 3
  have fX4 := ZX.out.frozen 4
  have fX5 := ZX.out.frozen 5
  go_upto_region 4 with fail
  replace ZX := mkHid (ZX.out.fill6 (b0 := .int .i64 m.h) (b1 := .int .i64 m.cap) (b2 := .slice A1 m.l.length c1) (b3 := .int .i64 m.n) (b4 := .int .i64 m.draws) (b5 := .slice B1 m.sent.length d1))
  replace ZP := mkHid (ZP.out.other6 (g := w.heap.size) (x0 := .int .i64 m.h) (x1 := .int .i64 m.cap) (x2 := .slice A1 m.l.length c1) (x3 := .int .i64 m.n) (x4 := .int .i64 m.draws) (x5 := .slice B1 m.sent.length d1) (by omega))
  replace ZZ := mkHid (ZZ.out.other6 (g := w.heap.size) (x0 := .int .i64 m.h) (x1 := .int .i64 m.cap) (x2 := .slice A1 m.l.length c1) (x3 := .int .i64 m.n) (x4 := .int .i64 m.draws) (x5 := .slice B1 m.sent.length d1) (by omega))
  replace ZA := mkHid (ZA.out.other6 (g := w.heap.size) (x0 := .int .i64 m.h) (x1 := .int .i64 m.cap) (x2 := .slice A1 m.l.length c1) (x3 := .int .i64 m.n) (x4 := .int .i64 m.draws) (x5 := .slice B1 m.sent.length d1) (by omega))
  replace KB := mkHid (below_six KB.out (Nat.le_refl _) (.int .i64 m.h) (.int .i64 m.cap) (.slice A1 m.l.length c1) (.int .i64 m.n) (.int .i64 m.draws) (.slice B1 m.sent.length d1))
  replace HO := mkHid (HO.out.past6 (g := w.heap.size) (by omega) (.int .i64 m.h) (.int .i64 m.cap) (.slice A1 m.l.length c1) (.int .i64 m.n) (.int .i64 m.draws) (.slice B1 m.sent.length d1))
  clear lZA cX cP fX0 fX1 fX2 fX3 fX4 fX5
  generalize ((((((w2.setCell ⟨w.heap.size, 0, none⟩ (.int .i64 m.h)).setCell ⟨w.heap.size, 1, none⟩ (.int .i64 m.cap)).setCell ⟨w.heap.size, 2, none⟩ (.slice A1 m.l.length c1)).setCell ⟨w.heap.size, 3, none⟩ (.int .i64 m.n)).setCell ⟨w.heap.size, 4, none⟩ (.int .i64 m.draws)).setCell ⟨w.heap.size, 5, none⟩ (.slice B1 m.sent.length d1)) = w3 at *
  have lZA : w.heap.size + 1 + 1 + 1 < w3.heap.size := ZA.out.lt
  have cX := ZX.out.six
  have cP := ZP.out.five
  have cA := ZA.out.five
  go_upto_region 13 with fail
  replace ZX : Hid (Blk w3.drew _ _ _) := mkHid ZX.out.drew
  replace ZP : Hid (Blk w3.drew _ _ _) := mkHid ZP.out.drew
  replace ZA : Hid (Blk w3.drew _ _ _) := mkHid ZA.out.drew
  replace ZZ : Hid (Blk w3.drew _ _ _) := mkHid ZZ.out.drew
  replace KB : Hid (Below w.heap.size w w3.drew) := mkHid KB.out.drew
  replace HO := mkHid (HO.out.below (Below.drew (Below.refl _ w3)))
  clear cX cP cA
  have k2 : w3.drew.cell? ⟨w.heap.size, 2, none⟩ = some (.slice A1 m.l.length c1) := ZX.out.cell 2
  have k5 : w3.drew.cell? ⟨w.heap.size, 5, none⟩ = some (.slice B1 m.sent.length d1) := ZX.out.cell 5
  have o3 : w3.drew.cell? ⟨w.heap.size + 1, 3, none⟩ = some (.int .u64 (p1.toNat : Int)) := ZP.out.cell 3
  have o4 : w3.drew.cell? ⟨w.heap.size + 1, 4, none⟩ = some (.int .u64 (p2.toNat : Int)) := ZP.out.cell 4
  have lZ0 : w.heap.size + 1 + 1 + 1 < w3.drew.heap.size := lZA
  clear lZA
  refine wp_region_late (late := fun i => decide (12 ≤ i)) (S := fun w' => w'.cell? ⟨w.heap.size, 2, none⟩ = some (.slice A1 m.l.length c1) ∧ w'.cell? ⟨w.heap.size, 5, none⟩ = some (.slice B1 m.sent.length d1) ∧ w'.cell? ⟨w.heap.size + 1, 3, none⟩ = some (.int .u64 (p1.toNat : Int)) ∧ w'.cell? ⟨w.heap.size + 1, 4, none⟩ = some (.int .u64 (p2.toNat : Int))) (by kernel_rfl) ?_ (fun hHeld => ?_)
  · ((try dsimp only); (try go_split_ands); refine ⟨?_, ?_, ?_, ?_⟩ <;> with_reducible assumption)
  refine Any.take (i := 0) (v := ?_) rfl (by kernel_rfl) (by kernel_rfl) (by kernel_rfl) (by kernel_rfl) (fun _ _ _ h => h) (Or.inl ⟨by rfl, ?_⟩) hHeld ?_
  rotate_left
  · intro w hSw
    (try dsimp only at hSw)
    go_simp
    all_goals with_reducible rfl
  try simp only [List.getElem_toArray, List.getElem_cons_succ, List.getElem_cons_zero, Act.put, List.setIfInBounds_toArray, List.set_cons_zero, List.set_cons_succ]
  refine Any.take (i := 1) (v := ?_) rfl (by kernel_rfl) (by kernel_rfl) (by kernel_rfl) (by kernel_rfl) (fun _ _ _ h => h) (Or.inl ⟨by rfl, ?_⟩) hHeld ?_
  rotate_left
  · intro w hSw
    (try dsimp only at hSw)
    go_simp
    all_goals with_reducible rfl
  try simp only [List.getElem_toArray, List.getElem_cons_succ, List.getElem_cons_zero, Act.put, List.setIfInBounds_toArray, List.set_cons_zero, List.set_cons_succ]
  refine Any.take (i := 2) (v := ?_) rfl (by kernel_rfl) (by kernel_rfl) (by kernel_rfl) (by kernel_rfl) (fun _ _ _ h => h) (Or.inl ⟨by rfl, ?_⟩) hHeld ?_
  rotate_left
  · intro w hSw
    (try dsimp only at hSw)
    go_simp
    all_goals with_reducible rfl
  try simp only [List.getElem_toArray, List.getElem_cons_succ, List.getElem_cons_zero, Act.put, List.setIfInBounds_toArray, List.set_cons_zero, List.set_cons_succ]
  refine Any.take (i := 3) (v := ?_) rfl (by kernel_rfl) (by kernel_rfl) (by kernel_rfl) (by kernel_rfl) (fun _ _ _ h => h) (Or.inl ⟨by rfl, ?_⟩) hHeld ?_
  rotate_left
  · intro w hSw
    (try dsimp only at hSw)
    go_simp
    all_goals with_reducible rfl
  try simp only [List.getElem_toArray, List.getElem_cons_succ, List.getElem_cons_zero, Act.put, List.setIfInBounds_toArray, List.set_cons_zero, List.set_cons_succ]
  refine Any.take (i := 5) (v := ?_) rfl (by kernel_rfl) (by kernel_rfl) (by kernel_rfl) (by kernel_rfl) (fun _ _ _ h => h) (Or.inl ⟨by rfl, ?_⟩) hHeld ?_
  rotate_left
  · intro w hSw
    (try dsimp only at hSw)
    go_simp
    all_goals with_reducible rfl
  try simp only [List.getElem_toArray, List.getElem_cons_succ, List.getElem_cons_zero, Act.put, List.setIfInBounds_toArray, List.set_cons_zero, List.set_cons_succ]
  refine Any.take (i := 6) (v := ?_) rfl (by kernel_rfl) (by kernel_rfl) (by kernel_rfl) (by kernel_rfl) (fun _ _ _ h => h) (Or.inl ⟨by rfl, ?_⟩) hHeld ?_
  rotate_left
  · intro w hSw
    (try dsimp only at hSw)
    go_simp
    all_goals with_reducible rfl
  try simp only [List.getElem_toArray, List.getElem_cons_succ, List.getElem_cons_zero, Act.put, List.setIfInBounds_toArray, List.set_cons_zero, List.set_cons_succ]
  refine Any.take (i := 7) (v := ?_) rfl (by kernel_rfl) (by kernel_rfl) (by kernel_rfl) (by kernel_rfl) (fun _ _ _ h => h) (Or.inl ⟨by rfl, ?_⟩) hHeld ?_
  rotate_left
  · intro w hSw
    (try dsimp only at hSw)
    go_simp
    all_goals with_reducible rfl
  try simp only [List.getElem_toArray, List.getElem_cons_succ, List.getElem_cons_zero, Act.put, List.setIfInBounds_toArray, List.set_cons_zero, List.set_cons_succ]
  refine Any.ready (rs := [4]) (by kernel_rfl) (by simp) ?_
  refine AllAny.cons rfl rfl (fun K hK => ?_) AllAny.nil
  go_simp
  go_at_call 56
  with_reducible refine (clone_any A1 c1 (by have := HS.out.1; omega) _ HO.out.reads).mono ?_
  (try go_split_ands)
  rintro e wa ⟨v1, rfl, ho1, hba⟩
  go_wp2_with fail
  have lZ1 := hba.size
  have NV := mkHid (RowOf.rebase (a := w.heap.size + 4) ho1 (by omega))
  clear ho1
  obtain ⟨A3, c3, rfl⟩ := NV.out.len
  replace ZX := mkHid (ZX.out.keep hba)
  replace ZZ := mkHid (ZZ.out.keep hba)
  replace ZA := mkHid (ZA.out.keep hba)
  replace HO := mkHid (HO.out.below hba)
  replace KB := mkHid (KB.out.step hba)
  replace k2 := keeps hba k2
  replace k5 := keeps hba k5
  replace o3 := keeps hba o3
  replace o4 := keeps hba o4
  clear hba
  refine hK.out _ _ ?_ (fun hHeld => ?_)
  · ((try dsimp only); (try go_split_ands); refine ⟨?_, ?_, ?_, ?_⟩ <;> with_reducible assumption)
  clear hK K
  try simp only [List.getElem_toArray, List.getElem_cons_succ, List.getElem_cons_zero, Act.put, List.setIfInBounds_toArray, List.set_cons_zero, List.set_cons_succ]
  refine Any.take (i := 8) (v := ?_) rfl (by kernel_rfl) (by kernel_rfl) (by kernel_rfl) (by kernel_rfl) (fun _ _ _ h => h) (Or.inl ⟨by rfl, ?_⟩) hHeld ?_
  rotate_left
  · intro w hSw
    (try dsimp only at hSw)
    go_simp
    all_goals with_reducible rfl
  try simp only [List.getElem_toArray, List.getElem_cons_succ, List.getElem_cons_zero, Act.put, List.setIfInBounds_toArray, List.set_cons_zero, List.set_cons_succ]
  refine Any.ready (rs := [9]) (by kernel_rfl) (by simp) ?_
  refine AllAny.cons rfl rfl (fun K hK => ?_) AllAny.nil
  go_simp
  have hb9 : Below wa.heap.size wa (wa.alloc (.cells #[.slice A3 m.l.length c3, .int .i64 ((m.sent.length : Int) + 1), .int .u64 (p1.toNat : Int), .int .u64 (p2.toNat : Int)] 66)) := (Below.refl _ _).alloc (Nat.le_refl _) _
  have ZN : Hid (Blk (wa.alloc (.cells #[.slice A3 m.l.length c3, .int .i64 ((m.sent.length : Int) + 1), .int .u64 (p1.toNat : Int), .int .u64 (p2.toNat : Int)] 66)) wa.heap.size 66 #[.slice A3 m.l.length c3, .int .i64 ((m.sent.length : Int) + 1), .int .u64 (p1.toNat : Int), .int .u64 (p2.toNat : Int)]) := mkHid (Blk.new _ _ _)
  replace ZX := mkHid (ZX.out.keep hb9)
  replace ZZ := mkHid (ZZ.out.keep hb9)
  replace ZA := mkHid (ZA.out.keep hb9)
  replace HO := mkHid (HO.out.below hb9)
  replace NV := mkHid (NV.out.below hb9)
  replace KB := mkHid (KB.out.step hb9)
  replace k2 := keeps hb9 k2
  replace k5 := keeps hb9 k5
  replace o3 := keeps hb9 o3
  replace o4 := keeps hb9 o4
  have lZ2 := hb9.size
  generalize wa.alloc (.cells #[.slice A3 m.l.length c3, .int .i64 ((m.sent.length : Int) + 1), .int .u64 (p1.toNat : Int), .int .u64 (p2.toNat : Int)] 66) = wb at *
  clear hb9
  refine hK.out _ _ ?_ (fun hHeld => ?_)
  · ((try dsimp only); (try go_split_ands); refine ⟨?_, ?_, ?_, ?_⟩ <;> with_reducible assumption)
  clear hK K
  try simp only [List.getElem_toArray, List.getElem_cons_succ, List.getElem_cons_zero, Act.put, List.setIfInBounds_toArray, List.set_cons_zero, List.set_cons_succ]
  refine Any.ready (rs := [10]) (by kernel_rfl) (by simp) ?_
  refine AllAny.cons rfl rfl (fun K hK => ?_) AllAny.nil
  have HAP := sent_append HO.out ⟨A3, c3, ⟨m.l, (m.sent.length : Int) + 1, (p1, p2)⟩⟩ NV.out ⟨wa.heap.size, 0, none⟩ (rowAt_four ZN.out) (by omega) HS.out.2.1 43
  obtain ⟨wc, B3, d3, NL, hr, hNL, ho2, hbc⟩ := HAP
  refine step_append (by rfl) _ _ _ rfl rfl rfl hr ?_
  have HNL := mkHid hNL
  clear hr hNL HO NV ZN
  have HO := mkHid ho2
  clear ho2
  replace ZX := mkHid (ZX.out.below hbc (by omega))
  replace ZZ := mkHid (ZZ.out.below hbc (by omega))
  replace ZA := mkHid (ZA.out.below hbc (by omega))
  replace KB := mkHid (KB.out.trans (hbc.mono (by omega)))
  replace k2 : wc.cell? _ = _ := (hbc.cell (p := ⟨w.heap.size, 2, none⟩) (by show w.heap.size < _; omega)).trans k2
  replace k5 : wc.cell? _ = _ := (hbc.cell (p := ⟨w.heap.size, 5, none⟩) (by show w.heap.size < _; omega)).trans k5
  replace o3 : wc.cell? _ = _ := (hbc.cell (p := ⟨w.heap.size + 1, 3, none⟩) (by show w.heap.size + 1 < _; omega)).trans o3
  replace o4 : wc.cell? _ = _ := (hbc.cell (p := ⟨w.heap.size + 1, 4, none⟩) (by show w.heap.size + 1 < _; omega)).trans o4
  have fz := ZX.out.frozen 5
  have lZA : w.heap.size + 1 + 1 + 1 < wc.heap.size := ZA.out.lt
  clear hbc lZ0 lZ1 lZ2
  refine hK.out _ _ ?_ (fun hHeld => ?_)
  · ((try dsimp only); (try go_split_ands); refine ⟨?_, ?_, ?_, ?_⟩ <;> with_reducible assumption)
  clear hK K
  try simp only [List.getElem_toArray, List.getElem_cons_succ, List.getElem_cons_zero, Act.put, List.setIfInBounds_toArray, List.set_cons_zero, List.set_cons_succ]
  refine Any.take (i := 11) (v := ?_) rfl (by kernel_rfl) (by kernel_rfl) (by kernel_rfl) (by kernel_rfl) (fun _ _ _ h => h) (Or.inl ⟨by rfl, ?_⟩) hHeld ?_
  rotate_left
  · intro w hSw
    (try dsimp only at hSw)
    go_simp
    all_goals with_reducible rfl
  try simp only [List.getElem_toArray, List.getElem_cons_succ, List.getElem_cons_zero, Act.put, List.setIfInBounds_toArray, List.set_cons_zero, List.set_cons_succ]
  refine Any.ready (rs := [12]) (by kernel_rfl) (by simp) ?_
  refine AllAny.lateCons rfl rfl (fun K hK => ?_) AllAny.nil
  go_simp
  refine hK.out _ _ ?_
  clear hK K
  try simp only [List.getElem_toArray, List.getElem_cons_succ, List.getElem_cons_zero, Act.put, List.setIfInBounds_toArray, List.set_cons_zero, List.set_cons_succ]
  refine Any.done (by kernel_rfl) ?_ _
  replace ZX : Hid (Blk (wc.setCell ⟨w.heap.size, 5, none⟩ (.slice B3 NL d3)) w.heap.size 45 #[.int .i64 m.h, .int .i64 m.cap, .slice A1 m.l.length c1, .int .i64 m.n, .int .i64 m.draws, .slice B3 NL d3]) := mkHid (ZX.out.set 5 _)
  replace ZZ := mkHid (ZZ.out.other (m := w.heap.size) (i := 5) (.slice B3 NL d3) (by omega))
  replace ZA := mkHid (ZA.out.other (m := w.heap.size) (i := 5) (.slice B3 NL d3) (by omega))
  replace KB : Hid (Below w.heap.size w (wc.setCell ⟨w.heap.size, 5, none⟩ (.slice B3 NL d3))) := mkHid (KB.out.setCell (Nat.le_refl _) _)
  replace HO := mkHid (HO.out.past (g := w.heap.size) (by omega) 5 (.slice B3 NL d3))
  clear k2 k5 o3 o4 fz
  generalize wc.setCell ⟨w.heap.size, 5, none⟩ (.slice B3 NL d3) = w4 at *
  have lZA' : w.heap.size + 1 + 1 + 1 < w4.heap.size := ZA.out.lt
  clear lZA
  have cA := ZA.out.five
  have fa1 := ZA.out.frozen 1
  have fa2 := ZA.out.frozen 2
  go_upto_region 23 with fail
  clear fa1 fa2
  have lZA := lZA'
  clear lZA'
  have ZP := mkHid trivial
  have cX := ZP
  have cP := ZP
  replace ZX : Hid (Blk ((w4.setCell ⟨w.heap.size + 1 + 1 + 1, 1, none⟩ (.int .i64 ((m.sent.length : Int) + 1))).setCell ⟨w.heap.size + 1 + 1 + 1, 2, none⟩ (.int .i64 ((m.sent.length : Int) + 1))) w.heap.size 45 #[.int .i64 m.h, .int .i64 m.cap, .slice A1 m.l.length c1, .int .i64 m.n, .int .i64 m.draws, .slice B3 NL d3]) := mkHid ((ZX.out.other _ (by omega)).other _ (by omega))
  replace ZZ : Hid (Blk ((w4.setCell ⟨w.heap.size + 1 + 1 + 1, 1, none⟩ (.int .i64 ((m.sent.length : Int) + 1))).setCell ⟨w.heap.size + 1 + 1 + 1, 2, none⟩ (.int .i64 ((m.sent.length : Int) + 1))) (w.heap.size + 1 + 1) 45 #[.int .i64 0, .int .i64 0, .slice none 0 0, .int .i64 0, .int .i64 0, .slice none 0 0]) := mkHid ((ZZ.out.other _ (by omega)).other _ (by omega))
  replace ZA : Hid (Blk ((w4.setCell ⟨w.heap.size + 1 + 1 + 1, 1, none⟩ (.int .i64 ((m.sent.length : Int) + 1))).setCell ⟨w.heap.size + 1 + 1 + 1, 2, none⟩ (.int .i64 ((m.sent.length : Int) + 1))) (w.heap.size + 1 + 1 + 1) 55 #[.int .i64 0, .int .i64 ((m.sent.length : Int) + 1), .int .i64 ((m.sent.length : Int) + 1), .int .u64 0, .int .u64 0]) := mkHid ((ZA.out.set 1 (.int .i64 ((m.sent.length : Int) + 1))).set 2 (.int .i64 ((m.sent.length : Int) + 1)))
  replace KB : Hid (Below w.heap.size w ((w4.setCell ⟨w.heap.size + 1 + 1 + 1, 1, none⟩ (.int .i64 ((m.sent.length : Int) + 1))).setCell ⟨w.heap.size + 1 + 1 + 1, 2, none⟩ (.int .i64 ((m.sent.length : Int) + 1)))) := mkHid ((KB.out.setCell (by show w.heap.size ≤ w.heap.size + 1 + 1 + 1; omega) _).setCell (by show w.heap.size ≤ w.heap.size + 1 + 1 + 1; omega) _)
  replace HO := mkHid ((HO.out.past (g := w.heap.size + 1 + 1 + 1) (by omega) 1 (.int .i64 ((m.sent.length : Int) + 1))).past (g := w.heap.size + 1 + 1 + 1) (by omega) 2 (.int .i64 ((m.sent.length : Int) + 1)))
  generalize ((w4.setCell ⟨w.heap.size + 1 + 1 + 1, 1, none⟩ (.int .i64 ((m.sent.length : Int) + 1))).setCell ⟨w.heap.size + 1 + 1 + 1, 2, none⟩ (.int .i64 ((m.sent.length : Int) + 1))) = w5 at *
  clear lZA cA
  have lZA : w.heap.size + 1 + 1 + 1 < w5.heap.size := ZA.out.lt
  have cA := ZA.out.five
  replace ZX : Hid (Blk w5.drew _ _ _) := mkHid ZX.out.drew
  replace ZA : Hid (Blk w5.drew _ _ _) := mkHid ZA.out.drew
  replace ZZ : Hid (Blk w5.drew _ _ _) := mkHid ZZ.out.drew
  replace KB : Hid (Below w.heap.size w w5.drew) := mkHid KB.out.drew
  replace HO := mkHid (HO.out.below (Below.drew (Below.refl _ w5)))
  clear cX cP cA
  have cZ := ZZ.out.six
  have cA := ZA.out.five
  have gz0 := ZZ.out.frozen 0
  have gz1 := ZZ.out.frozen 1
  have gz2 := ZZ.out.frozen 2
  have gz3 := ZZ.out.frozen 3
  have gz4 := ZZ.out.frozen 4
  have gz5 := ZZ.out.frozen 5
  have ga0 := ZA.out.frozen 0
  have ga1 := ZA.out.frozen 1
  have ga2 := ZA.out.frozen 2
  have ga3 := ZA.out.frozen 3
  have ga4 := ZA.out.frozen 4
  clear ZP
  refine wp_region_late (late := fun i => decide (3 ≤ i)) (S := fun w' => Hid (Blk w' w.heap.size 45 #[.int .i64 m.h, .int .i64 m.cap, .slice A1 m.l.length c1, .int .i64 m.n, .int .i64 m.draws, .slice B3 NL d3]) ∧ Hid (Blk w' (w.heap.size + 1 + 1 + 1) 55 #[.int .i64 0, .int .i64 ((m.sent.length : Int) + 1), .int .i64 ((m.sent.length : Int) + 1), .int .u64 0, .int .u64 0])) (by kernel_rfl) ?_ (fun hHeld => ?_)
  · ((try dsimp only); refine ⟨?_, ?_⟩ <;> first | with_reducible assumption | (with_reducible refine mkHid (Blk.other6 (Hid.out ?_) ?_) <;> first | with_reducible assumption | omega))
  generalize w5.drew = u at *
  refine Any.take (i := 0) (v := ?_) rfl (by kernel_rfl) (by kernel_rfl) (by kernel_rfl) (by kernel_rfl) (fun _ _ _ h => h) (Or.inl ⟨by rfl, ?_⟩) hHeld ?_
  rotate_left
  · intro w hSw
    (try dsimp only at hSw)
    have q := hSw.1.out.six
    clear hSw
    go_simp
    all_goals with_reducible rfl
  try simp only [List.getElem_toArray, List.getElem_cons_succ, List.getElem_cons_zero, Act.put, List.setIfInBounds_toArray, List.set_cons_zero, List.set_cons_succ]
  refine Any.take (i := 1) (v := ?_) rfl (by kernel_rfl) (by kernel_rfl) (by kernel_rfl) (by kernel_rfl) (fun _ _ _ h => h) (Or.inl ⟨by rfl, ?_⟩) hHeld ?_
  rotate_left
  · intro w hSw
    (try dsimp only at hSw)
    have q := hSw.2.out.five
    clear hSw
    go_simp
    all_goals with_reducible rfl
  try simp only [List.getElem_toArray, List.getElem_cons_succ, List.getElem_cons_zero, Act.put, List.setIfInBounds_toArray, List.set_cons_zero, List.set_cons_succ]
  refine Any.ready (rs := [2]) (by kernel_rfl) (by simp) ?_
  refine AllAny.cons rfl rfl (fun K hK => ?_) AllAny.nil
  go_simp
  refine hK.out _ _ ?_ (fun hHeld => ?_)
  · ((try dsimp only); refine ⟨?_, ?_⟩ <;> first | with_reducible assumption | (with_reducible refine mkHid (Blk.other6 (Hid.out ?_) ?_) <;> first | with_reducible assumption | omega))
  clear hK K
  try simp only [List.getElem_toArray, List.getElem_cons_succ, List.getElem_cons_zero, Act.put, List.setIfInBounds_toArray, List.set_cons_zero, List.set_cons_succ]
  refine Any.ready (rs := [3]) (by kernel_rfl) (by simp) ?_
  refine AllAny.lateCons rfl rfl (fun K hK => ?_) AllAny.nil
  go_simp
  refine hK.out _ _ ?_
  clear hK K
  try simp only [List.getElem_toArray, List.getElem_cons_succ, List.getElem_cons_zero, Act.put, List.setIfInBounds_toArray, List.set_cons_zero, List.set_cons_succ]
  refine Any.ready (rs := [4]) (by kernel_rfl) (by simp) ?_
  refine AllAny.lateCons rfl rfl (fun K hK => ?_) AllAny.nil
  go_simp
  refine hK.out _ _ ?_
  clear hK K
  try simp only [List.getElem_toArray, List.getElem_cons_succ, List.getElem_cons_zero, Act.put, List.setIfInBounds_toArray, List.set_cons_zero, List.set_cons_succ]
  refine Any.done (by kernel_rfl) ?_ _
  have qR := ((ZZ.out.fill6 (b0 := .int .i64 m.h) (b1 := .int .i64 m.cap) (b2 := .slice A1 m.l.length c1) (b3 := .int .i64 m.n) (b4 := .int .i64 m.draws) (b5 := .slice B3 NL d3)).other5 (g := w.heap.size + 1 + 1 + 1) (x0 := .int .i64 0) (x1 := .int .i64 ((m.sent.length : Int) + 1)) (x2 := .int .i64 ((m.sent.length : Int) + 1)) (x3 := .int .u64 0) (x4 := .int .u64 0) (by omega)).six
  have qA := ((ZA.out.other6 (g := w.heap.size + 1 + 1) (x0 := .int .i64 m.h) (x1 := .int .i64 m.cap) (x2 := .slice A1 m.l.length c1) (x3 := .int .i64 m.n) (x4 := .int .i64 m.draws) (x5 := .slice B3 NL d3) (by omega)).fill5 (b0 := .int .i64 0) (b1 := .int .i64 ((m.sent.length : Int) + 1)) (b2 := .int .i64 ((m.sent.length : Int) + 1)) (b3 := .int .u64 0) (b4 := .int .u64 0)).five
  go_wp2_with fail
  refine bodyPost_ret (v := .tuple #[.agg #[.int .i64 m.h, .int .i64 m.cap, .slice A1 m.l.length c1, .int .i64 m.n, .int .i64 m.draws, .slice B3 NL d3], .agg #[.int .i64 0, .int .i64 ((m.sent.length : Int) + 1), .int .i64 ((m.sent.length : Int) + 1), .int .u64 0, .int .u64 0], .int .i64 0]) (by simp [results, Try.results29, go_sem, qR, qA]) rfl ⟨_, _, _, _, (X1 ++ [⟨A3, c3, ⟨m.l, (m.sent.length : Int) + 1, (p1, p2)⟩⟩]), (by rw [HNL.out]; rfl), OwnM.base (b' := w.heap.size + 4) ?_ (by omega), below_five (below_six KB.out (by omega) _ _ _ _ _ _) (by omega) _ _ _ _ _⟩
  exact (HO.out.past6 (by omega) _ _ _ _ _ _).past5 (by omega) _ _ _ _ _
end Go.Proofs.Ytmehbonjpmlmfaa

namespace Go.Proofs.Ytmehbonjpmlmfaa
open Go.RowKit

set_option linter.unusedSimpArgs false in
set_option maxRecDepth 100000 in
set_option maxHeartbeats 4000000 in
theorem do4_err {m : ModD} {i : Nat} {n : Int} {p1 p2 : BitVec 64} (e : Hid ((if okM m then (0 : Int) else 1) = 0)) {z : Bool} {r : Int} (f : Hid (mayM m i n = (z, r))) (r0 : r ≠ 0) (A : Option Addr) (c : Nat) (B : Option Addr) (d : Nat) (w : World) (hM : MemM w A c B d m) :
    Calls Try.prog 29 #[.agg #[.int .i64 m.h, .int .i64 m.cap, .slice A m.l.length c, .int .i64 m.n, .int .i64 m.draws, .slice B m.sent.length d], .agg #[.int .i64 4, .int .u64 (i : Int), .int .i64 n, .int .u64 (p1.toNat : Int), .int .u64 (p2.toNat : Int)]] w (DoPost m (ansE r) 0 w) := by
  have HS := mkHid (okM_sizes (m := m) (by cases hk : okM m with | true => rfl | false => exact absurd e.out (by rw [hk]; simp)))
  have t0 : (r != (0 : Int)) = true := bne_iff_ne.2 r0
  clear r0
  have ZX : Hid (Blk ((((w.alloc (.cells #[.int .i64 m.h, .int .i64 m.cap, .slice A m.l.length c, .int .i64 m.n, .int .i64 m.draws, .slice B m.sent.length d] 45)).alloc (.cells #[.int .i64 4, .int .u64 (i : Int), .int .i64 n, .int .u64 (p1.toNat : Int), .int .u64 (p2.toNat : Int)] 53)).alloc (.cells #[.int .i64 0, .int .i64 0, .slice none 0 0, .int .i64 0, .int .i64 0, .slice none 0 0] 45)).alloc (.cells #[.int .i64 0, .int .i64 0, .int .i64 0, .int .u64 0, .int .u64 0] 55)) w.heap.size 45 #[.int .i64 m.h, .int .i64 m.cap, .slice A m.l.length c, .int .i64 m.n, .int .i64 m.draws, .slice B m.sent.length d]) := mkHid ((((Blk.new _ _ _).alloc _).alloc _).alloc _)
  have ZP : Hid (Blk ((((w.alloc (.cells #[.int .i64 m.h, .int .i64 m.cap, .slice A m.l.length c, .int .i64 m.n, .int .i64 m.draws, .slice B m.sent.length d] 45)).alloc (.cells #[.int .i64 4, .int .u64 (i : Int), .int .i64 n, .int .u64 (p1.toNat : Int), .int .u64 (p2.toNat : Int)] 53)).alloc (.cells #[.int .i64 0, .int .i64 0, .slice none 0 0, .int .i64 0, .int .i64 0, .slice none 0 0] 45)).alloc (.cells #[.int .i64 0, .int .i64 0, .int .i64 0, .int .u64 0, .int .u64 0] 55)) (w.heap.size + 1) 53 #[.int .i64 4, .int .u64 (i : Int), .int .i64 n, .int .u64 (p1.toNat : Int), .int .u64 (p2.toNat : Int)]) := mkHid (((Blk.at _ _ _ (by simp)).alloc _).alloc _)
  have ZZ : Hid (Blk ((((w.alloc (.cells #[.int .i64 m.h, .int .i64 m.cap, .slice A m.l.length c, .int .i64 m.n, .int .i64 m.draws, .slice B m.sent.length d] 45)).alloc (.cells #[.int .i64 4, .int .u64 (i : Int), .int .i64 n, .int .u64 (p1.toNat : Int), .int .u64 (p2.toNat : Int)] 53)).alloc (.cells #[.int .i64 0, .int .i64 0, .slice none 0 0, .int .i64 0, .int .i64 0, .slice none 0 0] 45)).alloc (.cells #[.int .i64 0, .int .i64 0, .int .i64 0, .int .u64 0, .int .u64 0] 55)) (w.heap.size + 1 + 1) 45 #[.int .i64 0, .int .i64 0, .slice none 0 0, .int .i64 0, .int .i64 0, .slice none 0 0]) := mkHid ((Blk.at _ _ _ (by simp)).alloc _)
  have ZA : Hid (Blk ((((w.alloc (.cells #[.int .i64 m.h, .int .i64 m.cap, .slice A m.l.length c, .int .i64 m.n, .int .i64 m.draws, .slice B m.sent.length d] 45)).alloc (.cells #[.int .i64 4, .int .u64 (i : Int), .int .i64 n, .int .u64 (p1.toNat : Int), .int .u64 (p2.toNat : Int)] 53)).alloc (.cells #[.int .i64 0, .int .i64 0, .slice none 0 0, .int .i64 0, .int .i64 0, .slice none 0 0] 45)).alloc (.cells #[.int .i64 0, .int .i64 0, .int .i64 0, .int .u64 0, .int .u64 0] 55)) (w.heap.size + 1 + 1 + 1) 55 #[.int .i64 0, .int .i64 0, .int .i64 0, .int .u64 0, .int .u64 0]) := mkHid (Blk.at _ _ _ (by simp))
  have KB : Hid (Below w.heap.size w ((((w.alloc (.cells #[.int .i64 m.h, .int .i64 m.cap, .slice A m.l.length c, .int .i64 m.n, .int .i64 m.draws, .slice B m.sent.length d] 45)).alloc (.cells #[.int .i64 4, .int .u64 (i : Int), .int .i64 n, .int .u64 (p1.toNat : Int), .int .u64 (p2.toNat : Int)] 53)).alloc (.cells #[.int .i64 0, .int .i64 0, .slice none 0 0, .int .i64 0, .int .i64 0, .slice none 0 0] 45)).alloc (.cells #[.int .i64 0, .int .i64 0, .int .i64 0, .int .u64 0, .int .u64 0] 55))) := mkHid (((((Below.refl _ _).alloc (Nat.le_refl _) (.cells #[.int .i64 m.h, .int .i64 m.cap, .slice A m.l.length c, .int .i64 m.n, .int .i64 m.draws, .slice B m.sent.length d] 45)).alloc (by simp) (.cells #[.int .i64 4, .int .u64 (i : Int), .int .i64 n, .int .u64 (p1.toNat : Int), .int .u64 (p2.toNat : Int)] 53)).alloc (by simp; omega) (.cells #[.int .i64 0, .int .i64 0, .slice none 0 0, .int .i64 0, .int .i64 0, .slice none 0 0] 45)).alloc (by simp; omega) (.cells #[.int .i64 0, .int .i64 0, .int .i64 0, .int .u64 0, .int .u64 0] 55))
  have HM := mkHid (hM.below (((((Below.refl _ _).alloc (Nat.le_refl _) (.cells #[.int .i64 m.h, .int .i64 m.cap, .slice A m.l.length c, .int .i64 m.n, .int .i64 m.draws, .slice B m.sent.length d] 45)).alloc (by simp) (.cells #[.int .i64 4, .int .u64 (i : Int), .int .i64 n, .int .u64 (p1.toNat : Int), .int .u64 (p2.toNat : Int)] 53)).alloc (by simp; omega) (.cells #[.int .i64 0, .int .i64 0, .slice none 0 0, .int .i64 0, .int .i64 0, .slice none 0 0] 45)).alloc (by simp; omega) (.cells #[.int .i64 0, .int .i64 0, .int .i64 0, .int .u64 0, .int .u64 0] 55)))
  clear hM
  go_enter Try.func29, Try.ntmps29
  go_upto_region 1 with fail
  generalize ((((w.alloc (.cells #[.int .i64 m.h, .int .i64 m.cap, .slice A m.l.length c, .int .i64 m.n, .int .i64 m.draws, .slice B m.sent.length d] 45)).alloc (.cells #[.int .i64 4, .int .u64 (i : Int), .int .i64 n, .int .u64 (p1.toNat : Int), .int .u64 (p2.toNat : Int)] 53)).alloc (.cells #[.int .i64 0, .int .i64 0, .slice none 0 0, .int .i64 0, .int .i64 0, .slice none 0 0] 45)).alloc (.cells #[.int .i64 0, .int .i64 0, .int .i64 0, .int .u64 0, .int .u64 0] 55)) = w0 at *
  have lZA : w.heap.size + 1 + 1 + 1 < w0.heap.size := ZA.out.lt
  have cX := ZX.out.six
  have cP := ZP.out.five
  go_wp2_with fail
  refine (mchk e _ _ _ _ _ HM.out).mono ?_
  rintro e w1 ⟨rfl, hb⟩
  replace ZX := mkHid (ZX.out.keep hb)
  replace ZP := mkHid (ZP.out.keep hb)
  replace ZZ := mkHid (ZZ.out.keep hb)
  replace ZA := mkHid (ZA.out.keep hb)
  replace KB := mkHid (KB.out.step hb)
  replace HM := mkHid (HM.out.below hb)
  clear hb
  clear lZA cX cP
  have lZA : w.heap.size + 1 + 1 + 1 < w1.heap.size := ZA.out.lt
  have cX := ZX.out.six
  have cP := ZP.out.five
  go_wp2_with fail
  refine (mown HS.out.1 HS.out.2.1 HS.out.2.2 _ _ _ _ _ HM.out).mono ?_
  rintro e w2 ⟨⟨A1, c1, B1, d1, X1, rfl, ho⟩, hb⟩
  have HO := mkHid (ho.base (b := w.heap.size + 4) (by omega))
  clear ho HM
  replace ZX := mkHid (ZX.out.keep hb)
  replace ZP := mkHid (ZP.out.keep hb)
  replace ZZ := mkHid (ZZ.out.keep hb)
  replace ZA := mkHid (ZA.out.keep hb)
  replace KB := mkHid (KB.out.step hb)
  clear hb
  clear lZA cX cP
  have lZA : w.heap.size + 1 + 1 + 1 < w2.heap.size := ZA.out.lt
  have cX := ZX.out.six
  have cP := ZP.out.five
  have fX0 := ZX.out.frozen 0
  have fX1 := ZX.out.frozen 1
  have fX2 := ZX.out.frozen 2
  have fX3 := ZX.out.frozen 3
  have fX4 := ZX.out.frozen 4
  have fX5 := ZX.out.frozen 5
  go_upto_region 4 with fail
  replace ZX := mkHid (ZX.out.fill6 (b0 := .int .i64 m.h) (b1 := .int .i64 m.cap) (b2 := .slice A1 m.l.length c1) (b3 := .int .i64 m.n) (b4 := .int .i64 m.draws) (b5 := .slice B1 m.sent.length d1))
  replace ZP := mkHid (ZP.out.other6 (g := w.heap.size) (x0 := .int .i64 m.h) (x1 := .int .i64 m.cap) (x2 := .slice A1 m.l.length c1) (x3 := .int .i64 m.n) (x4 := .int .i64 m.draws) (x5 := .slice B1 m.sent.length d1) (by omega))
  replace ZZ := mkHid (ZZ.out.other6 (g := w.heap.size) (x0 := .int .i64 m.h) (x1 := .int .i64 m.cap) (x2 := .slice A1 m.l.length c1) (x3 := .int .i64 m.n) (x4 := .int .i64 m.draws) (x5 := .slice B1 m.sent.length d1) (by omega))
  replace ZA := mkHid (ZA.out.other6 (g := w.heap.size) (x0 := .int .i64 m.h) (x1 := .int .i64 m.cap) (x2 := .slice A1 m.l.length c1) (x3 := .int .i64 m.n) (x4 := .int .i64 m.draws) (x5 := .slice B1 m.sent.length d1) (by omega))
  replace KB := mkHid (below_six KB.out (Nat.le_refl _) (.int .i64 m.h) (.int .i64 m.cap) (.slice A1 m.l.length c1) (.int .i64 m.n) (.int .i64 m.draws) (.slice B1 m.sent.length d1))
  replace HO := mkHid (HO.out.past6 (g := w.heap.size) (by omega) (.int .i64 m.h) (.int .i64 m.cap) (.slice A1 m.l.length c1) (.int .i64 m.n) (.int .i64 m.draws) (.slice B1 m.sent.length d1))
  clear lZA cX cP fX0 fX1 fX2 fX3 fX4 fX5
  generalize ((((((w2.setCell ⟨w.heap.size, 0, none⟩ (.int .i64 m.h)).setCell ⟨w.heap.size, 1, none⟩ (.int .i64 m.cap)).setCell ⟨w.heap.size, 2, none⟩ (.slice A1 m.l.length c1)).setCell ⟨w.heap.size, 3, none⟩ (.int .i64 m.n)).setCell ⟨w.heap.size, 4, none⟩ (.int .i64 m.draws)).setCell ⟨w.heap.size, 5, none⟩ (.slice B1 m.sent.length d1)) = w3 at *
  have lZA : w.heap.size + 1 + 1 + 1 < w3.heap.size := ZA.out.lt
  have cX := ZX.out.six
  have cP := ZP.out.five
  have cA := ZA.out.five
  have HMM := mkHid (HO.out.mem ⟨by have := HS.out.2.1; omega, by have := HS.out.1; omega⟩)
  have fa0 := ZA.out.frozen 0
  have fa1 := ZA.out.frozen 1
  go_wp2_with fail
  refine (mmay f _ _ _ _ _ HMM.out).mono ?_
  rintro e w4 ⟨rfl, hb⟩
  clear HMM fa0 fa1
  replace ZX := mkHid (ZX.out.keep hb)
  replace ZP := mkHid (ZP.out.keep hb)
  replace ZZ := mkHid (ZZ.out.keep hb)
  replace ZA := mkHid (ZA.out.keep hb)
  replace KB := mkHid (KB.out.step hb)
  replace HO := mkHid (HO.out.below hb)
  clear hb
  clear lZA cX cP cA
  have lZA : w.heap.size + 1 + 1 + 1 < w4.heap.size := ZA.out.lt
  have cX := ZX.out.six
  have cP := ZP.out.five
  have cA := ZA.out.five
  have fa0 := ZA.out.frozen 0
  have fa1 := ZA.out.frozen 1
  go_upto_region 23 with fail
  clear fa0 fa1
  replace ZX : Hid (Blk (w4.setCell ⟨w.heap.size + 1 + 1 + 1, 0, none⟩ (.int .i64 r)) w.heap.size 45 #[.int .i64 m.h, .int .i64 m.cap, .slice A1 m.l.length c1, .int .i64 m.n, .int .i64 m.draws, .slice B1 m.sent.length d1]) := mkHid ((ZX.out.other _ (by omega)))
  replace ZP : Hid (Blk (w4.setCell ⟨w.heap.size + 1 + 1 + 1, 0, none⟩ (.int .i64 r)) (w.heap.size + 1) 53 #[.int .i64 4, .int .u64 (i : Int), .int .i64 n, .int .u64 (p1.toNat : Int), .int .u64 (p2.toNat : Int)]) := mkHid ((ZP.out.other _ (by omega)))
  replace ZZ : Hid (Blk (w4.setCell ⟨w.heap.size + 1 + 1 + 1, 0, none⟩ (.int .i64 r)) (w.heap.size + 1 + 1) 45 #[.int .i64 0, .int .i64 0, .slice none 0 0, .int .i64 0, .int .i64 0, .slice none 0 0]) := mkHid ((ZZ.out.other _ (by omega)))
  replace ZA : Hid (Blk (w4.setCell ⟨w.heap.size + 1 + 1 + 1, 0, none⟩ (.int .i64 r)) (w.heap.size + 1 + 1 + 1) 55 #[.int .i64 r, .int .i64 0, .int .i64 0, .int .u64 0, .int .u64 0]) := mkHid ((ZA.out.set 0 (.int .i64 r)))
  replace KB : Hid (Below w.heap.size w (w4.setCell ⟨w.heap.size + 1 + 1 + 1, 0, none⟩ (.int .i64 r))) := mkHid ((KB.out.setCell (by show w.heap.size ≤ w.heap.size + 1 + 1 + 1; omega) _))
  replace HO := mkHid ((HO.out.past (g := w.heap.size + 1 + 1 + 1) (by omega) 0 (.int .i64 r)))
  generalize (w4.setCell ⟨w.heap.size + 1 + 1 + 1, 0, none⟩ (.int .i64 r)) = w5 at *
  clear lZA cX cP cA
  have lZA : w.heap.size + 1 + 1 + 1 < w5.heap.size := ZA.out.lt
  have cX := ZX.out.six
  have cP := ZP.out.five
  have cA := ZA.out.five
  replace ZX : Hid (Blk w5.drew _ _ _) := mkHid ZX.out.drew
  replace ZA : Hid (Blk w5.drew _ _ _) := mkHid ZA.out.drew
  replace ZZ : Hid (Blk w5.drew _ _ _) := mkHid ZZ.out.drew
  replace KB : Hid (Below w.heap.size w w5.drew) := mkHid KB.out.drew
  replace HO := mkHid (HO.out.below (Below.drew (Below.refl _ w5)))
  clear cX cP cA
  have cZ := ZZ.out.six
  have cA := ZA.out.five
  have gz0 := ZZ.out.frozen 0
  have gz1 := ZZ.out.frozen 1
  have gz2 := ZZ.out.frozen 2
  have gz3 := ZZ.out.frozen 3
  have gz4 := ZZ.out.frozen 4
  have gz5 := ZZ.out.frozen 5
  have ga0 := ZA.out.frozen 0
  have ga1 := ZA.out.frozen 1
  have ga2 := ZA.out.frozen 2
  have ga3 := ZA.out.frozen 3
  have ga4 := ZA.out.frozen 4
  clear ZP
  refine wp_region_late (late := fun i => decide (3 ≤ i)) (S := fun w' => Hid (Blk w' w.heap.size 45 #[.int .i64 m.h, .int .i64 m.cap, .slice A1 m.l.length c1, .int .i64 m.n, .int .i64 m.draws, .slice B1 m.sent.length d1]) ∧ Hid (Blk w' (w.heap.size + 1 + 1 + 1) 55 #[.int .i64 r, .int .i64 0, .int .i64 0, .int .u64 0, .int .u64 0])) (by kernel_rfl) ?_ (fun hHeld => ?_)
  · ((try dsimp only); refine ⟨?_, ?_⟩ <;> first | with_reducible assumption | (with_reducible refine mkHid (Blk.other6 (Hid.out ?_) ?_) <;> first | with_reducible assumption | omega))
  generalize w5.drew = u at *
  refine Any.take (i := 0) (v := ?_) rfl (by kernel_rfl) (by kernel_rfl) (by kernel_rfl) (by kernel_rfl) (fun _ _ _ h => h) (Or.inl ⟨by rfl, ?_⟩) hHeld ?_
  rotate_left
  · intro w hSw
    (try dsimp only at hSw)
    have q := hSw.1.out.six
    clear hSw
    go_simp
    all_goals with_reducible rfl
  try simp only [List.getElem_toArray, List.getElem_cons_succ, List.getElem_cons_zero, Act.put, List.setIfInBounds_toArray, List.set_cons_zero, List.set_cons_succ]
  refine Any.take (i := 1) (v := ?_) rfl (by kernel_rfl) (by kernel_rfl) (by kernel_rfl) (by kernel_rfl) (fun _ _ _ h => h) (Or.inl ⟨by rfl, ?_⟩) hHeld ?_
  rotate_left
  · intro w hSw
    (try dsimp only at hSw)
    have q := hSw.2.out.five
    clear hSw
    go_simp
    all_goals with_reducible rfl
  try simp only [List.getElem_toArray, List.getElem_cons_succ, List.getElem_cons_zero, Act.put, List.setIfInBounds_toArray, List.set_cons_zero, List.set_cons_succ]
  refine Any.ready (rs := [2]) (by kernel_rfl) (by simp) ?_
  refine AllAny.cons rfl rfl (fun K hK => ?_) AllAny.nil
  go_simp
  refine hK.out _ _ ?_ (fun hHeld => ?_)
  · ((try dsimp only); refine ⟨?_, ?_⟩ <;> first | with_reducible assumption | (with_reducible refine mkHid (Blk.other6 (Hid.out ?_) ?_) <;> first | with_reducible assumption | omega))
  clear hK K
  try simp only [List.getElem_toArray, List.getElem_cons_succ, List.getElem_cons_zero, Act.put, List.setIfInBounds_toArray, List.set_cons_zero, List.set_cons_succ]
  refine Any.ready (rs := [3]) (by kernel_rfl) (by simp) ?_
  refine AllAny.lateCons rfl rfl (fun K hK => ?_) AllAny.nil
  go_simp
  refine hK.out _ _ ?_
  clear hK K
  try simp only [List.getElem_toArray, List.getElem_cons_succ, List.getElem_cons_zero, Act.put, List.setIfInBounds_toArray, List.set_cons_zero, List.set_cons_succ]
  refine Any.ready (rs := [4]) (by kernel_rfl) (by simp) ?_
  refine AllAny.lateCons rfl rfl (fun K hK => ?_) AllAny.nil
  go_simp
  refine hK.out _ _ ?_
  clear hK K
  try simp only [List.getElem_toArray, List.getElem_cons_succ, List.getElem_cons_zero, Act.put, List.setIfInBounds_toArray, List.set_cons_zero, List.set_cons_succ]
  refine Any.done (by kernel_rfl) ?_ _
  have qR := ((ZZ.out.fill6 (b0 := .int .i64 m.h) (b1 := .int .i64 m.cap) (b2 := .slice A1 m.l.length c1) (b3 := .int .i64 m.n) (b4 := .int .i64 m.draws) (b5 := .slice B1 m.sent.length d1)).other5 (g := w.heap.size + 1 + 1 + 1) (x0 := .int .i64 r) (x1 := .int .i64 0) (x2 := .int .i64 0) (x3 := .int .u64 0) (x4 := .int .u64 0) (by omega)).six
  have qA := ((ZA.out.other6 (g := w.heap.size + 1 + 1) (x0 := .int .i64 m.h) (x1 := .int .i64 m.cap) (x2 := .slice A1 m.l.length c1) (x3 := .int .i64 m.n) (x4 := .int .i64 m.draws) (x5 := .slice B1 m.sent.length d1) (by omega)).fill5 (b0 := .int .i64 r) (b1 := .int .i64 0) (b2 := .int .i64 0) (b3 := .int .u64 0) (b4 := .int .u64 0)).five
  go_wp2_with fail
  refine bodyPost_ret (v := .tuple #[.agg #[.int .i64 m.h, .int .i64 m.cap, .slice A1 m.l.length c1, .int .i64 m.n, .int .i64 m.draws, .slice B1 m.sent.length d1], .agg #[.int .i64 r, .int .i64 0, .int .i64 0, .int .u64 0, .int .u64 0], .int .i64 0]) (by simp [results, Try.results29, go_sem, qR, qA]) rfl ⟨_, _, _, _, X1, rfl, OwnM.base (b' := w.heap.size + 4) ?_ (by omega), below_five (below_six KB.out (by omega) _ _ _ _ _ _) (by omega) _ _ _ _ _⟩
  exact (HO.out.past6 (by omega) _ _ _ _ _ _).past5 (by omega) _ _ _ _ _

set_option linter.unusedSimpArgs false in
set_option maxRecDepth 100000 in
set_option maxHeartbeats 4000000 in
theorem do4_no {m : ModD} {i : Nat} {n : Int} {p1 p2 : BitVec 64} (e : Hid ((if okM m then (0 : Int) else 1) = 0)) (f : Hid (mayM m i n = (false, 0))) (A : Option Addr) (c : Nat) (B : Option Addr) (d : Nat) (w : World) (hM : MemM w A c B d m) :
    Calls Try.prog 29 #[.agg #[.int .i64 m.h, .int .i64 m.cap, .slice A m.l.length c, .int .i64 m.n, .int .i64 m.draws, .slice B m.sent.length d], .agg #[.int .i64 4, .int .u64 (i : Int), .int .i64 n, .int .u64 (p1.toNat : Int), .int .u64 (p2.toNat : Int)]] w (DoPost m ⟨4, n, 0, (0, 0)⟩ 0 w) := by
  have HS := mkHid (okM_sizes (m := m) (by cases hk : okM m with | true => rfl | false => exact absurd e.out (by rw [hk]; simp)))
  have ZX : Hid (Blk ((((w.alloc (.cells #[.int .i64 m.h, .int .i64 m.cap, .slice A m.l.length c, .int .i64 m.n, .int .i64 m.draws, .slice B m.sent.length d] 45)).alloc (.cells #[.int .i64 4, .int .u64 (i : Int), .int .i64 n, .int .u64 (p1.toNat : Int), .int .u64 (p2.toNat : Int)] 53)).alloc (.cells #[.int .i64 0, .int .i64 0, .slice none 0 0, .int .i64 0, .int .i64 0, .slice none 0 0] 45)).alloc (.cells #[.int .i64 0, .int .i64 0, .int .i64 0, .int .u64 0, .int .u64 0] 55)) w.heap.size 45 #[.int .i64 m.h, .int .i64 m.cap, .slice A m.l.length c, .int .i64 m.n, .int .i64 m.draws, .slice B m.sent.length d]) := mkHid ((((Blk.new _ _ _).alloc _).alloc _).alloc _)
  have ZP : Hid (Blk ((((w.alloc (.cells #[.int .i64 m.h, .int .i64 m.cap, .slice A m.l.length c, .int .i64 m.n, .int .i64 m.draws, .slice B m.sent.length d] 45)).alloc (.cells #[.int .i64 4, .int .u64 (i : Int), .int .i64 n, .int .u64 (p1.toNat : Int), .int .u64 (p2.toNat : Int)] 53)).alloc (.cells #[.int .i64 0, .int .i64 0, .slice none 0 0, .int .i64 0, .int .i64 0, .slice none 0 0] 45)).alloc (.cells #[.int .i64 0, .int .i64 0, .int .i64 0, .int .u64 0, .int .u64 0] 55)) (w.heap.size + 1) 53 #[.int .i64 4, .int .u64 (i : Int), .int .i64 n, .int .u64 (p1.toNat : Int), .int .u64 (p2.toNat : Int)]) := mkHid (((Blk.at _ _ _ (by simp)).alloc _).alloc _)
  have ZZ : Hid (Blk ((((w.alloc (.cells #[.int .i64 m.h, .int .i64 m.cap, .slice A m.l.length c, .int .i64 m.n, .int .i64 m.draws, .slice B m.sent.length d] 45)).alloc (.cells #[.int .i64 4, .int .u64 (i : Int), .int .i64 n, .int .u64 (p1.toNat : Int), .int .u64 (p2.toNat : Int)] 53)).alloc (.cells #[.int .i64 0, .int .i64 0, .slice none 0 0, .int .i64 0, .int .i64 0, .slice none 0 0] 45)).alloc (.cells #[.int .i64 0, .int .i64 0, .int .i64 0, .int .u64 0, .int .u64 0] 55)) (w.heap.size + 1 + 1) 45 #[.int .i64 0, .int .i64 0, .slice none 0 0, .int .i64 0, .int .i64 0, .slice none 0 0]) := mkHid ((Blk.at _ _ _ (by simp)).alloc _)
  have ZA : Hid (Blk ((((w.alloc (.cells #[.int .i64 m.h, .int .i64 m.cap, .slice A m.l.length c, .int .i64 m.n, .int .i64 m.draws, .slice B m.sent.length d] 45)).alloc (.cells #[.int .i64 4, .int .u64 (i : Int), .int .i64 n, .int .u64 (p1.toNat : Int), .int .u64 (p2.toNat : Int)] 53)).alloc (.cells #[.int .i64 0, .int .i64 0, .slice none 0 0, .int .i64 0, .int .i64 0, .slice none 0 0] 45)).alloc (.cells #[.int .i64 0, .int .i64 0, .int .i64 0, .int .u64 0, .int .u64 0] 55)) (w.heap.size + 1 + 1 + 1) 55 #[.int .i64 0, .int .i64 0, .int .i64 0, .int .u64 0, .int .u64 0]) := mkHid (Blk.at _ _ _ (by simp))
  have KB : Hid (Below w.heap.size w ((((w.alloc (.cells #[.int .i64 m.h, .int .i64 m.cap, .slice A m.l.length c, .int .i64 m.n, .int .i64 m.draws, .slice B m.sent.length d] 45)).alloc (.cells #[.int .i64 4, .int .u64 (i : Int), .int .i64 n, .int .u64 (p1.toNat : Int), .int .u64 (p2.toNat : Int)] 53)).alloc (.cells #[.int .i64 0, .int .i64 0, .slice none 0 0, .int .i64 0, .int .i64 0, .slice none 0 0] 45)).alloc (.cells #[.int .i64 0, .int .i64 0, .int .i64 0, .int .u64 0, .int .u64 0] 55))) := mkHid (((((Below.refl _ _).alloc (Nat.le_refl _) (.cells #[.int .i64 m.h, .int .i64 m.cap, .slice A m.l.length c, .int .i64 m.n, .int .i64 m.draws, .slice B m.sent.length d] 45)).alloc (by simp) (.cells #[.int .i64 4, .int .u64 (i : Int), .int .i64 n, .int .u64 (p1.toNat : Int), .int .u64 (p2.toNat : Int)] 53)).alloc (by simp; omega) (.cells #[.int .i64 0, .int .i64 0, .slice none 0 0, .int .i64 0, .int .i64 0, .slice none 0 0] 45)).alloc (by simp; omega) (.cells #[.int .i64 0, .int .i64 0, .int .i64 0, .int .u64 0, .int .u64 0] 55))
  have HM := mkHid (hM.below (((((Below.refl _ _).alloc (Nat.le_refl _) (.cells #[.int .i64 m.h, .int .i64 m.cap, .slice A m.l.length c, .int .i64 m.n, .int .i64 m.draws, .slice B m.sent.length d] 45)).alloc (by simp) (.cells #[.int .i64 4, .int .u64 (i : Int), .int .i64 n, .int .u64 (p1.toNat : Int), .int .u64 (p2.toNat : Int)] 53)).alloc (by simp; omega) (.cells #[.int .i64 0, .int .i64 0, .slice none 0 0, .int .i64 0, .int .i64 0, .slice none 0 0] 45)).alloc (by simp; omega) (.cells #[.int .i64 0, .int .i64 0, .int .i64 0, .int .u64 0, .int .u64 0] 55)))
  clear hM
  go_enter Try.func29, Try.ntmps29
  go_upto_region 1 with fail
  generalize ((((w.alloc (.cells #[.int .i64 m.h, .int .i64 m.cap, .slice A m.l.length c, .int .i64 m.n, .int .i64 m.draws, .slice B m.sent.length d] 45)).alloc (.cells #[.int .i64 4, .int .u64 (i : Int), .int .i64 n, .int .u64 (p1.toNat : Int), .int .u64 (p2.toNat : Int)] 53)).alloc (.cells #[.int .i64 0, .int .i64 0, .slice none 0 0, .int .i64 0, .int .i64 0, .slice none 0 0] 45)).alloc (.cells #[.int .i64 0, .int .i64 0, .int .i64 0, .int .u64 0, .int .u64 0] 55)) = w0 at *
  have lZA : w.heap.size + 1 + 1 + 1 < w0.heap.size := ZA.out.lt
  have cX := ZX.out.six
  have cP := ZP.out.five
  go_wp2_with fail
  refine (mchk e _ _ _ _ _ HM.out).mono ?_
  rintro e w1 ⟨rfl, hb⟩
  replace ZX := mkHid (ZX.out.keep hb)
  replace ZP := mkHid (ZP.out.keep hb)
  replace ZZ := mkHid (ZZ.out.keep hb)
  replace ZA := mkHid (ZA.out.keep hb)
  replace KB := mkHid (KB.out.step hb)
  replace HM := mkHid (HM.out.below hb)
  clear hb
  clear lZA cX cP
  have lZA : w.heap.size + 1 + 1 + 1 < w1.heap.size := ZA.out.lt
  have cX := ZX.out.six
  have cP := ZP.out.five
  go_wp2_with fail
  refine (mown HS.out.1 HS.out.2.1 HS.out.2.2 _ _ _ _ _ HM.out).mono ?_
  rintro e w2 ⟨⟨A1, c1, B1, d1, X1, rfl, ho⟩, hb⟩
  have HO := mkHid (ho.base (b := w.heap.size + 4) (by omega))
  clear ho HM
  replace ZX := mkHid (ZX.out.keep hb)
  replace ZP := mkHid (ZP.out.keep hb)
  replace ZZ := mkHid (ZZ.out.keep hb)
  replace ZA := mkHid (ZA.out.keep hb)
  replace KB := mkHid (KB.out.step hb)
  clear hb
  clear lZA cX cP
  have lZA : w.heap.size + 1 + 1 + 1 < w2.heap.size := ZA.out.lt
  have cX := ZX.out.six
  have cP := ZP.out.five
  have fX0 := ZX.out.frozen 0
  have fX1 := ZX.out.frozen 1
  have fX2 := ZX.out.frozen 2
  have fX3 := ZX.out.frozen 3
  have fX4 := ZX.out.frozen 4
  have fX5 := ZX.out.frozen 5
  go_upto_region 4 with fail
  replace ZX := mkHid (ZX.out.fill6 (b0 := .int .i64 m.h) (b1 := .int .i64 m.cap) (b2 := .slice A1 m.l.length c1) (b3 := .int .i64 m.n) (b4 := .int .i64 m.draws) (b5 := .slice B1 m.sent.length d1))
  replace ZP := mkHid (ZP.out.other6 (g := w.heap.size) (x0 := .int .i64 m.h) (x1 := .int .i64 m.cap) (x2 := .slice A1 m.l.length c1) (x3 := .int .i64 m.n) (x4 := .int .i64 m.draws) (x5 := .slice B1 m.sent.length d1) (by omega))
  replace ZZ := mkHid (ZZ.out.other6 (g := w.heap.size) (x0 := .int .i64 m.h) (x1 := .int .i64 m.cap) (x2 := .slice A1 m.l.length c1) (x3 := .int .i64 m.n) (x4 := .int .i64 m.draws) (x5 := .slice B1 m.sent.length d1) (by omega))
  replace ZA := mkHid (ZA.out.other6 (g := w.heap.size) (x0 := .int .i64 m.h) (x1 := .int .i64 m.cap) (x2 := .slice A1 m.l.length c1) (x3 := .int .i64 m.n) (x4 := .int .i64 m.draws) (x5 := .slice B1 m.sent.length d1) (by omega))
  replace KB := mkHid (below_six KB.out (Nat.le_refl _) (.int .i64 m.h) (.int .i64 m.cap) (.slice A1 m.l.length c1) (.int .i64 m.n) (.int .i64 m.draws) (.slice B1 m.sent.length d1))
  replace HO := mkHid (HO.out.past6 (g := w.heap.size) (by omega) (.int .i64 m.h) (.int .i64 m.cap) (.slice A1 m.l.length c1) (.int .i64 m.n) (.int .i64 m.draws) (.slice B1 m.sent.length d1))
  clear lZA cX cP fX0 fX1 fX2 fX3 fX4 fX5
  generalize ((((((w2.setCell ⟨w.heap.size, 0, none⟩ (.int .i64 m.h)).setCell ⟨w.heap.size, 1, none⟩ (.int .i64 m.cap)).setCell ⟨w.heap.size, 2, none⟩ (.slice A1 m.l.length c1)).setCell ⟨w.heap.size, 3, none⟩ (.int .i64 m.n)).setCell ⟨w.heap.size, 4, none⟩ (.int .i64 m.draws)).setCell ⟨w.heap.size, 5, none⟩ (.slice B1 m.sent.length d1)) = w3 at *
  have lZA : w.heap.size + 1 + 1 + 1 < w3.heap.size := ZA.out.lt
  have cX := ZX.out.six
  have cP := ZP.out.five
  have cA := ZA.out.five
  have HMM := mkHid (HO.out.mem ⟨by have := HS.out.2.1; omega, by have := HS.out.1; omega⟩)
  have fa0 := ZA.out.frozen 0
  have fa1 := ZA.out.frozen 1
  go_wp2_with fail
  refine (mmay f _ _ _ _ _ HMM.out).mono ?_
  rintro e w4 ⟨rfl, hb⟩
  clear HMM fa0 fa1
  replace ZX := mkHid (ZX.out.keep hb)
  replace ZP := mkHid (ZP.out.keep hb)
  replace ZZ := mkHid (ZZ.out.keep hb)
  replace ZA := mkHid (ZA.out.keep hb)
  replace KB := mkHid (KB.out.step hb)
  replace HO := mkHid (HO.out.below hb)
  clear hb
  clear lZA cX cP cA
  have lZA : w.heap.size + 1 + 1 + 1 < w4.heap.size := ZA.out.lt
  have cX := ZX.out.six
  have cP := ZP.out.five
  have cA := ZA.out.five
  have fa0 := ZA.out.frozen 0
  have fa1 := ZA.out.frozen 1
  go_upto_region 23 with fail
  clear fa0 fa1
  replace ZX : Hid (Blk (((w4.setCell ⟨w.heap.size + 1 + 1 + 1, 0, none⟩ (.int .i64 0)).setCell ⟨w.heap.size + 1 + 1 + 1, 1, none⟩ (.int .i64 n)).setCell ⟨w.heap.size + 1 + 1 + 1, 0, none⟩ (.int .i64 4)) w.heap.size 45 #[.int .i64 m.h, .int .i64 m.cap, .slice A1 m.l.length c1, .int .i64 m.n, .int .i64 m.draws, .slice B1 m.sent.length d1]) := mkHid ((((ZX.out.other _ (by omega)).other _ (by omega)).other _ (by omega)))
  replace ZP : Hid (Blk (((w4.setCell ⟨w.heap.size + 1 + 1 + 1, 0, none⟩ (.int .i64 0)).setCell ⟨w.heap.size + 1 + 1 + 1, 1, none⟩ (.int .i64 n)).setCell ⟨w.heap.size + 1 + 1 + 1, 0, none⟩ (.int .i64 4)) (w.heap.size + 1) 53 #[.int .i64 4, .int .u64 (i : Int), .int .i64 n, .int .u64 (p1.toNat : Int), .int .u64 (p2.toNat : Int)]) := mkHid ((((ZP.out.other _ (by omega)).other _ (by omega)).other _ (by omega)))
  replace ZZ : Hid (Blk (((w4.setCell ⟨w.heap.size + 1 + 1 + 1, 0, none⟩ (.int .i64 0)).setCell ⟨w.heap.size + 1 + 1 + 1, 1, none⟩ (.int .i64 n)).setCell ⟨w.heap.size + 1 + 1 + 1, 0, none⟩ (.int .i64 4)) (w.heap.size + 1 + 1) 45 #[.int .i64 0, .int .i64 0, .slice none 0 0, .int .i64 0, .int .i64 0, .slice none 0 0]) := mkHid ((((ZZ.out.other _ (by omega)).other _ (by omega)).other _ (by omega)))
  replace ZA : Hid (Blk (((w4.setCell ⟨w.heap.size + 1 + 1 + 1, 0, none⟩ (.int .i64 0)).setCell ⟨w.heap.size + 1 + 1 + 1, 1, none⟩ (.int .i64 n)).setCell ⟨w.heap.size + 1 + 1 + 1, 0, none⟩ (.int .i64 4)) (w.heap.size + 1 + 1 + 1) 55 #[.int .i64 4, .int .i64 n, .int .i64 0, .int .u64 0, .int .u64 0]) := mkHid ((((ZA.out.set 0 (.int .i64 0)).set 1 (.int .i64 n)).set 0 (.int .i64 4)))
  replace KB : Hid (Below w.heap.size w (((w4.setCell ⟨w.heap.size + 1 + 1 + 1, 0, none⟩ (.int .i64 0)).setCell ⟨w.heap.size + 1 + 1 + 1, 1, none⟩ (.int .i64 n)).setCell ⟨w.heap.size + 1 + 1 + 1, 0, none⟩ (.int .i64 4))) := mkHid ((((KB.out.setCell (by show w.heap.size ≤ w.heap.size + 1 + 1 + 1; omega) _).setCell (by show w.heap.size ≤ w.heap.size + 1 + 1 + 1; omega) _).setCell (by show w.heap.size ≤ w.heap.size + 1 + 1 + 1; omega) _))
  replace HO := mkHid ((((HO.out.past (g := w.heap.size + 1 + 1 + 1) (by omega) 0 (.int .i64 0)).past (g := w.heap.size + 1 + 1 + 1) (by omega) 1 (.int .i64 n)).past (g := w.heap.size + 1 + 1 + 1) (by omega) 0 (.int .i64 4)))
  generalize (((w4.setCell ⟨w.heap.size + 1 + 1 + 1, 0, none⟩ (.int .i64 0)).setCell ⟨w.heap.size + 1 + 1 + 1, 1, none⟩ (.int .i64 n)).setCell ⟨w.heap.size + 1 + 1 + 1, 0, none⟩ (.int .i64 4)) = w5 at *
  clear lZA cX cP cA
  have lZA : w.heap.size + 1 + 1 + 1 < w5.heap.size := ZA.out.lt
  have cX := ZX.out.six
  have cP := ZP.out.five
  have cA := ZA.out.five
  replace ZX : Hid (Blk w5.drew _ _ _) := mkHid ZX.out.drew
  replace ZA : Hid (Blk w5.drew _ _ _) := mkHid ZA.out.drew
  replace ZZ : Hid (Blk w5.drew _ _ _) := mkHid ZZ.out.drew
  replace KB : Hid (Below w.heap.size w w5.drew) := mkHid KB.out.drew
  replace HO := mkHid (HO.out.below (Below.drew (Below.refl _ w5)))
  clear cX cP cA
  have cZ := ZZ.out.six
  have cA := ZA.out.five
  have gz0 := ZZ.out.frozen 0
  have gz1 := ZZ.out.frozen 1
  have gz2 := ZZ.out.frozen 2
  have gz3 := ZZ.out.frozen 3
  have gz4 := ZZ.out.frozen 4
  have gz5 := ZZ.out.frozen 5
  have ga0 := ZA.out.frozen 0
  have ga1 := ZA.out.frozen 1
  have ga2 := ZA.out.frozen 2
  have ga3 := ZA.out.frozen 3
  have ga4 := ZA.out.frozen 4
  clear ZP
  refine wp_region_late (late := fun i => decide (3 ≤ i)) (S := fun w' => Hid (Blk w' w.heap.size 45 #[.int .i64 m.h, .int .i64 m.cap, .slice A1 m.l.length c1, .int .i64 m.n, .int .i64 m.draws, .slice B1 m.sent.length d1]) ∧ Hid (Blk w' (w.heap.size + 1 + 1 + 1) 55 #[.int .i64 4, .int .i64 n, .int .i64 0, .int .u64 0, .int .u64 0])) (by kernel_rfl) ?_ (fun hHeld => ?_)
  · ((try dsimp only); refine ⟨?_, ?_⟩ <;> first | with_reducible assumption | (with_reducible refine mkHid (Blk.other6 (Hid.out ?_) ?_) <;> first | with_reducible assumption | omega))
  generalize w5.drew = u at *
  refine Any.take (i := 0) (v := ?_) rfl (by kernel_rfl) (by kernel_rfl) (by kernel_rfl) (by kernel_rfl) (fun _ _ _ h => h) (Or.inl ⟨by rfl, ?_⟩) hHeld ?_
  rotate_left
  · intro w hSw
    (try dsimp only at hSw)
    have q := hSw.1.out.six
    clear hSw
    go_simp
    all_goals with_reducible rfl
  try simp only [List.getElem_toArray, List.getElem_cons_succ, List.getElem_cons_zero, Act.put, List.setIfInBounds_toArray, List.set_cons_zero, List.set_cons_succ]
  refine Any.take (i := 1) (v := ?_) rfl (by kernel_rfl) (by kernel_rfl) (by kernel_rfl) (by kernel_rfl) (fun _ _ _ h => h) (Or.inl ⟨by rfl, ?_⟩) hHeld ?_
  rotate_left
  · intro w hSw
    (try dsimp only at hSw)
    have q := hSw.2.out.five
    clear hSw
    go_simp
    all_goals with_reducible rfl
  try simp only [List.getElem_toArray, List.getElem_cons_succ, List.getElem_cons_zero, Act.put, List.setIfInBounds_toArray, List.set_cons_zero, List.set_cons_succ]
  refine Any.ready (rs := [2]) (by kernel_rfl) (by simp) ?_
  refine AllAny.cons rfl rfl (fun K hK => ?_) AllAny.nil
  go_simp
  refine hK.out _ _ ?_ (fun hHeld => ?_)
  · ((try dsimp only); refine ⟨?_, ?_⟩ <;> first | with_reducible assumption | (with_reducible refine mkHid (Blk.other6 (Hid.out ?_) ?_) <;> first | with_reducible assumption | omega))
  clear hK K
  try simp only [List.getElem_toArray, List.getElem_cons_succ, List.getElem_cons_zero, Act.put, List.setIfInBounds_toArray, List.set_cons_zero, List.set_cons_succ]
  refine Any.ready (rs := [3]) (by kernel_rfl) (by simp) ?_
  refine AllAny.lateCons rfl rfl (fun K hK => ?_) AllAny.nil
  go_simp
  refine hK.out _ _ ?_
  clear hK K
  try simp only [List.getElem_toArray, List.getElem_cons_succ, List.getElem_cons_zero, Act.put, List.setIfInBounds_toArray, List.set_cons_zero, List.set_cons_succ]
  refine Any.ready (rs := [4]) (by kernel_rfl) (by simp) ?_
  refine AllAny.lateCons rfl rfl (fun K hK => ?_) AllAny.nil
  go_simp
  refine hK.out _ _ ?_
  clear hK K
  try simp only [List.getElem_toArray, List.getElem_cons_succ, List.getElem_cons_zero, Act.put, List.setIfInBounds_toArray, List.set_cons_zero, List.set_cons_succ]
  refine Any.done (by kernel_rfl) ?_ _
  have qR := ((ZZ.out.fill6 (b0 := .int .i64 m.h) (b1 := .int .i64 m.cap) (b2 := .slice A1 m.l.length c1) (b3 := .int .i64 m.n) (b4 := .int .i64 m.draws) (b5 := .slice B1 m.sent.length d1)).other5 (g := w.heap.size + 1 + 1 + 1) (x0 := .int .i64 4) (x1 := .int .i64 n) (x2 := .int .i64 0) (x3 := .int .u64 0) (x4 := .int .u64 0) (by omega)).six
  have qA := ((ZA.out.other6 (g := w.heap.size + 1 + 1) (x0 := .int .i64 m.h) (x1 := .int .i64 m.cap) (x2 := .slice A1 m.l.length c1) (x3 := .int .i64 m.n) (x4 := .int .i64 m.draws) (x5 := .slice B1 m.sent.length d1) (by omega)).fill5 (b0 := .int .i64 4) (b1 := .int .i64 n) (b2 := .int .i64 0) (b3 := .int .u64 0) (b4 := .int .u64 0)).five
  go_wp2_with fail
  refine bodyPost_ret (v := .tuple #[.agg #[.int .i64 m.h, .int .i64 m.cap, .slice A1 m.l.length c1, .int .i64 m.n, .int .i64 m.draws, .slice B1 m.sent.length d1], .agg #[.int .i64 4, .int .i64 n, .int .i64 0, .int .u64 0, .int .u64 0], .int .i64 0]) (by simp [results, Try.results29, go_sem, qR, qA]) rfl ⟨_, _, _, _, X1, rfl, OwnM.base (b' := w.heap.size + 4) ?_ (by omega), below_five (below_six KB.out (by omega) _ _ _ _ _ _) (by omega) _ _ _ _ _⟩
  exact (HO.out.past6 (by omega) _ _ _ _ _ _).past5 (by omega) _ _ _ _ _

set_option linter.unusedSimpArgs false in
set_option maxRecDepth 100000 in
set_option maxHeartbeats 4000000 in
theorem do4_yes {m : ModD} {i : Nat} {p1 p2 : BitVec 64} (e : Hid ((if okM m then (0 : Int) else 1) = 0)) {j : Nat} (hj : j < m.sent.length) {sd : Int} {so : List Nat} {s1 s2 : BitVec 64} (HSJ : Hid (m.sent[j] = ⟨so, sd, (s1, s2)⟩)) (f : Hid (mayM m i ((j : Int) + 1) = (true, 0))) (A : Option Addr) (c : Nat) (B : Option Addr) (d : Nat) (w : World) (hM : MemM w A c B d m) :
    Calls Try.prog 29 #[.agg #[.int .i64 m.h, .int .i64 m.cap, .slice A m.l.length c, .int .i64 m.n, .int .i64 m.draws, .slice B m.sent.length d], .agg #[.int .i64 4, .int .u64 (i : Int), .int .i64 ((j : Int) + 1), .int .u64 (p1.toNat : Int), .int .u64 (p2.toNat : Int)]] w (DoPost m ⟨0, (j : Int) + 1, (sd : Int), (s1, s2)⟩ 0 w) := by
  have HS := mkHid (okM_sizes (m := m) (by cases hk : okM m with | true => rfl | false => exact absurd e.out (by rw [hk]; simp)))
  have ZX : Hid (Blk ((((w.alloc (.cells #[.int .i64 m.h, .int .i64 m.cap, .slice A m.l.length c, .int .i64 m.n, .int .i64 m.draws, .slice B m.sent.length d] 45)).alloc (.cells #[.int .i64 4, .int .u64 (i : Int), .int .i64 ((j : Int) + 1), .int .u64 (p1.toNat : Int), .int .u64 (p2.toNat : Int)] 53)).alloc (.cells #[.int .i64 0, .int .i64 0, .slice none 0 0, .int .i64 0, .int .i64 0, .slice none 0 0] 45)).alloc (.cells #[.int .i64 0, .int .i64 0, .int .i64 0, .int .u64 0, .int .u64 0] 55)) w.heap.size 45 #[.int .i64 m.h, .int .i64 m.cap, .slice A m.l.length c, .int .i64 m.n, .int .i64 m.draws, .slice B m.sent.length d]) := mkHid ((((Blk.new _ _ _).alloc _).alloc _).alloc _)
  have ZP : Hid (Blk ((((w.alloc (.cells #[.int .i64 m.h, .int .i64 m.cap, .slice A m.l.length c, .int .i64 m.n, .int .i64 m.draws, .slice B m.sent.length d] 45)).alloc (.cells #[.int .i64 4, .int .u64 (i : Int), .int .i64 ((j : Int) + 1), .int .u64 (p1.toNat : Int), .int .u64 (p2.toNat : Int)] 53)).alloc (.cells #[.int .i64 0, .int .i64 0, .slice none 0 0, .int .i64 0, .int .i64 0, .slice none 0 0] 45)).alloc (.cells #[.int .i64 0, .int .i64 0, .int .i64 0, .int .u64 0, .int .u64 0] 55)) (w.heap.size + 1) 53 #[.int .i64 4, .int .u64 (i : Int), .int .i64 ((j : Int) + 1), .int .u64 (p1.toNat : Int), .int .u64 (p2.toNat : Int)]) := mkHid (((Blk.at _ _ _ (by simp)).alloc _).alloc _)
  have ZZ : Hid (Blk ((((w.alloc (.cells #[.int .i64 m.h, .int .i64 m.cap, .slice A m.l.length c, .int .i64 m.n, .int .i64 m.draws, .slice B m.sent.length d] 45)).alloc (.cells #[.int .i64 4, .int .u64 (i : Int), .int .i64 ((j : Int) + 1), .int .u64 (p1.toNat : Int), .int .u64 (p2.toNat : Int)] 53)).alloc (.cells #[.int .i64 0, .int .i64 0, .slice none 0 0, .int .i64 0, .int .i64 0, .slice none 0 0] 45)).alloc (.cells #[.int .i64 0, .int .i64 0, .int .i64 0, .int .u64 0, .int .u64 0] 55)) (w.heap.size + 1 + 1) 45 #[.int .i64 0, .int .i64 0, .slice none 0 0, .int .i64 0, .int .i64 0, .slice none 0 0]) := mkHid ((Blk.at _ _ _ (by simp)).alloc _)
  have ZA : Hid (Blk ((((w.alloc (.cells #[.int .i64 m.h, .int .i64 m.cap, .slice A m.l.length c, .int .i64 m.n, .int .i64 m.draws, .slice B m.sent.length d] 45)).alloc (.cells #[.int .i64 4, .int .u64 (i : Int), .int .i64 ((j : Int) + 1), .int .u64 (p1.toNat : Int), .int .u64 (p2.toNat : Int)] 53)).alloc (.cells #[.int .i64 0, .int .i64 0, .slice none 0 0, .int .i64 0, .int .i64 0, .slice none 0 0] 45)).alloc (.cells #[.int .i64 0, .int .i64 0, .int .i64 0, .int .u64 0, .int .u64 0] 55)) (w.heap.size + 1 + 1 + 1) 55 #[.int .i64 0, .int .i64 0, .int .i64 0, .int .u64 0, .int .u64 0]) := mkHid (Blk.at _ _ _ (by simp))
  have KB : Hid (Below w.heap.size w ((((w.alloc (.cells #[.int .i64 m.h, .int .i64 m.cap, .slice A m.l.length c, .int .i64 m.n, .int .i64 m.draws, .slice B m.sent.length d] 45)).alloc (.cells #[.int .i64 4, .int .u64 (i : Int), .int .i64 ((j : Int) + 1), .int .u64 (p1.toNat : Int), .int .u64 (p2.toNat : Int)] 53)).alloc (.cells #[.int .i64 0, .int .i64 0, .slice none 0 0, .int .i64 0, .int .i64 0, .slice none 0 0] 45)).alloc (.cells #[.int .i64 0, .int .i64 0, .int .i64 0, .int .u64 0, .int .u64 0] 55))) := mkHid (((((Below.refl _ _).alloc (Nat.le_refl _) (.cells #[.int .i64 m.h, .int .i64 m.cap, .slice A m.l.length c, .int .i64 m.n, .int .i64 m.draws, .slice B m.sent.length d] 45)).alloc (by simp) (.cells #[.int .i64 4, .int .u64 (i : Int), .int .i64 ((j : Int) + 1), .int .u64 (p1.toNat : Int), .int .u64 (p2.toNat : Int)] 53)).alloc (by simp; omega) (.cells #[.int .i64 0, .int .i64 0, .slice none 0 0, .int .i64 0, .int .i64 0, .slice none 0 0] 45)).alloc (by simp; omega) (.cells #[.int .i64 0, .int .i64 0, .int .i64 0, .int .u64 0, .int .u64 0] 55))
  have HM := mkHid (hM.below (((((Below.refl _ _).alloc (Nat.le_refl _) (.cells #[.int .i64 m.h, .int .i64 m.cap, .slice A m.l.length c, .int .i64 m.n, .int .i64 m.draws, .slice B m.sent.length d] 45)).alloc (by simp) (.cells #[.int .i64 4, .int .u64 (i : Int), .int .i64 ((j : Int) + 1), .int .u64 (p1.toNat : Int), .int .u64 (p2.toNat : Int)] 53)).alloc (by simp; omega) (.cells #[.int .i64 0, .int .i64 0, .slice none 0 0, .int .i64 0, .int .i64 0, .slice none 0 0] 45)).alloc (by simp; omega) (.cells #[.int .i64 0, .int .i64 0, .int .i64 0, .int .u64 0, .int .u64 0] 55)))
  clear hM
  go_enter Try.func29, Try.ntmps29
  go_upto_region 1 with fail
  generalize ((((w.alloc (.cells #[.int .i64 m.h, .int .i64 m.cap, .slice A m.l.length c, .int .i64 m.n, .int .i64 m.draws, .slice B m.sent.length d] 45)).alloc (.cells #[.int .i64 4, .int .u64 (i : Int), .int .i64 ((j : Int) + 1), .int .u64 (p1.toNat : Int), .int .u64 (p2.toNat : Int)] 53)).alloc (.cells #[.int .i64 0, .int .i64 0, .slice none 0 0, .int .i64 0, .int .i64 0, .slice none 0 0] 45)).alloc (.cells #[.int .i64 0, .int .i64 0, .int .i64 0, .int .u64 0, .int .u64 0] 55)) = w0 at *
  have lZA : w.heap.size + 1 + 1 + 1 < w0.heap.size := ZA.out.lt
  have cX := ZX.out.six
  have cP := ZP.out.five
  go_wp2_with fail
  refine (mchk e _ _ _ _ _ HM.out).mono ?_
  rintro e w1 ⟨rfl, hb⟩
  replace ZX := mkHid (ZX.out.keep hb)
  replace ZP := mkHid (ZP.out.keep hb)
  replace ZZ := mkHid (ZZ.out.keep hb)
  replace ZA := mkHid (ZA.out.keep hb)
  replace KB := mkHid (KB.out.step hb)
  replace HM := mkHid (HM.out.below hb)
  clear hb
  clear lZA cX cP
  have lZA : w.heap.size + 1 + 1 + 1 < w1.heap.size := ZA.out.lt
  have cX := ZX.out.six
  have cP := ZP.out.five
  go_wp2_with fail
  refine (mown HS.out.1 HS.out.2.1 HS.out.2.2 _ _ _ _ _ HM.out).mono ?_
  rintro e w2 ⟨⟨A1, c1, B1, d1, X1, rfl, ho⟩, hb⟩
  have HO := mkHid (ho.base (b := w.heap.size + 4) (by omega))
  clear ho HM
  replace ZX := mkHid (ZX.out.keep hb)
  replace ZP := mkHid (ZP.out.keep hb)
  replace ZZ := mkHid (ZZ.out.keep hb)
  replace ZA := mkHid (ZA.out.keep hb)
  replace KB := mkHid (KB.out.step hb)
  clear hb
  clear lZA cX cP
  have lZA : w.heap.size + 1 + 1 + 1 < w2.heap.size := ZA.out.lt
  have cX := ZX.out.six
  have cP := ZP.out.five
  have fX0 := ZX.out.frozen 0
  have fX1 := ZX.out.frozen 1
  have fX2 := ZX.out.frozen 2
  have fX3 := ZX.out.frozen 3
  have fX4 := ZX.out.frozen 4
  have fX5 := ZX.out.frozen 5
  go_upto_region 4 with fail
  replace ZX := mkHid (ZX.out.fill6 (b0 := .int .i64 m.h) (b1 := .int .i64 m.cap) (b2 := .slice A1 m.l.length c1) (b3 := .int .i64 m.n) (b4 := .int .i64 m.draws) (b5 := .slice B1 m.sent.length d1))
  replace ZP := mkHid (ZP.out.other6 (g := w.heap.size) (x0 := .int .i64 m.h) (x1 := .int .i64 m.cap) (x2 := .slice A1 m.l.length c1) (x3 := .int .i64 m.n) (x4 := .int .i64 m.draws) (x5 := .slice B1 m.sent.length d1) (by omega))
  replace ZZ := mkHid (ZZ.out.other6 (g := w.heap.size) (x0 := .int .i64 m.h) (x1 := .int .i64 m.cap) (x2 := .slice A1 m.l.length c1) (x3 := .int .i64 m.n) (x4 := .int .i64 m.draws) (x5 := .slice B1 m.sent.length d1) (by omega))
  replace ZA := mkHid (ZA.out.other6 (g := w.heap.size) (x0 := .int .i64 m.h) (x1 := .int .i64 m.cap) (x2 := .slice A1 m.l.length c1) (x3 := .int .i64 m.n) (x4 := .int .i64 m.draws) (x5 := .slice B1 m.sent.length d1) (by omega))
  replace KB := mkHid (below_six KB.out (Nat.le_refl _) (.int .i64 m.h) (.int .i64 m.cap) (.slice A1 m.l.length c1) (.int .i64 m.n) (.int .i64 m.draws) (.slice B1 m.sent.length d1))
  replace HO := mkHid (HO.out.past6 (g := w.heap.size) (by omega) (.int .i64 m.h) (.int .i64 m.cap) (.slice A1 m.l.length c1) (.int .i64 m.n) (.int .i64 m.draws) (.slice B1 m.sent.length d1))
  clear lZA cX cP fX0 fX1 fX2 fX3 fX4 fX5
  generalize ((((((w2.setCell ⟨w.heap.size, 0, none⟩ (.int .i64 m.h)).setCell ⟨w.heap.size, 1, none⟩ (.int .i64 m.cap)).setCell ⟨w.heap.size, 2, none⟩ (.slice A1 m.l.length c1)).setCell ⟨w.heap.size, 3, none⟩ (.int .i64 m.n)).setCell ⟨w.heap.size, 4, none⟩ (.int .i64 m.draws)).setCell ⟨w.heap.size, 5, none⟩ (.slice B1 m.sent.length d1)) = w3 at *
  have lZA : w.heap.size + 1 + 1 + 1 < w3.heap.size := ZA.out.lt
  have cX := ZX.out.six
  have cP := ZP.out.five
  have cA := ZA.out.five
  have HMM := mkHid (HO.out.mem ⟨by have := HS.out.2.1; omega, by have := HS.out.1; omega⟩)
  have fa0 := ZA.out.frozen 0
  have fa1 := ZA.out.frozen 1
  go_wp2_with fail
  refine (mmay f _ _ _ _ _ HMM.out).mono ?_
  rintro e w4 ⟨rfl, hb⟩
  clear HMM fa0 fa1
  replace ZX := mkHid (ZX.out.keep hb)
  replace ZP := mkHid (ZP.out.keep hb)
  replace ZZ := mkHid (ZZ.out.keep hb)
  replace ZA := mkHid (ZA.out.keep hb)
  replace KB := mkHid (KB.out.step hb)
  replace HO := mkHid (HO.out.below hb)
  clear hb
  clear lZA cX cP cA
  have lZA : w.heap.size + 1 + 1 + 1 < w4.heap.size := ZA.out.lt
  have cX := ZX.out.six
  have cP := ZP.out.five
  have cA := ZA.out.five
  have fa0 := ZA.out.frozen 0
  have fa1 := ZA.out.frozen 1
  go_upto_region 22 with fail
  clear fa0 fa1
  replace ZX : Hid (Blk ((w4.setCell ⟨w.heap.size + 1 + 1 + 1, 0, none⟩ (.int .i64 0)).setCell ⟨w.heap.size + 1 + 1 + 1, 1, none⟩ (.int .i64 ((j : Int) + 1))) w.heap.size 45 #[.int .i64 m.h, .int .i64 m.cap, .slice A1 m.l.length c1, .int .i64 m.n, .int .i64 m.draws, .slice B1 m.sent.length d1]) := mkHid (((ZX.out.other _ (by omega)).other _ (by omega)))
  replace ZP : Hid (Blk ((w4.setCell ⟨w.heap.size + 1 + 1 + 1, 0, none⟩ (.int .i64 0)).setCell ⟨w.heap.size + 1 + 1 + 1, 1, none⟩ (.int .i64 ((j : Int) + 1))) (w.heap.size + 1) 53 #[.int .i64 4, .int .u64 (i : Int), .int .i64 ((j : Int) + 1), .int .u64 (p1.toNat : Int), .int .u64 (p2.toNat : Int)]) := mkHid (((ZP.out.other _ (by omega)).other _ (by omega)))
  replace ZZ : Hid (Blk ((w4.setCell ⟨w.heap.size + 1 + 1 + 1, 0, none⟩ (.int .i64 0)).setCell ⟨w.heap.size + 1 + 1 + 1, 1, none⟩ (.int .i64 ((j : Int) + 1))) (w.heap.size + 1 + 1) 45 #[.int .i64 0, .int .i64 0, .slice none 0 0, .int .i64 0, .int .i64 0, .slice none 0 0]) := mkHid (((ZZ.out.other _ (by omega)).other _ (by omega)))
  replace ZA : Hid (Blk ((w4.setCell ⟨w.heap.size + 1 + 1 + 1, 0, none⟩ (.int .i64 0)).setCell ⟨w.heap.size + 1 + 1 + 1, 1, none⟩ (.int .i64 ((j : Int) + 1))) (w.heap.size + 1 + 1 + 1) 55 #[.int .i64 0, .int .i64 ((j : Int) + 1), .int .i64 0, .int .u64 0, .int .u64 0]) := mkHid (((ZA.out.set 0 (.int .i64 0)).set 1 (.int .i64 ((j : Int) + 1))))
  replace KB : Hid (Below w.heap.size w ((w4.setCell ⟨w.heap.size + 1 + 1 + 1, 0, none⟩ (.int .i64 0)).setCell ⟨w.heap.size + 1 + 1 + 1, 1, none⟩ (.int .i64 ((j : Int) + 1)))) := mkHid (((KB.out.setCell (by show w.heap.size ≤ w.heap.size + 1 + 1 + 1; omega) _).setCell (by show w.heap.size ≤ w.heap.size + 1 + 1 + 1; omega) _))
  replace HO := mkHid (((HO.out.past (g := w.heap.size + 1 + 1 + 1) (by omega) 0 (.int .i64 0)).past (g := w.heap.size + 1 + 1 + 1) (by omega) 1 (.int .i64 ((j : Int) + 1))))
  generalize ((w4.setCell ⟨w.heap.size + 1 + 1 + 1, 0, none⟩ (.int .i64 0)).setCell ⟨w.heap.size + 1 + 1 + 1, 1, none⟩ (.int .i64 ((j : Int) + 1))) = w5 at *
  clear lZA cX cP cA
  have lZA : w.heap.size + 1 + 1 + 1 < w5.heap.size := ZA.out.lt
  have cX := ZX.out.six
  have cP := ZP.out.five
  have cA := ZA.out.five
  have hwj : IntKind.i64.wrap (j : Int) = (j : Int) := by rw [IntKind.wrap_i64]; have := HS.out.2.1; omega
  have hlx : j < X1.length := by have := congrArg List.length HO.out.eq; rw [List.length_map] at this; omega
  have hst : Hid (X1[j].s = m.sent[j]) := mkHid (by have := congrArg (fun l => l[j]?) HO.out.eq; simp only [List.getElem?_map] at this; rw [List.getElem?_eq_getElem hlx, List.getElem?_eq_getElem hj] at this; exact Option.some.inj this)
  have SV := HO.out.sents
  obtain ⟨g0, dd, rfl, hg0⟩ : ∃ g dd, B1 = some ⟨g, 0, none⟩ ∧ w.heap.size + 4 ≤ g := by
    rcases SV.2 with ⟨q, _⟩ | ⟨g, cap, cur, q, q2, _⟩
    · obtain ⟨_, q, _⟩ := Value.slice.inj q
      omega
    · obtain ⟨q, _, _⟩ := Value.slice.inj q
      exact ⟨g, cap, q, q2⟩
  have q1 := sentCells_get _ j hlx 1 (by omega)
  have q2 := sentCells_get _ j hlx 2 (by omega)
  have q3 := sentCells_get _ j hlx 3 (by omega)
  simp only [sxCells, List.getElem?_cons_succ, List.getElem?_cons_zero] at q1 q2 q3
  rw [hst.out, HSJ.out] at q1 q2 q3
  have hm4 : j * 4 + 3 < m.sent.length * 4 := by omega
  have e1 : w5.drew.cell? ⟨g0, j * 4 + 1, none⟩ = some (.int .i64 (sd : Int)) := (SV.cellAt (j * 4 + 1) (by omega)).trans q1
  have e2 : w5.drew.cell? ⟨g0, j * 4 + 2, none⟩ = some (.int .u64 (s1.toNat : Int)) := (SV.cellAt (j * 4 + 2) (by omega)).trans q2
  have e3 : w5.drew.cell? ⟨g0, j * 4 + 3, none⟩ = some (.int .u64 (s2.toNat : Int)) := (SV.cellAt (j * 4 + 3) (by omega)).trans q3
  replace ZX : Hid (Blk w5.drew _ _ _) := mkHid ZX.out.drew
  replace ZP : Hid (Blk w5.drew _ _ _) := mkHid ZP.out.drew
  replace ZA : Hid (Blk w5.drew _ _ _) := mkHid ZA.out.drew
  replace ZZ : Hid (Blk w5.drew _ _ _) := mkHid ZZ.out.drew
  replace KB : Hid (Below w.heap.size w w5.drew) := mkHid KB.out.drew
  replace HO := mkHid (HO.out.below (Below.drew (Below.refl _ w5)))
  clear cX cP cA SV q1 q2 q3
  have cA := ZA.out.five
  have fa2 := ZA.out.frozen 2
  have fa3 := ZA.out.frozen 3
  have fa4 := ZA.out.frozen 4
  have k5 : w5.drew.cell? ⟨w.heap.size, 5, none⟩ = some (.slice (some ⟨g0, 0, none⟩) m.sent.length d1) := ZX.out.cell 5
  have o2 : w5.drew.cell? ⟨w.heap.size + 1, 2, none⟩ = some (.int .i64 ((j : Int) + 1)) := ZP.out.cell 2
  refine wp_region_late (late := fun i => decide (19 ≤ i)) (S := fun w' => w'.cell? ⟨w.heap.size, 5, none⟩ = some (.slice (some ⟨g0, 0, none⟩) m.sent.length d1) ∧ w'.cell? ⟨w.heap.size + 1, 2, none⟩ = some (.int .i64 ((j : Int) + 1)) ∧ w'.cell? ⟨g0, j * 4 + 1, none⟩ = some (.int .i64 (sd : Int)) ∧ w'.cell? ⟨g0, j * 4 + 2, none⟩ = some (.int .u64 (s1.toNat : Int)) ∧ w'.cell? ⟨g0, j * 4 + 3, none⟩ = some (.int .u64 (s2.toNat : Int))) (by kernel_rfl) ?_ (fun hHeld => ?_)
  · ((try dsimp only); (try go_split_ands); refine ⟨?_, ?_, ?_, ?_, ?_⟩ <;> first | with_reducible assumption | (with_reducible refine cell_past ?_ ?_ <;> first | with_reducible assumption | omega))
  generalize w5.drew = u0 at *
  refine Any.take (i := 0) (v := ?_) rfl (by kernel_rfl) (by kernel_rfl) (by kernel_rfl) (by kernel_rfl) (fun _ _ _ h => h) (Or.inl ⟨by rfl, ?_⟩) hHeld ?_
  rotate_left
  · intro w hSw
    (try dsimp only at hSw)
    go_simp
    all_goals with_reducible rfl
  try simp only [List.getElem_toArray, List.getElem_cons_succ, List.getElem_cons_zero, Act.put, List.setIfInBounds_toArray, List.set_cons_zero, List.set_cons_succ]
  refine Any.take (i := 1) (v := ?_) rfl (by kernel_rfl) (by kernel_rfl) (by kernel_rfl) (by kernel_rfl) (fun _ _ _ h => h) (Or.inl ⟨by rfl, ?_⟩) hHeld ?_
  rotate_left
  · intro w hSw
    (try dsimp only at hSw)
    go_simp
    all_goals with_reducible rfl
  try simp only [List.getElem_toArray, List.getElem_cons_succ, List.getElem_cons_zero, Act.put, List.setIfInBounds_toArray, List.set_cons_zero, List.set_cons_succ]
  refine Any.take (i := 2) (v := ?_) rfl (by kernel_rfl) (by kernel_rfl) (by kernel_rfl) (by kernel_rfl) (fun _ _ _ h => h) (Or.inl ⟨by rfl, ?_⟩) hHeld ?_
  rotate_left
  · intro w hSw
    (try dsimp only at hSw)
    go_simp
    all_goals with_reducible rfl
  try simp only [List.getElem_toArray, List.getElem_cons_succ, List.getElem_cons_zero, Act.put, List.setIfInBounds_toArray, List.set_cons_zero, List.set_cons_succ]
  refine Any.take (i := 3) (v := ?_) rfl (by kernel_rfl) (by kernel_rfl) (by kernel_rfl) (by kernel_rfl) (fun _ _ _ h => h) (Or.inl ⟨by rfl, ?_⟩) hHeld ?_
  rotate_left
  · intro w hSw
    (try dsimp only at hSw)
    go_simp
    all_goals with_reducible rfl
  try simp only [List.getElem_toArray, List.getElem_cons_succ, List.getElem_cons_zero, Act.put, List.setIfInBounds_toArray, List.set_cons_zero, List.set_cons_succ]
  refine Any.take (i := 4) (v := ?_) rfl (by kernel_rfl) (by kernel_rfl) (by kernel_rfl) (by kernel_rfl) (fun _ _ _ h => h) (Or.inl ⟨by rfl, ?_⟩) hHeld ?_
  rotate_left
  · intro w hSw
    (try dsimp only at hSw)
    go_simp
    all_goals with_reducible rfl
  try simp only [List.getElem_toArray, List.getElem_cons_succ, List.getElem_cons_zero, Act.put, List.setIfInBounds_toArray, List.set_cons_zero, List.set_cons_succ]
  refine Any.take (i := 5) (v := ?_) rfl (by kernel_rfl) (by kernel_rfl) (by kernel_rfl) (by kernel_rfl) (fun _ _ _ h => h) (Or.inl ⟨by rfl, ?_⟩) hHeld ?_
  rotate_left
  · intro w hSw
    (try dsimp only at hSw)
    go_simp
    all_goals with_reducible rfl
  try simp only [List.getElem_toArray, List.getElem_cons_succ, List.getElem_cons_zero, Act.put, List.setIfInBounds_toArray, List.set_cons_zero, List.set_cons_succ]
  refine Any.take (i := 6) (v := ?_) rfl (by kernel_rfl) (by kernel_rfl) (by kernel_rfl) (by kernel_rfl) (fun _ _ _ h => h) (Or.inl ⟨by rfl, ?_⟩) hHeld ?_
  rotate_left
  · intro w hSw
    (try dsimp only at hSw)
    go_simp
    all_goals with_reducible rfl
  try simp only [List.getElem_toArray, List.getElem_cons_succ, List.getElem_cons_zero, Act.put, List.setIfInBounds_toArray, List.set_cons_zero, List.set_cons_succ]
  refine Any.take (i := 7) (v := ?_) rfl (by kernel_rfl) (by kernel_rfl) (by kernel_rfl) (by kernel_rfl) (fun _ _ _ h => h) (Or.inl ⟨by rfl, ?_⟩) hHeld ?_
  rotate_left
  · intro w hSw
    (try dsimp only at hSw)
    go_simp
    all_goals with_reducible rfl
  try simp only [List.getElem_toArray, List.getElem_cons_succ, List.getElem_cons_zero, Act.put, List.setIfInBounds_toArray, List.set_cons_zero, List.set_cons_succ]
  refine Any.take (i := 8) (v := ?_) rfl (by kernel_rfl) (by kernel_rfl) (by kernel_rfl) (by kernel_rfl) (fun _ _ _ h => h) (Or.inl ⟨by rfl, ?_⟩) hHeld ?_
  rotate_left
  · intro w hSw
    (try dsimp only at hSw)
    go_simp
    all_goals with_reducible rfl
  try simp only [List.getElem_toArray, List.getElem_cons_succ, List.getElem_cons_zero, Act.put, List.setIfInBounds_toArray, List.set_cons_zero, List.set_cons_succ]
  refine Any.take (i := 9) (v := ?_) rfl (by kernel_rfl) (by kernel_rfl) (by kernel_rfl) (by kernel_rfl) (fun _ _ _ h => h) (Or.inl ⟨by rfl, ?_⟩) hHeld ?_
  rotate_left
  · intro w hSw
    (try dsimp only at hSw)
    go_simp
    all_goals with_reducible rfl
  try simp only [List.getElem_toArray, List.getElem_cons_succ, List.getElem_cons_zero, Act.put, List.setIfInBounds_toArray, List.set_cons_zero, List.set_cons_succ]
  refine Any.take (i := 10) (v := ?_) rfl (by kernel_rfl) (by kernel_rfl) (by kernel_rfl) (by kernel_rfl) (fun _ _ _ h => h) (Or.inl ⟨by rfl, ?_⟩) hHeld ?_
  rotate_left
  · intro w hSw
    (try dsimp only at hSw)
    go_simp
    all_goals with_reducible rfl
  try simp only [List.getElem_toArray, List.getElem_cons_succ, List.getElem_cons_zero, Act.put, List.setIfInBounds_toArray, List.set_cons_zero, List.set_cons_succ]
  refine Any.take (i := 11) (v := ?_) rfl (by kernel_rfl) (by kernel_rfl) (by kernel_rfl) (by kernel_rfl) (fun _ _ _ h => h) (Or.inl ⟨by rfl, ?_⟩) hHeld ?_
  rotate_left
  · intro w hSw
    (try dsimp only at hSw)
    go_simp
    all_goals with_reducible rfl
  try simp only [List.getElem_toArray, List.getElem_cons_succ, List.getElem_cons_zero, Act.put, List.setIfInBounds_toArray, List.set_cons_zero, List.set_cons_succ]
  refine Any.take (i := 12) (v := ?_) rfl (by kernel_rfl) (by kernel_rfl) (by kernel_rfl) (by kernel_rfl) (fun _ _ _ h => h) (Or.inl ⟨by rfl, ?_⟩) hHeld ?_
  rotate_left
  · intro w hSw
    (try dsimp only at hSw)
    go_simp
    all_goals with_reducible rfl
  try simp only [List.getElem_toArray, List.getElem_cons_succ, List.getElem_cons_zero, Act.put, List.setIfInBounds_toArray, List.set_cons_zero, List.set_cons_succ]
  refine Any.take (i := 13) (v := ?_) rfl (by kernel_rfl) (by kernel_rfl) (by kernel_rfl) (by kernel_rfl) (fun _ _ _ h => h) (Or.inl ⟨by rfl, ?_⟩) hHeld ?_
  rotate_left
  · intro w hSw
    (try dsimp only at hSw)
    go_simp
    all_goals with_reducible rfl
  try simp only [List.getElem_toArray, List.getElem_cons_succ, List.getElem_cons_zero, Act.put, List.setIfInBounds_toArray, List.set_cons_zero, List.set_cons_succ]
  refine Any.take (i := 14) (v := ?_) rfl (by kernel_rfl) (by kernel_rfl) (by kernel_rfl) (by kernel_rfl) (fun _ _ _ h => h) (Or.inl ⟨by rfl, ?_⟩) hHeld ?_
  rotate_left
  · intro w hSw
    (try dsimp only at hSw)
    go_simp
    all_goals with_reducible rfl
  try simp only [List.getElem_toArray, List.getElem_cons_succ, List.getElem_cons_zero, Act.put, List.setIfInBounds_toArray, List.set_cons_zero, List.set_cons_succ]
  refine Any.take (i := 15) (v := ?_) rfl (by kernel_rfl) (by kernel_rfl) (by kernel_rfl) (by kernel_rfl) (fun _ _ _ h => h) (Or.inl ⟨by rfl, ?_⟩) hHeld ?_
  rotate_left
  · intro w hSw
    (try dsimp only at hSw)
    go_simp
    all_goals with_reducible rfl
  try simp only [List.getElem_toArray, List.getElem_cons_succ, List.getElem_cons_zero, Act.put, List.setIfInBounds_toArray, List.set_cons_zero, List.set_cons_succ]
  refine Any.take (i := 16) (v := ?_) rfl (by kernel_rfl) (by kernel_rfl) (by kernel_rfl) (by kernel_rfl) (fun _ _ _ h => h) (Or.inl ⟨by rfl, ?_⟩) hHeld ?_
  rotate_left
  · intro w hSw
    (try dsimp only at hSw)
    go_simp
    all_goals with_reducible rfl
  try simp only [List.getElem_toArray, List.getElem_cons_succ, List.getElem_cons_zero, Act.put, List.setIfInBounds_toArray, List.set_cons_zero, List.set_cons_succ]
  refine Any.ready (rs := [17]) (by kernel_rfl) (by simp) ?_
  refine AllAny.cons rfl rfl (fun K hK => ?_) AllAny.nil
  go_simp
  refine hK.out _ _ ?_ (fun hHeld => ?_)
  · ((try dsimp only); (try go_split_ands); refine ⟨?_, ?_, ?_, ?_, ?_⟩ <;> first | with_reducible assumption | (with_reducible refine cell_past ?_ ?_ <;> first | with_reducible assumption | omega))
  clear hK K
  try simp only [List.getElem_toArray, List.getElem_cons_succ, List.getElem_cons_zero, Act.put, List.setIfInBounds_toArray, List.set_cons_zero, List.set_cons_succ]
  refine Any.take (i := 18) (v := ?_) rfl (by kernel_rfl) (by kernel_rfl) (by kernel_rfl) (by kernel_rfl) (fun _ _ _ h => h) (Or.inl ⟨by rfl, ?_⟩) hHeld ?_
  rotate_left
  · intro w hSw
    (try dsimp only at hSw)
    go_simp
    all_goals with_reducible rfl
  try simp only [List.getElem_toArray, List.getElem_cons_succ, List.getElem_cons_zero, Act.put, List.setIfInBounds_toArray, List.set_cons_zero, List.set_cons_succ]
  refine Any.ready (rs := [19]) (by kernel_rfl) (by simp) ?_
  refine AllAny.lateCons rfl rfl (fun K hK => ?_) AllAny.nil
  go_simp
  refine hK.out _ _ ?_
  clear hK K
  try simp only [List.getElem_toArray, List.getElem_cons_succ, List.getElem_cons_zero, Act.put, List.setIfInBounds_toArray, List.set_cons_zero, List.set_cons_succ]
  refine Any.done (by kernel_rfl) ?_ _
  replace ZX : Hid (Blk (((u0.setCell ⟨w.heap.size + 1 + 1 + 1, 2, none⟩ (.int .i64 (sd : Int))).setCell ⟨w.heap.size + 1 + 1 + 1, 3, none⟩ (.int .u64 (s1.toNat : Int))).setCell ⟨w.heap.size + 1 + 1 + 1, 4, none⟩ (.int .u64 (s2.toNat : Int))) w.heap.size 45 #[.int .i64 m.h, .int .i64 m.cap, .slice A1 m.l.length c1, .int .i64 m.n, .int .i64 m.draws, .slice (some ⟨g0, 0, none⟩) m.sent.length d1]) := mkHid (((ZX.out.other _ (by omega)).other _ (by omega)).other _ (by omega))
  replace ZZ : Hid (Blk (((u0.setCell ⟨w.heap.size + 1 + 1 + 1, 2, none⟩ (.int .i64 (sd : Int))).setCell ⟨w.heap.size + 1 + 1 + 1, 3, none⟩ (.int .u64 (s1.toNat : Int))).setCell ⟨w.heap.size + 1 + 1 + 1, 4, none⟩ (.int .u64 (s2.toNat : Int))) (w.heap.size + 1 + 1) 45 #[.int .i64 0, .int .i64 0, .slice none 0 0, .int .i64 0, .int .i64 0, .slice none 0 0]) := mkHid (((ZZ.out.other _ (by omega)).other _ (by omega)).other _ (by omega))
  replace ZA : Hid (Blk (((u0.setCell ⟨w.heap.size + 1 + 1 + 1, 2, none⟩ (.int .i64 (sd : Int))).setCell ⟨w.heap.size + 1 + 1 + 1, 3, none⟩ (.int .u64 (s1.toNat : Int))).setCell ⟨w.heap.size + 1 + 1 + 1, 4, none⟩ (.int .u64 (s2.toNat : Int))) (w.heap.size + 1 + 1 + 1) 55 #[.int .i64 0, .int .i64 ((j : Int) + 1), .int .i64 (sd : Int), .int .u64 (s1.toNat : Int), .int .u64 (s2.toNat : Int)]) := mkHid (((ZA.out.set 2 (.int .i64 (sd : Int))).set 3 (.int .u64 (s1.toNat : Int))).set 4 (.int .u64 (s2.toNat : Int)))
  replace KB : Hid (Below w.heap.size w (((u0.setCell ⟨w.heap.size + 1 + 1 + 1, 2, none⟩ (.int .i64 (sd : Int))).setCell ⟨w.heap.size + 1 + 1 + 1, 3, none⟩ (.int .u64 (s1.toNat : Int))).setCell ⟨w.heap.size + 1 + 1 + 1, 4, none⟩ (.int .u64 (s2.toNat : Int)))) := mkHid (((KB.out.setCell (by show w.heap.size ≤ w.heap.size + 1 + 1 + 1; omega) _).setCell (by show w.heap.size ≤ w.heap.size + 1 + 1 + 1; omega) _).setCell (by show w.heap.size ≤ w.heap.size + 1 + 1 + 1; omega) _)
  replace HO := mkHid (((HO.out.past (g := w.heap.size + 1 + 1 + 1) (by omega) 2 (.int .i64 (sd : Int))).past (g := w.heap.size + 1 + 1 + 1) (by omega) 3 (.int .u64 (s1.toNat : Int))).past (g := w.heap.size + 1 + 1 + 1) (by omega) 4 (.int .u64 (s2.toNat : Int)))
  clear k5 o2 e1 e2 e3 cA fa2 fa3 fa4 lZA ZP hHeld
  go_upto_region 23 with fail
  generalize (((u0.setCell ⟨w.heap.size + 1 + 1 + 1, 2, none⟩ (.int .i64 (sd : Int))).setCell ⟨w.heap.size + 1 + 1 + 1, 3, none⟩ (.int .u64 (s1.toNat : Int))).setCell ⟨w.heap.size + 1 + 1 + 1, 4, none⟩ (.int .u64 (s2.toNat : Int))) = w6 at *
  have lZA : w.heap.size + 1 + 1 + 1 < w6.heap.size := ZA.out.lt
  have cA := ZA.out.five
  have ZP := mkHid trivial
  have cX := ZP
  have cP := ZP
  clear hwj hlx hst HSJ hm4
  replace ZX : Hid (Blk w6.drew _ _ _) := mkHid ZX.out.drew
  replace ZA : Hid (Blk w6.drew _ _ _) := mkHid ZA.out.drew
  replace ZZ : Hid (Blk w6.drew _ _ _) := mkHid ZZ.out.drew
  replace KB : Hid (Below w.heap.size w w6.drew) := mkHid KB.out.drew
  replace HO := mkHid (HO.out.below (Below.drew (Below.refl _ w6)))
  clear cX cP cA
  have cZ := ZZ.out.six
  have cA := ZA.out.five
  have gz0 := ZZ.out.frozen 0
  have gz1 := ZZ.out.frozen 1
  have gz2 := ZZ.out.frozen 2
  have gz3 := ZZ.out.frozen 3
  have gz4 := ZZ.out.frozen 4
  have gz5 := ZZ.out.frozen 5
  have ga0 := ZA.out.frozen 0
  have ga1 := ZA.out.frozen 1
  have ga2 := ZA.out.frozen 2
  have ga3 := ZA.out.frozen 3
  have ga4 := ZA.out.frozen 4
  clear ZP
  refine wp_region_late (late := fun i => decide (3 ≤ i)) (S := fun w' => Hid (Blk w' w.heap.size 45 #[.int .i64 m.h, .int .i64 m.cap, .slice A1 m.l.length c1, .int .i64 m.n, .int .i64 m.draws, .slice (some ⟨g0, 0, none⟩) m.sent.length d1]) ∧ Hid (Blk w' (w.heap.size + 1 + 1 + 1) 55 #[.int .i64 0, .int .i64 ((j : Int) + 1), .int .i64 (sd : Int), .int .u64 (s1.toNat : Int), .int .u64 (s2.toNat : Int)])) (by kernel_rfl) ?_ (fun hHeld => ?_)
  · ((try dsimp only); refine ⟨?_, ?_⟩ <;> first | with_reducible assumption | (with_reducible refine mkHid (Blk.other6 (Hid.out ?_) ?_) <;> first | with_reducible assumption | omega))
  generalize w6.drew = u at *
  refine Any.take (i := 0) (v := ?_) rfl (by kernel_rfl) (by kernel_rfl) (by kernel_rfl) (by kernel_rfl) (fun _ _ _ h => h) (Or.inl ⟨by rfl, ?_⟩) hHeld ?_
  rotate_left
  · intro w hSw
    (try dsimp only at hSw)
    have q := hSw.1.out.six
    clear hSw
    go_simp
    all_goals with_reducible rfl
  try simp only [List.getElem_toArray, List.getElem_cons_succ, List.getElem_cons_zero, Act.put, List.setIfInBounds_toArray, List.set_cons_zero, List.set_cons_succ]
  refine Any.take (i := 1) (v := ?_) rfl (by kernel_rfl) (by kernel_rfl) (by kernel_rfl) (by kernel_rfl) (fun _ _ _ h => h) (Or.inl ⟨by rfl, ?_⟩) hHeld ?_
  rotate_left
  · intro w hSw
    (try dsimp only at hSw)
    have q := hSw.2.out.five
    clear hSw
    go_simp
    all_goals with_reducible rfl
  try simp only [List.getElem_toArray, List.getElem_cons_succ, List.getElem_cons_zero, Act.put, List.setIfInBounds_toArray, List.set_cons_zero, List.set_cons_succ]
  refine Any.ready (rs := [2]) (by kernel_rfl) (by simp) ?_
  refine AllAny.cons rfl rfl (fun K hK => ?_) AllAny.nil
  go_simp
  refine hK.out _ _ ?_ (fun hHeld => ?_)
  · ((try dsimp only); refine ⟨?_, ?_⟩ <;> first | with_reducible assumption | (with_reducible refine mkHid (Blk.other6 (Hid.out ?_) ?_) <;> first | with_reducible assumption | omega))
  clear hK K
  try simp only [List.getElem_toArray, List.getElem_cons_succ, List.getElem_cons_zero, Act.put, List.setIfInBounds_toArray, List.set_cons_zero, List.set_cons_succ]
  refine Any.ready (rs := [3]) (by kernel_rfl) (by simp) ?_
  refine AllAny.lateCons rfl rfl (fun K hK => ?_) AllAny.nil
  go_simp
  refine hK.out _ _ ?_
  clear hK K
  try simp only [List.getElem_toArray, List.getElem_cons_succ, List.getElem_cons_zero, Act.put, List.setIfInBounds_toArray, List.set_cons_zero, List.set_cons_succ]
  refine Any.ready (rs := [4]) (by kernel_rfl) (by simp) ?_
  refine AllAny.lateCons rfl rfl (fun K hK => ?_) AllAny.nil
  go_simp
  refine hK.out _ _ ?_
  clear hK K
  try simp only [List.getElem_toArray, List.getElem_cons_succ, List.getElem_cons_zero, Act.put, List.setIfInBounds_toArray, List.set_cons_zero, List.set_cons_succ]
  refine Any.done (by kernel_rfl) ?_ _
  have qR := ((ZZ.out.fill6 (b0 := .int .i64 m.h) (b1 := .int .i64 m.cap) (b2 := .slice A1 m.l.length c1) (b3 := .int .i64 m.n) (b4 := .int .i64 m.draws) (b5 := .slice (some ⟨g0, 0, none⟩) m.sent.length d1)).other5 (g := w.heap.size + 1 + 1 + 1) (x0 := .int .i64 0) (x1 := .int .i64 ((j : Int) + 1)) (x2 := .int .i64 (sd : Int)) (x3 := .int .u64 (s1.toNat : Int)) (x4 := .int .u64 (s2.toNat : Int)) (by omega)).six
  have qA := ((ZA.out.other6 (g := w.heap.size + 1 + 1) (x0 := .int .i64 m.h) (x1 := .int .i64 m.cap) (x2 := .slice A1 m.l.length c1) (x3 := .int .i64 m.n) (x4 := .int .i64 m.draws) (x5 := .slice (some ⟨g0, 0, none⟩) m.sent.length d1) (by omega)).fill5 (b0 := .int .i64 0) (b1 := .int .i64 ((j : Int) + 1)) (b2 := .int .i64 (sd : Int)) (b3 := .int .u64 (s1.toNat : Int)) (b4 := .int .u64 (s2.toNat : Int))).five
  go_wp2_with fail
  refine bodyPost_ret (v := .tuple #[.agg #[.int .i64 m.h, .int .i64 m.cap, .slice A1 m.l.length c1, .int .i64 m.n, .int .i64 m.draws, .slice (some ⟨g0, 0, none⟩) m.sent.length d1], .agg #[.int .i64 0, .int .i64 ((j : Int) + 1), .int .i64 (sd : Int), .int .u64 (s1.toNat : Int), .int .u64 (s2.toNat : Int)], .int .i64 0]) (by simp [results, Try.results29, go_sem, qR, qA]) rfl ⟨_, _, _, _, X1, rfl, OwnM.base (b' := w.heap.size + 4) ?_ (by omega), below_five (below_six KB.out (by omega) _ _ _ _ _ _) (by omega) _ _ _ _ _⟩
  exact (HO.out.past6 (by omega) _ _ _ _ _ _).past5 (by omega) _ _ _ _ _
end Go.Proofs.Ytmehbonjpmlmfaa

namespace Go.Proofs.Ytmehbonjpmlmfaa
open Go.RowKit

theorem okM_roll {m : ModD} (h : okM m = true) : rollCheck m.h m.cap m.l m.n = 0 := by
  obtain ⟨h1, h2, h3, h4, h5, _⟩ := okM_parts h
  unfold rollCheck
  rw [if_neg (by unfold rollBad; omega)]
  exact h3
theorem mdo {m m' : ModD} {o : OpD} {a : AnsD} {r : Int} (e : Hid (doM m o = (m', a, r))) (A : Option Addr) (c : Nat) (B : Option Addr) (d : Nat) (w : World) (hM : MemM w A c B d m) :
    Calls Try.prog 29 #[.agg #[.int .i64 m.h, .int .i64 m.cap, .slice A m.l.length c, .int .i64 m.n, .int .i64 m.draws, .slice B m.sent.length d], .agg #[.int .i64 o.kind, .int .u64 (o.i : Int), .int .i64 o.n, .int .u64 (o.p.1.toNat : Int), .int .u64 (o.p.2.toNat : Int)]] w (DoPost m' a r w) := by
  have e' := e.out
  obtain ⟨k, i, n, p1, p2⟩ := o
  unfold doM at e'
  dsimp only at e'
  rcases okM_or m with hk | hk
  · have hok : okM m = true := by
      cases h : okM m with
      | true => rfl
      | false => rw [h] at hk; simp at hk
    have HK := mkHid hk
    obtain ⟨b1, b2, b3, b4, b5, b6, b7, b8⟩ := okM_parts hok
    have hrc := okM_roll hok
    by_cases k0 : k < 1
    · rw [if_neg (by omega)] at e'
      cases e'
      exact do_low HK k0 A c B d w hM
    · by_cases k4 : 4 < k
      · rw [if_neg (by omega)] at e'
        cases e'
        exact do_high HK k0 k4 A c B d w hM
      · rw [if_pos ⟨hok, by omega, by omega⟩] at e'
        by_cases k1 : k = 1
        · subst k1
          rw [if_pos rfl] at e'
          obtain ⟨X, hX⟩ : ∃ X, rollAdd m.h m.cap m.l m.n i = X := ⟨_, rfl⟩
          have hX' := hX
          rw [hX'] at e'
          unfold rollAdd at hX
          unfold chM at e'
          rcases hasAll_or m.h m.l i with ha | ⟨q, hq, q1, q2, hs, ht, ha⟩
          · rw [if_neg (by rw [ha]; simp)] at hX
            subst hX
            rw [if_neg (by show ¬ ((_ : Int) = 0); decide)] at e'
            cases e'
            by_cases hl : (m.l.length : Int) < m.cap
            · exact do1_err_true HK (mkHid (hasAll_no ha).1) (by decide) (by decide) hl A c B d w hM
            · exact do1_err_false HK (mkHid (hasAll_no ha).1) (by decide) (by decide) hl A c B d w hM
          · rw [if_pos ⟨hrc, by rw [ha]⟩] at hX
            by_cases hx : i ∈ m.l
            · rw [if_pos hx] at hX
              subst hX
              rw [if_neg (by show ¬ ((_ : Int) = 0); decide)] at e'
              cases e'
              have g : withAll m.h m.l i = ([], 5) := by rw [hq]; exact withAll_there q1 q2 hs ht hx
              by_cases hl : (m.l.length : Int) < m.cap
              · exact do1_err_true HK (mkHid g) (by decide) (by decide) hl A c B d w hM
              · exact do1_err_false HK (mkHid g) (by decide) (by decide) hl A c B d w hM
            · rw [if_neg hx] at hX
              by_cases hl : (m.l.length : Int) = m.cap
              · rw [if_pos hl] at hX
                subst hX
                rw [if_neg (by show ¬ ((_ : Int) = 0); decide)] at e'
                cases e'
                by_cases h4 : m.l.length = 1024
                · have g : withAll m.h m.l i = ([], 6) := by rw [hq]; exact withAll_full q1 q2 hs ht hx h4
                  exact do1_full6 HK (mkHid g) (by omega) A c B d w hM
                · have g : withAll m.h m.l i = (addL m.l i, 0) := by rw [hq]; exact withAll_mk q1 q2 hs ht hx h4
                  exact do1_full0 HK (mkHid g) (by omega) A c B d w hM
              · rw [if_neg hl] at hX
                have g : withAll m.h m.l i = (addL m.l i, 0) := by rw [hq]; exact withAll_mk q1 q2 hs ht hx (by omega)
                by_cases hn : m.n = 1099511627776
                · rw [if_pos hn] at hX
                  subst hX
                  rw [if_neg (by show ¬ ((_ : Int) = 0); decide)] at e'
                  cases e'
                  exact do1_over HK (mkHid g) (by omega) (mkHid hn) A c B d w hM
                · rw [if_neg hn] at hX
                  subst hX
                  rw [if_pos rfl] at e'
                  cases e'
                  exact do1_ok HK (mkHid g) (by omega) hn b4 b5 A c B d w hM
        · rw [if_neg k1] at e'
          by_cases k2 : k = 2
          · subst k2
            rw [if_pos rfl] at e'
            obtain ⟨X, hX⟩ : ∃ X, rollDel m.h m.cap m.l m.n i = X := ⟨_, rfl⟩
            have hX' := hX
            rw [hX'] at e'
            unfold rollDel at hX
            unfold chM at e'
            rcases hasAll_or m.h m.l i with ha | ⟨q, hq, q1, q2, hs, ht, ha⟩
            · rw [if_neg (by rw [ha]; simp)] at hX
              subst hX
              rw [if_neg (by show ¬ ((_ : Int) = 0); decide)] at e'
              cases e'
              exact do2_err HK (mkHid (hasAll_no ha).2) (by decide) (by decide) A c B d w hM
            · rw [if_pos ⟨hrc, by rw [ha]⟩] at hX
              by_cases hx : i ∈ m.l
              · rw [if_neg (by simpa using hx)] at hX
                have g : withoutAll m.h m.l i = (remL m.l i, 0) := by rw [hq]; exact withoutAll_mk q1 q2 hs ht hx
                by_cases hn : m.n = 1099511627776
                · rw [if_pos hn] at hX
                  subst hX
                  rw [if_neg (by show ¬ ((_ : Int) = 0); decide)] at e'
                  cases e'
                  exact do2_over HK (mkHid g) (mkHid hn) A c B d w hM
                · rw [if_neg hn] at hX
                  subst hX
                  rw [if_pos rfl] at e'
                  cases e'
                  exact do2_ok HK (mkHid g) hn b4 b5 A c B d w hM
              · rw [if_pos hx] at hX
                subst hX
                rw [if_neg (by show ¬ ((_ : Int) = 0); decide)] at e'
                cases e'
                have g : withoutAll m.h m.l i = ([], 4) := by rw [hq]; exact withoutAll_none q1 q2 hs ht hx
                exact do2_err HK (mkHid g) (by decide) (by decide) A c B d w hM
          · rw [if_neg k2] at e'
            by_cases k3 : k = 3
            · subst k3
              rw [if_pos rfl] at e'
              unfold sendM at e'
              by_cases hd : (m.sent.length : Int) + 1 = m.draws
              · rw [if_pos hd] at e'
                cases e'
                exact do3_full HK (mkHid hd) A c B d w hM
              · rw [if_neg hd] at e'
                cases e'
                exact do3_ok HK (mkHid hd) A c B d w hM
            · rw [if_neg k3] at e'
              obtain rfl : k = 4 := by omega
              unfold readM at e'
              obtain ⟨z, r0, hm⟩ : ∃ z r0, mayM m i n = (z, r0) := ⟨_, _, rfl⟩
              rw [hm] at e'
              dsimp only at e'
              by_cases hr : r0 = 0
              · subst hr
                rw [if_neg (by simp)] at e'
                cases z
                · rw [if_pos rfl] at e'
                  cases e'
                  exact do4_no HK (mkHid hm) A c B d w hM
                · rw [if_neg (by simp)] at e'
                  have hm' := hm
                  unfold mayM at hm'
                  split at hm'
                  · rename_i hc
                    obtain ⟨j, rfl⟩ : ∃ j : Nat, n = (j : Int) + 1 := ⟨(n - 1).toNat, by omega⟩
                    rw [show ((j : Int) + 1 - 1).toNat = j by omega] at hm' e'
                    by_cases hj : j < m.sent.length
                    · rw [List.getElem?_eq_getElem hj] at e'
                      obtain ⟨so, sd, s1, s2, hs⟩ : ∃ so sd s1 s2, m.sent[j] = ⟨so, sd, (s1, s2)⟩ := ⟨_, _, _, _, rfl⟩
                      rw [hs] at e'
                      cases e'
                      exact do4_yes HK hj (mkHid hs) (mkHid hm) A c B d w hM
                    · rw [List.getElem?_eq_none (by omega)] at hm'
                      cases hm'
                  · cases hm'
              · rw [if_pos hr] at e'
                cases e'
                exact do4_err HK (mkHid hm) hr A c B d w hM
  · have hok : okM m = false := by
      cases h : okM m with
      | false => rfl
      | true => rw [h] at hk; simp at hk
    rw [if_neg (by rw [hok]; simp)] at e'
    cases e'
    exact do_bad (mkHid hk) A c B d w hM
end Go.Proofs.Ytmehbonjpmlmfaa

namespace Go.Proofs.Ytmehbonjpmlmfaa
open Go.RowKit

/-- a roll that may be -/
structure Good (k : Nat) (h room : Int) (s : List Nat) (n : Int) : Prop where
  eq : h = (k : Int)
  h1 : 1 ≤ k
  h2 : k ≤ 32
  set : SetOk k s
  len : (s.length : Int) ≤ room
  room : room ≤ 1024
  n0 : 0 ≤ n
  n1 : n ≤ 1099511627776
theorem good_of {h room n : Int} {s : List Nat} (e : rollCheck h room s n = 0) : ∃ k, Good k h room s n := by
  obtain ⟨k, a, b, c, d, f, g, i, j⟩ := rollCheck_ok e
  exact ⟨k, a, b, c, d, f, g, i, j⟩
theorem Good.check {k : Nat} {h room n : Int} {s : List Nat} (G : Good k h room s n) : rollCheck h room s n = 0 := by
  unfold rollCheck
  have := G.len; have := G.room; have := G.n0; have := G.n1
  rw [if_neg (by unfold rollBad; omega), G.eq, checkAll_mk G.h1 G.h2 G.set]
theorem add_ok {h room n : Int} {s : List Nat} {t : Nat} {R : RollA} (e : rollAdd h room s n t = (R, 0)) : ∃ k, Good k h room s n ∧ t < 2 ^ k ∧ t ∉ s ∧ (s.length : Int) < room ∧ n < 1099511627776 ∧ R = ⟨h, room, addL s t, n + 1⟩ := by
  unfold rollAdd at e
  split at e
  · rename_i c
    obtain ⟨k, G⟩ := good_of c.1
    have ht : t < 2 ^ k := by
      rcases hasAll_or h s t with ha | ⟨k', hk', _, _, _, ht, _⟩
      · rw [ha] at c; exact absurd c.2 (by simp)
      · have : k' = k := by have := G.eq; omega
        rw [← this]; exact ht
    split at e
    · cases e
    · rename_i hx
      split at e
      · cases e
      · rename_i hl
        split at e
        · cases e
        · rename_i hn
          cases e
          have := G.len; have := G.n1
          exact ⟨k, G, ht, hx, by omega, by omega, rfl⟩
  · cases e
theorem Good.more {k : Nat} {h room n : Int} {s : List Nat} (G : Good k h room s n) {t : Nat} (ht : t < 2 ^ k) (hx : t ∉ s) (hl : (s.length : Int) < room) (hn : n < 1099511627776) : Good k h room (addL s t) (n + 1) := by
  have a := addL_length G.set hx
  have := G.room; have := G.n0
  exact ⟨G.eq, G.h1, G.h2, setOk_addL G.set hx (by omega) ht, by omega, G.room, by omega, by omega⟩
theorem Good.less {k : Nat} {h room n : Int} {s : List Nat} (G : Good k h room s n) {t : Nat} (hx : t ∈ s) (hn : n < 1099511627776) : Good k h room (remL s t) (n + 1) := by
  have a := remL_length G.set hx
  have := G.len; have := G.n0
  exact ⟨G.eq, G.h1, G.h2, setOk_remL G.set, by omega, G.room, by omega, by omega⟩
end Go.Proofs.Ytmehbonjpmlmfaa

namespace Go.Proofs.Ytmehbonjpmlmfaa
open Go.RowKit

theorem okM_iff (m : ModD) : okM m = true ↔ rollCheck m.h m.cap m.l m.n = 0 ∧ m.draws ≤ 4096 ∧ (m.sent.length : Int) < m.draws ∧ sentOk m.h m.cap m.sent m.sent.length = true := by
  constructor
  · intro h
    obtain ⟨h1, h2, h3, h4, h5, h6, h7, h8⟩ := okM_parts h
    exact ⟨okM_roll h, h6, h7, h8⟩
  · rintro ⟨h1, h2, h3, h4⟩
    obtain ⟨k, G⟩ := good_of h1
    have hc : checkAll m.h m.l = 0 := by rw [G.eq]; exact checkAll_mk G.h1 G.h2 G.set
    unfold okM inRoom
    simp only [Bool.and_eq_true, decide_eq_true_eq, beq_iff_eq]
    exact ⟨⟨⟨⟨⟨⟨G.room, G.len, hc⟩, G.n0⟩, G.n1⟩, h2⟩, h3⟩, h4⟩
theorem del_ok {h room n : Int} {s : List Nat} {t : Nat} {R : RollA} (e : rollDel h room s n t = (R, 0)) : ∃ k, Good k h room s n ∧ t < 2 ^ k ∧ t ∈ s ∧ n < 1099511627776 ∧ R = ⟨h, room, remL s t, n + 1⟩ := by
  unfold rollDel at e
  split at e
  · rename_i c
    obtain ⟨k, G⟩ := good_of c.1
    rcases hasAll_or h s t with ha | ⟨k', e', _, _, _, ht, _⟩
    · rw [ha] at c; exact absurd c.2 (by decide)
    · obtain rfl : k' = k := by have := G.eq; omega
      split at e
      · cases e
      · rename_i hx
        split at e
        · cases e
        · rename_i hn
          cases e
          have := G.n1
          exact ⟨k', G, ht, by simpa using hx, by omega, rfl⟩
  · cases e
/-- what is done, and what is answered -/
inductive Step (m : ModD) (o : OpD) (m' : ModD) (a : AnsD) : Prop
  | add (k : o.kind = 1) (i : o.i ∉ m.l) (e : m' = { m with l := addL m.l o.i, n := m.n + 1 }) (ha : a = ansE 0)
  | del (k : o.kind = 2) (i : o.i ∈ m.l) (e : m' = { m with l := remL m.l o.i, n := m.n + 1 }) (ha : a = ansE 0)
  | no (k : o.kind = 1 ∨ o.kind = 2) (e : m' = m) (r : Int) (hr : r ≠ 0) (ha : a = ansE r)
  | sent (k : o.kind = 3) (d : (m.sent.length : Int) + 1 ≠ m.draws) (e : m' = { m with sent := m.sent ++ [⟨m.l, (m.sent.length : Int) + 1, o.p⟩] }) (ha : a = ⟨0, (m.sent.length : Int) + 1, (m.sent.length : Int) + 1, (0, 0)⟩)
  | full (k : o.kind = 3) (d : (m.sent.length : Int) + 1 = m.draws) (e : m' = m) (ha : a = ansE 10)
  | read (k : o.kind = 4) (e : m' = m) (ha : a = readM m o.i o.n)
theorem sentOk_more {h cap : Int} {S : List SentD} {x : SentD} (e : sentOk h cap S S.length = true) (hx : inRoom h cap x.out = true) (hd : x.draw = (S.length : Int) + 1) : sentOk h cap (S ++ [x]) (S ++ [x]).length = true := by
  unfold sentOk at *
  rw [List.all_eq_true] at *
  intro i hi
  rw [List.mem_range] at hi
  by_cases c : i < S.length
  · rw [List.getElem?_append_left c]
    exact e i (List.mem_range.2 c)
  · have : i = S.length := by simp at hi; omega
    subst this
    simp [hx, hd]
theorem doM_step {m m' : ModD} {o : OpD} {a : AnsD} {r : Int} (hok : okM m = true) (e : doM m o = (m', a, r)) :
    (r = 1 ∧ (o.kind < 1 ∨ 4 < o.kind) ∧ m' = zeroM ∧ a = ansE 0) ∨ (r = 0 ∧ 1 ≤ o.kind ∧ o.kind ≤ 4 ∧ Step m o m' a ∧ okM m' = true) := by
  obtain ⟨h1, h2, h3, h4⟩ := (okM_iff m).1 hok
  unfold doM at e
  by_cases k : 1 ≤ o.kind ∧ o.kind ≤ 4
  · rw [if_pos ⟨hok, k⟩] at e
    refine .inr ?_
    by_cases k1 : o.kind = 1
    · rw [if_pos k1] at e
      obtain ⟨R, q, hX⟩ : ∃ R q, rollAdd m.h m.cap m.l m.n o.i = (R, q) := ⟨_, _, rfl⟩
      rw [hX] at e
      unfold chM at e
      dsimp only at e
      by_cases hq : q = 0
      · subst hq
        rw [if_pos rfl] at e
        obtain ⟨kk, G, hi, hx, hl, hn, rfl⟩ := add_ok hX
        cases e
        refine ⟨rfl, k.1, k.2, .add k1 hx rfl rfl, (okM_iff _).2 ⟨(G.more hi hx hl hn).check, h2, h3, h4⟩⟩
      · rw [if_neg hq] at e
        cases e
        exact ⟨rfl, k.1, k.2, .no (.inl k1) rfl q hq rfl, hok⟩
    · rw [if_neg k1] at e
      by_cases k2 : o.kind = 2
      · rw [if_pos k2] at e
        obtain ⟨R, q, hX⟩ : ∃ R q, rollDel m.h m.cap m.l m.n o.i = (R, q) := ⟨_, _, rfl⟩
        rw [hX] at e
        unfold chM at e
        dsimp only at e
        by_cases hq : q = 0
        · subst hq
          rw [if_pos rfl] at e
          obtain ⟨kk, G, hi, hx, hn, rfl⟩ := del_ok hX
          cases e
          refine ⟨rfl, k.1, k.2, .del k2 hx rfl rfl, (okM_iff _).2 ⟨(G.less hx hn).check, h2, h3, h4⟩⟩
        · rw [if_neg hq] at e
          cases e
          exact ⟨rfl, k.1, k.2, .no (.inr k2) rfl q hq rfl, hok⟩
      · rw [if_neg k2] at e
        by_cases k3 : o.kind = 3
        · rw [if_pos k3] at e
          unfold sendM at e
          by_cases hd : (m.sent.length : Int) + 1 = m.draws
          · rw [if_pos hd] at e
            cases e
            exact ⟨rfl, k.1, k.2, .full k3 hd rfl rfl, hok⟩
          · rw [if_neg hd] at e
            cases e
            refine ⟨rfl, k.1, k.2, .sent k3 hd rfl rfl, (okM_iff _).2 ⟨h1, h2, by simp; omega, ?_⟩⟩
            obtain ⟨b1, b2, b3, b4, b5, b6, b7, b8⟩ := okM_parts hok
            exact sentOk_more h4 (by unfold inRoom; simp [b2, b3]) rfl
        · rw [if_neg k3] at e
          cases e
          exact ⟨rfl, k.1, k.2, .read (by omega) rfl rfl, hok⟩
  · rw [if_neg (fun c => k c.2)] at e
    cases e
    exact .inl ⟨rfl, by omega, rfl, rfl⟩
end Go.Proofs.Ytmehbonjpmlmfaa

namespace Go.Proofs.Ytmehbonjpmlmfaa
open Go.ChangeShapes Go.WideShapes Go.ChangeAt Go.RowKit

theorem own : ownKnob Try.prog.godebug = none := by kernel_rfl
theorem laidOut : laidOutB Try.prog = true := by kernel_rfl
theorem cells_u64' : Try.prog.cellsOf 30 = 1 := by kernel_rfl
end Go.Proofs.Ytmehbonjpmlmfaa

namespace Go.Proofs.Ytmehbonjpmlmfaa
open Go.ChangeShapes Go.WideShapes Go.ChangeAt Go.RowKit Go.Deep Go.Lib

section
variable {H : Type} {enc : TypeId × Value → H} {w : World} {r : Reach} {b0 base : Nat} {held : Bool}
theorem leaves_cells {fuel : Nat} {v : Value} {x : DataW H × List MemPlace} (hf : DataW.trod enc Try.prog w base (fun _ => true) held fuel 22 [v] = some x) :
    ∃ (a : Option Addr) (s : List Nat) (cap : Nat), v = .slice a s.length cap ∧ s.length ≤ cap ∧ cap ≤ maxLen ∧ Reads w a s ∧ (∀ j, s.getD j 0 < 18446744073709551616) ∧ (a = none → cap = 0) := by
  rcases open_ints Try.underlying22 Try.underlying30 cells_u64' hf with ⟨hcs, _⟩ | ⟨x, l, c, z, hcs, _, hl, hm, hz, _, hcell, hwz⟩
  · simp at hcs
    subst hcs
    exact ⟨none, [], 0, rfl, Nat.le_refl _, by unfold maxLen; omega, Reads.nil _, fun j => by simp, fun _ => rfl⟩
  · simp at hcs
    subst hcs
    simp only [if_true] at hz
    have hlen : ((z.take l).map Int.toNat).length = l := by simp; omega
    have hget : ∀ j, j < l → ∃ y : Nat, z.getD j 0 = (y : Int) ∧ ((z.take l).map Int.toNat).getD j 0 = y ∧ y < 18446744073709551616 := by
      intro j hj
      have hzi : z.getD j 0 = z[j]'(by omega) := by simp [List.getD, List.getElem?_eq_getElem (show j < z.length by omega)]
      have hw := hwz _ (List.getElem_mem (show j < z.length by omega))
      obtain ⟨y, hy, hy2⟩ := nat_u64 hw
      refine ⟨y, by rw [hzi, hy], ?_, hy2⟩
      rw [List.getD_eq_getElem?_getD, List.getElem?_map, List.getElem?_take, if_pos hj, List.getElem?_eq_getElem (show j < z.length by omega), hy]
      simp
    refine ⟨some x, (z.take l).map Int.toNat, c, by rw [hlen], by omega, hm, ?_, fun j => ?_, fun e => by cases e⟩
    · refine Reads.of_cells (by rw [hlen]; unfold maxLen at hm; omega) fun j hj => ?_
      rw [hlen] at hj
      obtain ⟨y, e1, e2, _⟩ := hget j hj
      rw [e2, ← e1]
      exact hcell j (by omega)
    · by_cases hj : j < l
      · obtain ⟨y, _, e2, e3⟩ := hget j hj
        rw [e2]; exact e3
      · rw [List.getD_eq_getElem?_getD, List.getElem?_eq_none (by omega)]; decide
end
end Go.Proofs.Ytmehbonjpmlmfaa

namespace Go.Proofs.Ytmehbonjpmlmfaa
open Go.ChangeShapes Go.WideShapes Go.ChangeAt Go.RowKit Go.Deep Go.Lib

theorem cells_op : Try.prog.cellsOf 53 = 5 := by kernel_rfl
theorem cells_sent : Try.prog.cellsOf 66 = 4 := by kernel_rfl
theorem cells_model : Try.prog.cellsOf 45 = 6 := by kernel_rfl
theorem cells_block : Try.prog.cellsOf 51 = 2 := by kernel_rfl
theorem cells_int : Try.prog.cellsOf 3 = 1 := by kernel_rfl
theorem cells_int64 : Try.prog.cellsOf 2 = 1 := by kernel_rfl
theorem cells_leaves : Try.prog.cellsOf 22 = 1 := by kernel_rfl
theorem cells_sents : Try.prog.cellsOf 43 = 1 := by kernel_rfl
theorem addr_add2 (a : Addr) (i j : Nat) : (a.add i).add j = a.add (i + j) := by
  unfold Addr.add
  by_cases hi : i = 0
  · subst hi; simp
  · by_cases hj : j = 0
    · subst hj; simp [hi]
    · simp [hi, hj, Nat.add_assoc]
theorem bv_of {n : Int} (h : (Lit.int .u64 n).wf = true) : ∃ x : BitVec 64, n = (x.toNat : Int) := by
  obtain ⟨y, rfl, hy⟩ := nat_u64 h
  exact ⟨BitVec.ofNat 64 y, by rw [BitVec.toNat_ofNat, Nat.mod_eq_of_lt (by omega)]⟩
/-- what a script does, as cells -/
def opCells (o : OpD) : List Value := [.int .i64 o.kind, .int .u64 (o.i : Int), .int .i64 o.n, .int .u64 (o.p.1.toNat : Int), .int .u64 (o.p.2.toNat : Int)]
/-- it can stand in memory -/
structure OpD.wf (o : OpD) : Prop where
  kind : (Lit.int .i64 o.kind).wf = true
  i : o.i < 18446744073709551616
  n : (Lit.int .i64 o.n).wf = true
def OpsAt (w : World) (A : Option Addr) (L : List OpD) : Prop := ∀ i (hi : i < L.length), ∃ ad, A = some ad ∧ ∀ j u, (opCells L[i])[j]? = some u → w.cell? (ad.add (i * 5 + j)) = some u
section
variable {H : Type} {enc : TypeId × Value → H} {w : World} {r : Reach} {b0 base : Nat} {spare : Nat → Bool} {held : Bool}
set_option maxRecDepth 100000 in
theorem block_cells {fuel : Nat} {c0 c1 : Value} {x : DataW H × List MemPlace} (hf : DataW.trod enc Try.prog w base spare held fuel 51 [c0, c1] = some x) :
    ∃ x y : BitVec 64, c0 = .int .u64 (x.toNat : Int) ∧ c1 = .int .u64 (y.toNat : Int) := by
  obtain ⟨xs, m, _, _, _, hl, hi⟩ := DataW.trod_array Try.underlying51 hf
  have h0 := hi 0 (by omega)
  have h1 := hi 1 (by omega)
  rw [cells_u64'] at h0 h1
  obtain ⟨y0, e0⟩ : ∃ y, xs[0]? = some y := ⟨xs[0], List.getElem?_eq_getElem (by omega)⟩
  obtain ⟨y1, e1⟩ : ∃ y, xs[1]? = some y := ⟨xs[1], List.getElem?_eq_getElem (by omega)⟩
  rw [e0] at h0; rw [e1] at h1
  obtain ⟨n0, q0, _, w0⟩ := DataW.trod_int Try.underlying30 h0
  obtain ⟨n1, q1, _, w1⟩ := DataW.trod_int Try.underlying30 h1
  simp at q0 q1
  obtain ⟨x, rfl⟩ := bv_of w0
  obtain ⟨y, rfl⟩ := bv_of w1
  exact ⟨x, y, q0, q1⟩
set_option maxRecDepth 100000 in
theorem op_cells {fuel : Nat} {cs : List Value} {x : DataW H × List MemPlace} (h : DataW.trod enc Try.prog w base spare held fuel 53 cs = some x) : ∃ o : OpD, cs = opCells o ∧ o.wf := by
  obtain ⟨xs, n, _, _, hl, hxl, hf⟩ := DataW.trod_struct Try.underlying53 h
  rw [cells_op] at hl
  match cs, hl with
  | [c0, c1, c2, c3, c4], _ =>
    have hx : ∀ i, i < 4 → ∃ y, xs[i]? = some y := fun i hi => ⟨xs[i]'(by rw [hxl]; exact hi), List.getElem?_eq_getElem (by rw [hxl]; exact hi)⟩
    have g0 : DataW.trod enc Try.prog w base spare held n 3 (([c0, c1, c2, c3, c4].drop 0).take (Try.prog.cellsOf 3)) = xs[0]? := hf 0 _ rfl
    have g1 : DataW.trod enc Try.prog w base spare held n 30 (([c0, c1, c2, c3, c4].drop 1).take (Try.prog.cellsOf 30)) = xs[1]? := hf 1 _ rfl
    have g2 : DataW.trod enc Try.prog w base spare held n 2 (([c0, c1, c2, c3, c4].drop 2).take (Try.prog.cellsOf 2)) = xs[2]? := hf 2 _ rfl
    have g3 : DataW.trod enc Try.prog w base spare held n 51 (([c0, c1, c2, c3, c4].drop 3).take (Try.prog.cellsOf 51)) = xs[3]? := hf 3 _ rfl
    rw [cells_int] at g0
    rw [cells_u64'] at g1
    rw [cells_int64] at g2
    rw [cells_block] at g3
    obtain ⟨y0, e0⟩ := hx 0 (by omega)
    obtain ⟨y1, e1⟩ := hx 1 (by omega)
    obtain ⟨y2, e2⟩ := hx 2 (by omega)
    obtain ⟨y3, e3⟩ := hx 3 (by omega)
    rw [e0] at g0; rw [e1] at g1; rw [e2] at g2; rw [e3] at g3
    obtain ⟨n0, q0, _, w0⟩ := DataW.trod_int Try.underlying3 g0
    obtain ⟨n1, q1, _, w1⟩ := DataW.trod_int Try.underlying30 g1
    obtain ⟨n2, q2, _, w2⟩ := DataW.trod_int Try.underlying2 g2
    obtain ⟨p1, p2, e3, e4⟩ := block_cells g3
    obtain ⟨y, rfl, hy⟩ := nat_u64 w1
    simp at q0 q1 q2
    subst q0 q1 q2 e3 e4
    exact ⟨⟨n0, y, n2, (p1, p2)⟩, rfl, w0, hy, w2⟩
set_option maxRecDepth 100000 in
theorem open_ops {v : Value} {d : DataW H} {p : List MemPlace} (hv : Value.okWide Try.prog w r b0 42 v) (h : DataW.Trod enc Try.prog w base (fun _ => true) held 42 v d p) :
    ∃ (a : Option Addr) (L : List OpD) (cap : Nat), v = .slice a L.length cap ∧ L.length ≤ cap ∧ cap ≤ maxLen ∧ OpsAt w a L ∧ ∀ o ∈ L, o.wf := by
  obtain ⟨a, len, cap, rfl⟩ := okWide_slice Try.underlying42 hv
  obtain ⟨fuel, hf⟩ := h
  rcases open_slice Try.underlying42 hf with ⟨hcs, _⟩ | ⟨x, l, c, m, n, D, Pl, hcs, _, hl, hm, hmm, _, hall⟩
  · simp [Value.cells] at hcs
    obtain ⟨rfl, rfl, rfl⟩ := hcs
    exact ⟨none, [], 0, rfl, Nat.le_refl _, by unfold maxLen; omega, fun i hi => by simp at hi, fun o ho => by simp at ho⟩
  · simp [Value.cells] at hcs
    obtain ⟨rfl, rfl, rfl⟩ := hcs
    simp only [if_true] at hmm
    have each : ∀ i : Nat, ∃ o : OpD, i < m → o.wf ∧ ∀ j u, (opCells o)[j]? = some u → w.cell? (x.add (i * 5 + j)) = some u := by
      intro i
      by_cases hi : i < m
      · obtain ⟨cs', h1, h2⟩ := hall i hi
        rw [cells_op] at h1
        obtain ⟨_, hlen, hcell⟩ := World.cells?_some h1
        obtain ⟨o, rfl, ho⟩ := op_cells h2
        refine ⟨o, fun _ => ⟨ho, fun j u hj => ?_⟩⟩
        have hjl : j < 5 := by
          have := (List.getElem?_eq_some_iff.1 hj).1
          simpa [opCells] using this
        have := hcell j hjl
        rw [addr_add2] at this
        rw [this, hj]
      · exact ⟨⟨0, 0, 0, (0, 0)⟩, fun h => absurd h hi⟩
    obtain ⟨f, hfun⟩ := Classical.axiomOfChoice each
    have hlen : ((List.range len).map f).length = len := by simp
    refine ⟨some x, (List.range len).map f, cap, by rw [hlen], by omega, hm, fun i hi => ⟨x, rfl, ?_⟩, fun o ho => ?_⟩
    · have hi' : i < len := by simpa using hi
      have e : ((List.range len).map f)[i] = f i := by simp
      rw [e]
      exact (hfun i (by omega)).2
    · obtain ⟨i, hi, rfl⟩ := List.mem_map.1 ho
      exact (hfun i (by have := List.mem_range.1 hi; omega)).1
set_option maxRecDepth 100000 in
theorem sent_cells {fuel : Nat} {cs : List Value} {x : DataW H × List MemPlace} (h : DataW.trod enc Try.prog w base (fun _ => true) held fuel 66 cs = some x) :
    ∃ (a : Option Addr) (c : Nat) (s : List Nat) (dr : Int) (p1 p2 : BitVec 64), cs = [.slice a s.length c, .int .i64 dr, .int .u64 (p1.toNat : Int), .int .u64 (p2.toNat : Int)] ∧ s.length ≤ c ∧ c ≤ maxLen ∧ Reads w a s ∧ (a = none → c = 0) ∧ (∀ j, s.getD j 0 < 18446744073709551616) ∧ (Lit.int .i64 dr).wf = true := by
  obtain ⟨xs, n, _, _, hl, hxl, hf⟩ := DataW.trod_struct Try.underlying66 h
  rw [cells_sent] at hl
  match cs, hl with
  | [c0, c1, c2, c3], _ =>
    have hx : ∀ i, i < 3 → ∃ y, xs[i]? = some y := fun i hi => ⟨xs[i]'(by rw [hxl]; exact hi), List.getElem?_eq_getElem (by rw [hxl]; exact hi)⟩
    have g0 : DataW.trod enc Try.prog w base (fun _ => true) held n 22 (([c0, c1, c2, c3].drop 0).take (Try.prog.cellsOf 22)) = xs[0]? := hf 0 _ rfl
    have g1 : DataW.trod enc Try.prog w base (fun _ => true) held n 3 (([c0, c1, c2, c3].drop 1).take (Try.prog.cellsOf 3)) = xs[1]? := hf 1 _ rfl
    have g2 : DataW.trod enc Try.prog w base (fun _ => true) held n 51 (([c0, c1, c2, c3].drop 2).take (Try.prog.cellsOf 51)) = xs[2]? := hf 2 _ rfl
    rw [cells_leaves] at g0
    rw [cells_int] at g1
    rw [cells_block] at g2
    obtain ⟨y0, e0⟩ := hx 0 (by omega)
    obtain ⟨y1, e1⟩ := hx 1 (by omega)
    obtain ⟨y2, e2⟩ := hx 2 (by omega)
    rw [e0] at g0; rw [e1] at g1; rw [e2] at g2
    have g0' : DataW.trod enc Try.prog w base (fun _ => true) held n 22 [c0] = some y0 := g0
    obtain ⟨a, s, cap, e, k1, k2, k3, k4, k5⟩ := leaves_cells g0'
    obtain ⟨n1, q1, _, w1⟩ := DataW.trod_int Try.underlying3 g1
    obtain ⟨p1, p2, e3, e4⟩ := block_cells g2
    simp at q1
    subst q1 e e3 e4
    exact ⟨a, cap, s, n1, p1, p2, rfl, k1, k2, k3, k5, k4, w1⟩
/-- what was sent, as it is read: how many were drawn may be anything -/
structure RawS where
  a : Option Addr
  c : Nat
  s : List Nat
  dr : Int
  p : BitVec 64 × BitVec 64
def rawCells (x : RawS) : List Value := [.slice x.a x.s.length x.c, .int .i64 x.dr, .int .u64 (x.p.1.toNat : Int), .int .u64 (x.p.2.toNat : Int)]
structure RawOk (w : World) (x : RawS) : Prop where
  l1 : x.s.length ≤ x.c
  l2 : x.c ≤ maxLen
  reads : Reads w x.a x.s
  nil : x.a = none → x.c = 0
  wf : (Lit.int .i64 x.dr).wf = true
  wfs : ∀ j, x.s.getD j 0 < 18446744073709551616
set_option maxRecDepth 100000 in
theorem open_sents {fuel : Nat} {v : Value} {x : DataW H × List MemPlace} (hf : DataW.trod enc Try.prog w base (fun _ => true) held fuel 43 [v] = some x) :
    ∃ (a : Option Addr) (R : List RawS) (cap : Nat), v = .slice a R.length cap ∧ R.length ≤ cap ∧ cap ≤ maxLen ∧ (∀ i (hi : i < R.length), RawOk w R[i] ∧ ∃ ad, a = some ad ∧ ∀ j u, (rawCells R[i])[j]? = some u → w.cell? (ad.add (i * 4 + j)) = some u) ∧ (a = none → cap = 0) := by
  rcases open_slice Try.underlying43 hf with ⟨hcs, _⟩ | ⟨x, l, c, m, n, D, Pl, hcs, _, hl, hm, hmm, _, hall⟩
  · simp at hcs
    subst hcs
    exact ⟨none, [], 0, rfl, Nat.le_refl _, by unfold maxLen; omega, fun i hi => by simp at hi, fun _ => rfl⟩
  · simp at hcs
    subst hcs
    simp only [if_true] at hmm
    have each : ∀ i : Nat, ∃ o : RawS, i < m → RawOk w o ∧ ∀ j u, (rawCells o)[j]? = some u → w.cell? (x.add (i * 4 + j)) = some u := by
      intro i
      by_cases hi : i < m
      · obtain ⟨cs', h1, h2⟩ := hall i hi
        rw [cells_sent] at h1
        obtain ⟨_, hlen, hcell⟩ := World.cells?_some h1
        obtain ⟨a, c, s, dr, p1, p2, rfl, k1, k2, k3, k4, k5, k6⟩ := sent_cells h2
        refine ⟨⟨a, c, s, dr, (p1, p2)⟩, fun _ => ⟨⟨k1, k2, k3, k4, k6, k5⟩, fun j u hj => ?_⟩⟩
        have hjl : j < 4 := by
          have := (List.getElem?_eq_some_iff.1 hj).1
          simpa [rawCells] using this
        have := hcell j hjl
        rw [addr_add2] at this
        rw [this]
        exact hj
      · exact ⟨⟨none, 0, [], 0, (0, 0)⟩, fun h => absurd h hi⟩
    obtain ⟨f, hfun⟩ := Classical.axiomOfChoice each
    have hlen : ((List.range l).map f).length = l := by simp
    refine ⟨some x, (List.range l).map f, c, by rw [hlen], by omega, hm, fun i hi => ?_, fun e => by cases e⟩
    have hi' : i < l := by simpa using hi
    have e : ((List.range l).map f)[i] = f i := by simp
    rw [e]
    exact ⟨(hfun i (by omega)).1, x, rfl, (hfun i (by omega)).2⟩
end
end Go.Proofs.Ytmehbonjpmlmfaa

namespace Go.Proofs.Ytmehbonjpmlmfaa
open Go.RowKit
theorem infoU : (Try.prog.info? 30).isSome = true := by kernel_rfl
theorem cells_u64 : Try.prog.cellsOf 30 = 1 := by kernel_rfl
theorem part0_u64 (a b : Int) (w : World) : (part 30 #[.int .u64 a, .int .u64 b] 0).run Try.prog w = .ok (.int .u64 a) w := by kernel_rfl
theorem part1_u64 (a b : Int) (w : World) : (part 30 #[.int .u64 a, .int .u64 b] 1).run Try.prog w = .ok (.int .u64 b) w := by kernel_rfl
/-- '==' on two blocks -/
theorem eq_blocks (a b c d : Int) (w : World) : (Op.equalIn 10000 51 (.agg #[.int .u64 a, .int .u64 b]) (.agg #[.int .u64 c, .int .u64 d])).run Try.prog w = .ok (a == c && b == d) w := by
  obtain ⟨i, hi⟩ := Option.isSome_iff_exists.1 infoU
  rw [run_equalIn_array w 9999 _ _ Try.underlying51 hi, cells_u64]
  have e1 := run_equalIn_int w 9998 30 .u64 .u64 a c Try.underlying30
  have e2 := run_equalIn_int w 9998 30 .u64 .u64 b d Try.underlying30
  rw [show List.range 2 = [0, 1] from rfl]
  simp only [Op.eqItems, Sem.run_bind, Nat.zero_mul, Nat.one_mul, part0_u64, Result.andThen_ok, e1]
  cases (a == c)
  · simp
  · simp only [Bool.not_true, Bool.false_eq_true, if_false, Sem.run_bind, part1_u64, Result.andThen_ok, e2]
    cases (b == d) <;> simp

theorem lv1 (A : Option Addr) (c : Nat) (B : Option Addr) (d : Nat) (w : World) (hM : MemM w A c B d ⟨3, 2, [], 0, 3, []⟩) :
    Calls Try.prog 29 #[.agg #[.int .i64 3, .int .i64 2, .slice A 0 c, .int .i64 0, .int .i64 3, .slice B 0 d], .agg #[.int .i64 1, .int .u64 7, .int .i64 0, .int .u64 0, .int .u64 0]] w fun e w' => ∃ A1 c1 B1 d1 X1, e = .returned (.tuple #[.agg #[.int .i64 3, .int .i64 2, .slice A1 1 c1, .int .i64 1, .int .i64 3, .slice B1 0 d1], .agg #[.int .i64 0, .int .i64 0, .int .i64 0, .int .u64 0, .int .u64 0], .int .i64 0]) ∧ OwnM w' w.heap.size A1 c1 B1 d1 X1 ⟨3, 2, [7], 1, 3, []⟩ ∧ Below w.heap.size w w' :=
  mdo (m := ⟨3, 2, [], 0, 3, []⟩) (m' := ⟨3, 2, [7], 1, 3, []⟩) (o := ⟨1, 7, 0, (0, 0)⟩) (a := ⟨0, 0, 0, (0, 0)⟩) (r := 0) (mkHid (by rfl)) A c B d w hM

theorem lv2 (A : Option Addr) (c : Nat) (B : Option Addr) (d : Nat) (w : World) (hM : MemM w A c B d ⟨3, 2, [7], 1, 3, []⟩) :
    Calls Try.prog 29 #[.agg #[.int .i64 3, .int .i64 2, .slice A 1 c, .int .i64 1, .int .i64 3, .slice B 0 d], .agg #[.int .i64 3, .int .u64 0, .int .i64 0, .int .u64 5, .int .u64 0]] w fun e w' => ∃ A1 c1 B1 d1 X1, e = .returned (.tuple #[.agg #[.int .i64 3, .int .i64 2, .slice A1 1 c1, .int .i64 1, .int .i64 3, .slice B1 1 d1], .agg #[.int .i64 0, .int .i64 1, .int .i64 1, .int .u64 0, .int .u64 0], .int .i64 0]) ∧ OwnM w' w.heap.size A1 c1 B1 d1 X1 ⟨3, 2, [7], 1, 3, [⟨[7], 1, (5, 0)⟩]⟩ ∧ Below w.heap.size w w' :=
  mdo (m := ⟨3, 2, [7], 1, 3, []⟩) (m' := ⟨3, 2, [7], 1, 3, [⟨[7], 1, (5, 0)⟩]⟩) (o := ⟨3, 0, 0, (5, 0)⟩) (a := ⟨0, 1, 1, (0, 0)⟩) (r := 0) (mkHid (by rfl)) A c B d w hM

theorem lv3 (A : Option Addr) (c : Nat) (B : Option Addr) (d : Nat) (w : World) (hM : MemM w A c B d ⟨3, 2, [7], 1, 3, [⟨[7], 1, (5, 0)⟩]⟩) :
    Calls Try.prog 29 #[.agg #[.int .i64 3, .int .i64 2, .slice A 1 c, .int .i64 1, .int .i64 3, .slice B 1 d], .agg #[.int .i64 4, .int .u64 7, .int .i64 1, .int .u64 0, .int .u64 0]] w fun e w' => ∃ A1 c1 B1 d1 X1, e = .returned (.tuple #[.agg #[.int .i64 3, .int .i64 2, .slice A1 1 c1, .int .i64 1, .int .i64 3, .slice B1 1 d1], .agg #[.int .i64 4, .int .i64 1, .int .i64 0, .int .u64 0, .int .u64 0], .int .i64 0]) ∧ OwnM w' w.heap.size A1 c1 B1 d1 X1 ⟨3, 2, [7], 1, 3, [⟨[7], 1, (5, 0)⟩]⟩ ∧ Below w.heap.size w w' :=
  mdo (m := ⟨3, 2, [7], 1, 3, [⟨[7], 1, (5, 0)⟩]⟩) (m' := ⟨3, 2, [7], 1, 3, [⟨[7], 1, (5, 0)⟩]⟩) (o := ⟨4, 7, 1, (0, 0)⟩) (a := ⟨4, 1, 0, (0, 0)⟩) (r := 0) (mkHid (by rfl)) A c B d w hM

theorem lv4 (A : Option Addr) (c : Nat) (B : Option Addr) (d : Nat) (w : World) (hM : MemM w A c B d ⟨3, 2, [7], 1, 3, [⟨[7], 1, (5, 0)⟩]⟩) :
    Calls Try.prog 29 #[.agg #[.int .i64 3, .int .i64 2, .slice A 1 c, .int .i64 1, .int .i64 3, .slice B 1 d], .agg #[.int .i64 4, .int .u64 6, .int .i64 1, .int .u64 0, .int .u64 0]] w fun e w' => ∃ A1 c1 B1 d1 X1, e = .returned (.tuple #[.agg #[.int .i64 3, .int .i64 2, .slice A1 1 c1, .int .i64 1, .int .i64 3, .slice B1 1 d1], .agg #[.int .i64 0, .int .i64 1, .int .i64 1, .int .u64 5, .int .u64 0], .int .i64 0]) ∧ OwnM w' w.heap.size A1 c1 B1 d1 X1 ⟨3, 2, [7], 1, 3, [⟨[7], 1, (5, 0)⟩]⟩ ∧ Below w.heap.size w w' :=
  mdo (m := ⟨3, 2, [7], 1, 3, [⟨[7], 1, (5, 0)⟩]⟩) (m' := ⟨3, 2, [7], 1, 3, [⟨[7], 1, (5, 0)⟩]⟩) (o := ⟨4, 6, 1, (0, 0)⟩) (a := ⟨0, 1, 1, (5, 0)⟩) (r := 0) (mkHid (by rfl)) A c B d w hM

theorem lv0 (w : World) : Calls Try.prog 28 #[.int .i64 3, .int .i64 2, .int .i64 3] w fun e w' => e = .returned (.tuple #[.agg #[.int .i64 3, .int .i64 2, .slice none 0 0, .int .i64 0, .int .i64 3, .slice none 0 0], .int .i64 0]) ∧ Below w.heap.size w w' := mnew (h := 3) (room := 2) (draws := 3) (m := ⟨3, 2, [], 0, 3, []⟩) (r := 0) (mkHid (by rfl)) w

set_option maxRecDepth 100000 in
set_option maxHeartbeats 4000000 in
theorem live22  (w : World) :
    Calls Try.prog 27 #[] w fun e w' => e = .returned (.bool true) ∧ Below w.heap.size w w' := by
  skip
  have KB : Hid (Below w.heap.size w w) := mkHid (Below.refl _ _)
  go_enter Try.func27, Try.ntmps27
  go_wp2_with fail
  refine (lv0 _).mono ?_
  rintro e w1 ⟨rfl, hb1⟩
  replace KB := mkHid (KB.out.step hb1)
  clear hb1
  have SZ := KB.out.size
  go_wp2_with fail
  replace KB := mkHid (KB.out.alloc KB.out.size (.cells #[.int .i64 3, .int .i64 2, .slice none 0 0, .int .i64 0, .int .i64 3, .slice none 0 0] 45))
  have ZM : Hid (Blk (w1.alloc (.cells #[.int .i64 3, .int .i64 2, .slice none 0 0, .int .i64 0, .int .i64 3, .slice none 0 0] 45)) w1.heap.size 45 #[.int .i64 3, .int .i64 2, .slice none 0 0, .int .i64 0, .int .i64 3, .slice none 0 0]) := mkHid (Blk.new _ _ _)
  have cZM := ZM.out.six
  have fZM0 := ZM.out.frozen 0
  have fZM1 := ZM.out.frozen 1
  have fZM2 := ZM.out.frozen 2
  have fZM3 := ZM.out.frozen 3
  have fZM4 := ZM.out.frozen 4
  have fZM5 := ZM.out.frozen 5
  have lZM := ZM.out.lt
  refine (lv1 none 0 none 0 _ (MemM.fresh _ 3 2 3)).mono ?_
  rintro e w2 ⟨A2, c2, B2, d2, X2, rfl, ho, hb2⟩
  have HO2 := mkHid (ho.base (b := w1.heap.size + 1) (by first | (simp; done) | (have := lZM; omega)))
  clear ho
  replace KB := mkHid (KB.out.step hb2)
  replace ZM := mkHid (ZM.out.keep hb2)
  clear cZM fZM0 fZM1 fZM2 fZM3 fZM4 fZM5 lZM
  have cZM := ZM.out.six
  have fZM0 := ZM.out.frozen 0
  have fZM1 := ZM.out.frozen 1
  have fZM2 := ZM.out.frozen 2
  have fZM3 := ZM.out.frozen 3
  have fZM4 := ZM.out.frozen 4
  have fZM5 := ZM.out.frozen 5
  have lZM := ZM.out.lt
  clear hb2
  have q2 : w1.heap.size < w2.heap.size := ZM.out.lt
  go_upto_region 3 with fail
  have E0 : Below (((((((w2.setCell ⟨w1.heap.size, 0, none⟩ (.int .i64 3)).setCell ⟨w1.heap.size, 1, none⟩ (.int .i64 2)).setCell ⟨w1.heap.size, 2, none⟩ (.slice A2 1 c2)).setCell ⟨w1.heap.size, 3, none⟩ (.int .i64 1)).setCell ⟨w1.heap.size, 4, none⟩ (.int .i64 3)).setCell ⟨w1.heap.size, 5, none⟩ (.slice B2 0 d2))).heap.size (((((((w2.setCell ⟨w1.heap.size, 0, none⟩ (.int .i64 3)).setCell ⟨w1.heap.size, 1, none⟩ (.int .i64 2)).setCell ⟨w1.heap.size, 2, none⟩ (.slice A2 1 c2)).setCell ⟨w1.heap.size, 3, none⟩ (.int .i64 1)).setCell ⟨w1.heap.size, 4, none⟩ (.int .i64 3)).setCell ⟨w1.heap.size, 5, none⟩ (.slice B2 0 d2))) ((((((((w2.setCell ⟨w1.heap.size, 0, none⟩ (.int .i64 3)).setCell ⟨w1.heap.size, 1, none⟩ (.int .i64 2)).setCell ⟨w1.heap.size, 2, none⟩ (.slice A2 1 c2)).setCell ⟨w1.heap.size, 3, none⟩ (.int .i64 1)).setCell ⟨w1.heap.size, 4, none⟩ (.int .i64 3)).setCell ⟨w1.heap.size, 5, none⟩ (.slice B2 0 d2))).alloc (.cells #[.int .i64 0, .int .i64 0, .int .i64 0, .int .u64 0, .int .u64 0] 55)) := (Below.refl _ _).alloc (Nat.le_refl _) _
  replace ZM := mkHid ((ZM.out.fill6 (b0 := .int .i64 3) (b1 := .int .i64 2) (b2 := .slice A2 1 c2) (b3 := .int .i64 1) (b4 := .int .i64 3) (b5 := .slice B2 0 d2)).keep E0)
  have ZF : Hid (Blk ((((((((w2.setCell ⟨w1.heap.size, 0, none⟩ (.int .i64 3)).setCell ⟨w1.heap.size, 1, none⟩ (.int .i64 2)).setCell ⟨w1.heap.size, 2, none⟩ (.slice A2 1 c2)).setCell ⟨w1.heap.size, 3, none⟩ (.int .i64 1)).setCell ⟨w1.heap.size, 4, none⟩ (.int .i64 3)).setCell ⟨w1.heap.size, 5, none⟩ (.slice B2 0 d2))).alloc (.cells #[.int .i64 0, .int .i64 0, .int .i64 0, .int .u64 0, .int .u64 0] 55)) w2.heap.size 55 #[.int .i64 0, .int .i64 0, .int .i64 0, .int .u64 0, .int .u64 0]) := mkHid (Blk.at _ _ _ (by simp))
  replace KB := mkHid ((below_six KB.out SZ (.int .i64 3) (.int .i64 2) (.slice A2 1 c2) (.int .i64 1) (.int .i64 3) (.slice B2 0 d2)).step E0)
  replace HO2 := mkHid ((HO2.out.past6 (g := w1.heap.size) (Nat.lt_succ_self _) (.int .i64 3) (.int .i64 2) (.slice A2 1 c2) (.int .i64 1) (.int .i64 3) (.slice B2 0 d2)).below E0)
  have HM2 := mkHid (HO2.out.mem (by decide))
  generalize (((((((w2.setCell ⟨w1.heap.size, 0, none⟩ (.int .i64 3)).setCell ⟨w1.heap.size, 1, none⟩ (.int .i64 2)).setCell ⟨w1.heap.size, 2, none⟩ (.slice A2 1 c2)).setCell ⟨w1.heap.size, 3, none⟩ (.int .i64 1)).setCell ⟨w1.heap.size, 4, none⟩ (.int .i64 3)).setCell ⟨w1.heap.size, 5, none⟩ (.slice B2 0 d2))).alloc (.cells #[.int .i64 0, .int .i64 0, .int .i64 0, .int .u64 0, .int .u64 0] 55) = v1 at *
  clear E0 HO2
  clear cZM fZM0 fZM1 fZM2 fZM3 fZM4 fZM5 lZM
  have cZM := ZM.out.six
  have fZM0 := ZM.out.frozen 0
  have fZM1 := ZM.out.frozen 1
  have fZM2 := ZM.out.frozen 2
  have fZM3 := ZM.out.frozen 3
  have fZM4 := ZM.out.frozen 4
  have fZM5 := ZM.out.frozen 5
  have lZM := ZM.out.lt
  have cZF := ZF.out.five
  have lZF := ZF.out.lt
  go_wp2_with fail
  refine (lv2 _ _ _ _ _ HM2.out).mono ?_
  rintro e w3 ⟨A3, c3, B3, d3, X3, rfl, ho, hb3⟩
  have HO3 := mkHid (ho.base (b := w1.heap.size + 1) (by first | (simp; done) | (have := lZM; omega)))
  clear ho
  replace KB := mkHid (KB.out.step hb3)
  replace ZM := mkHid (ZM.out.keep hb3)
  replace HM2 := mkHid (HM2.out.below hb3)
  replace ZF := mkHid (ZF.out.keep hb3)
  clear cZM fZM0 fZM1 fZM2 fZM3 fZM4 fZM5 lZM
  have cZM := ZM.out.six
  have fZM0 := ZM.out.frozen 0
  have fZM1 := ZM.out.frozen 1
  have fZM2 := ZM.out.frozen 2
  have fZM3 := ZM.out.frozen 3
  have fZM4 := ZM.out.frozen 4
  have fZM5 := ZM.out.frozen 5
  have lZM := ZM.out.lt
  clear cZF lZF
  have cZF := ZF.out.five
  have lZF := ZF.out.lt
  clear hb3
  have q3 : w1.heap.size < w3.heap.size := ZM.out.lt
  go_upto_region 4 with fail
  have E0 : Below (((((((w3.setCell ⟨w1.heap.size, 0, none⟩ (.int .i64 3)).setCell ⟨w1.heap.size, 1, none⟩ (.int .i64 2)).setCell ⟨w1.heap.size, 2, none⟩ (.slice A3 1 c3)).setCell ⟨w1.heap.size, 3, none⟩ (.int .i64 1)).setCell ⟨w1.heap.size, 4, none⟩ (.int .i64 3)).setCell ⟨w1.heap.size, 5, none⟩ (.slice B3 1 d3))).heap.size (((((((w3.setCell ⟨w1.heap.size, 0, none⟩ (.int .i64 3)).setCell ⟨w1.heap.size, 1, none⟩ (.int .i64 2)).setCell ⟨w1.heap.size, 2, none⟩ (.slice A3 1 c3)).setCell ⟨w1.heap.size, 3, none⟩ (.int .i64 1)).setCell ⟨w1.heap.size, 4, none⟩ (.int .i64 3)).setCell ⟨w1.heap.size, 5, none⟩ (.slice B3 1 d3))) ((((((((w3.setCell ⟨w1.heap.size, 0, none⟩ (.int .i64 3)).setCell ⟨w1.heap.size, 1, none⟩ (.int .i64 2)).setCell ⟨w1.heap.size, 2, none⟩ (.slice A3 1 c3)).setCell ⟨w1.heap.size, 3, none⟩ (.int .i64 1)).setCell ⟨w1.heap.size, 4, none⟩ (.int .i64 3)).setCell ⟨w1.heap.size, 5, none⟩ (.slice B3 1 d3))).alloc (.cells #[.int .i64 0, .int .i64 1, .int .i64 1, .int .u64 0, .int .u64 0] 55)) := (Below.refl _ _).alloc (Nat.le_refl _) _
  replace ZF := mkHid ((ZF.out.other6 (g := w1.heap.size) (x0 := .int .i64 3) (x1 := .int .i64 2) (x2 := .slice A3 1 c3) (x3 := .int .i64 1) (x4 := .int .i64 3) (x5 := .slice B3 1 d3) (by omega)).keep E0)
  replace ZM := mkHid ((ZM.out.fill6 (b0 := .int .i64 3) (b1 := .int .i64 2) (b2 := .slice A3 1 c3) (b3 := .int .i64 1) (b4 := .int .i64 3) (b5 := .slice B3 1 d3)).keep E0)
  have ZG : Hid (Blk ((((((((w3.setCell ⟨w1.heap.size, 0, none⟩ (.int .i64 3)).setCell ⟨w1.heap.size, 1, none⟩ (.int .i64 2)).setCell ⟨w1.heap.size, 2, none⟩ (.slice A3 1 c3)).setCell ⟨w1.heap.size, 3, none⟩ (.int .i64 1)).setCell ⟨w1.heap.size, 4, none⟩ (.int .i64 3)).setCell ⟨w1.heap.size, 5, none⟩ (.slice B3 1 d3))).alloc (.cells #[.int .i64 0, .int .i64 1, .int .i64 1, .int .u64 0, .int .u64 0] 55)) w3.heap.size 55 #[.int .i64 0, .int .i64 1, .int .i64 1, .int .u64 0, .int .u64 0]) := mkHid (Blk.at _ _ _ (by simp))
  replace KB := mkHid ((below_six KB.out SZ (.int .i64 3) (.int .i64 2) (.slice A3 1 c3) (.int .i64 1) (.int .i64 3) (.slice B3 1 d3)).step E0)
  replace HO3 := mkHid ((HO3.out.past6 (g := w1.heap.size) (Nat.lt_succ_self _) (.int .i64 3) (.int .i64 2) (.slice A3 1 c3) (.int .i64 1) (.int .i64 3) (.slice B3 1 d3)).below E0)
  have HM3 := mkHid (HO3.out.mem (by decide))
  generalize (((((((w3.setCell ⟨w1.heap.size, 0, none⟩ (.int .i64 3)).setCell ⟨w1.heap.size, 1, none⟩ (.int .i64 2)).setCell ⟨w1.heap.size, 2, none⟩ (.slice A3 1 c3)).setCell ⟨w1.heap.size, 3, none⟩ (.int .i64 1)).setCell ⟨w1.heap.size, 4, none⟩ (.int .i64 3)).setCell ⟨w1.heap.size, 5, none⟩ (.slice B3 1 d3))).alloc (.cells #[.int .i64 0, .int .i64 1, .int .i64 1, .int .u64 0, .int .u64 0] 55) = v2 at *
  clear E0 HO3
  clear cZM fZM0 fZM1 fZM2 fZM3 fZM4 fZM5 lZM
  have cZM := ZM.out.six
  have fZM0 := ZM.out.frozen 0
  have fZM1 := ZM.out.frozen 1
  have fZM2 := ZM.out.frozen 2
  have fZM3 := ZM.out.frozen 3
  have fZM4 := ZM.out.frozen 4
  have fZM5 := ZM.out.frozen 5
  have lZM := ZM.out.lt
  clear cZF lZF
  have cZF := ZF.out.five
  have lZF := ZF.out.lt
  have cZG := ZG.out.five
  have lZG := ZG.out.lt
  go_wp2_with fail
  refine (lv3 _ _ _ _ _ HM3.out).mono ?_
  rintro e w4 ⟨A4, c4, B4, d4, X4, rfl, ho, hb4⟩
  clear ho
  replace KB := mkHid (KB.out.step hb4)
  replace ZM := mkHid (ZM.out.keep hb4)
  replace ZF := mkHid (ZF.out.keep hb4)
  replace HM3 := mkHid (HM3.out.below hb4)
  replace ZG := mkHid (ZG.out.keep hb4)
  clear cZM fZM0 fZM1 fZM2 fZM3 fZM4 fZM5 lZM
  have cZM := ZM.out.six
  have fZM0 := ZM.out.frozen 0
  have fZM1 := ZM.out.frozen 1
  have fZM2 := ZM.out.frozen 2
  have fZM3 := ZM.out.frozen 3
  have fZM4 := ZM.out.frozen 4
  have fZM5 := ZM.out.frozen 5
  have lZM := ZM.out.lt
  clear cZF lZF
  have cZF := ZF.out.five
  have lZF := ZF.out.lt
  clear cZG lZG
  have cZG := ZG.out.five
  have lZG := ZG.out.lt
  clear hb4
  go_upto_region 5 with fail
  have E0 : Below w4.heap.size w4 ((w4.alloc (.cells #[.int .i64 3, .int .i64 2, .slice A4 1 c4, .int .i64 1, .int .i64 3, .slice B4 1 d4] 45)).alloc (.cells #[.int .i64 4, .int .i64 1, .int .i64 0, .int .u64 0, .int .u64 0] 55)) := ((Below.refl _ _).alloc (Nat.le_refl _) _).alloc (by simp) _
  replace ZM := mkHid (ZM.out.keep E0)
  replace ZF := mkHid (ZF.out.keep E0)
  replace ZG := mkHid (ZG.out.keep E0)
  replace HM3 := mkHid (HM3.out.below E0)
  have ZB : Hid (Blk ((w4.alloc (.cells #[.int .i64 3, .int .i64 2, .slice A4 1 c4, .int .i64 1, .int .i64 3, .slice B4 1 d4] 45)).alloc (.cells #[.int .i64 4, .int .i64 1, .int .i64 0, .int .u64 0, .int .u64 0] 55)) (w4.heap.size + 1) 55 #[.int .i64 4, .int .i64 1, .int .i64 0, .int .u64 0, .int .u64 0]) := mkHid (Blk.at _ _ _ (by simp))
  replace KB := mkHid (KB.out.step E0)
  generalize ((w4.alloc (.cells #[.int .i64 3, .int .i64 2, .slice A4 1 c4, .int .i64 1, .int .i64 3, .slice B4 1 d4] 45)).alloc (.cells #[.int .i64 4, .int .i64 1, .int .i64 0, .int .u64 0, .int .u64 0] 55)) = v3 at *
  clear E0
  clear cZM fZM0 fZM1 fZM2 fZM3 fZM4 fZM5 lZM
  have cZM := ZM.out.six
  have fZM0 := ZM.out.frozen 0
  have fZM1 := ZM.out.frozen 1
  have fZM2 := ZM.out.frozen 2
  have fZM3 := ZM.out.frozen 3
  have fZM4 := ZM.out.frozen 4
  have fZM5 := ZM.out.frozen 5
  have lZM := ZM.out.lt
  clear cZF lZF
  have cZF := ZF.out.five
  have lZF := ZF.out.lt
  clear cZG lZG
  have cZG := ZG.out.five
  have lZG := ZG.out.lt
  have cZB := ZB.out.five
  have lZB := ZB.out.lt
  go_wp2_with fail
  refine (lv4 _ _ _ _ _ HM3.out).mono ?_
  rintro e w5 ⟨A5, c5, B5, d5, X5, rfl, ho, hb5⟩
  clear ho
  replace KB := mkHid (KB.out.step hb5)
  replace ZM := mkHid (ZM.out.keep hb5)
  replace ZF := mkHid (ZF.out.keep hb5)
  replace HM3 := mkHid (HM3.out.below hb5)
  replace ZG := mkHid (ZG.out.keep hb5)
  replace ZB := mkHid (ZB.out.keep hb5)
  clear cZM fZM0 fZM1 fZM2 fZM3 fZM4 fZM5 lZM
  have cZM := ZM.out.six
  have fZM0 := ZM.out.frozen 0
  have fZM1 := ZM.out.frozen 1
  have fZM2 := ZM.out.frozen 2
  have fZM3 := ZM.out.frozen 3
  have fZM4 := ZM.out.frozen 4
  have fZM5 := ZM.out.frozen 5
  have lZM := ZM.out.lt
  clear cZF lZF
  have cZF := ZF.out.five
  have lZF := ZF.out.lt
  clear cZG lZG
  have cZG := ZG.out.five
  have lZG := ZG.out.lt
  clear cZB lZB
  have cZB := ZB.out.five
  have lZB := ZB.out.lt
  clear hb5
  go_upto_region 6 with fail
  have E0 : Below w5.heap.size w5 ((w5.alloc (.cells #[.int .i64 3, .int .i64 2, .slice A5 1 c5, .int .i64 1, .int .i64 3, .slice B5 1 d5] 45)).alloc (.cells #[.int .i64 0, .int .i64 1, .int .i64 1, .int .u64 5, .int .u64 0] 55)) := ((Below.refl _ _).alloc (Nat.le_refl _) _).alloc (by simp) _
  replace ZM := mkHid (ZM.out.keep E0)
  replace ZF := mkHid (ZF.out.keep E0)
  replace ZG := mkHid (ZG.out.keep E0)
  replace ZB := mkHid (ZB.out.keep E0)
  replace HM3 := mkHid (HM3.out.below E0)
  have ZC : Hid (Blk ((w5.alloc (.cells #[.int .i64 3, .int .i64 2, .slice A5 1 c5, .int .i64 1, .int .i64 3, .slice B5 1 d5] 45)).alloc (.cells #[.int .i64 0, .int .i64 1, .int .i64 1, .int .u64 5, .int .u64 0] 55)) (w5.heap.size + 1) 55 #[.int .i64 0, .int .i64 1, .int .i64 1, .int .u64 5, .int .u64 0]) := mkHid (Blk.at _ _ _ (by simp))
  replace KB := mkHid (KB.out.step E0)
  generalize ((w5.alloc (.cells #[.int .i64 3, .int .i64 2, .slice A5 1 c5, .int .i64 1, .int .i64 3, .slice B5 1 d5] 45)).alloc (.cells #[.int .i64 0, .int .i64 1, .int .i64 1, .int .u64 5, .int .u64 0] 55)) = v4 at *
  clear E0
  clear cZM fZM0 fZM1 fZM2 fZM3 fZM4 fZM5 lZM
  have cZM := ZM.out.six
  have fZM0 := ZM.out.frozen 0
  have fZM1 := ZM.out.frozen 1
  have fZM2 := ZM.out.frozen 2
  have fZM3 := ZM.out.frozen 3
  have fZM4 := ZM.out.frozen 4
  have fZM5 := ZM.out.frozen 5
  have lZM := ZM.out.lt
  clear cZF lZF
  have cZF := ZF.out.five
  have lZF := ZF.out.lt
  clear cZG lZG
  have cZG := ZG.out.five
  have lZG := ZG.out.lt
  clear cZB lZB
  have cZB := ZB.out.five
  have lZB := ZB.out.lt
  have cZC := ZC.out.five
  have lZC := ZC.out.lt
  have hq := eq_blocks
  go_wp2_with fail
  go_ret
  exact ⟨rfl, KB.out⟩
end Go.Proofs.Ytmehbonjpmlmfaa

namespace Go.Proofs.Ytmehbonjpmlmfaa
open Go.RowKit

set_option maxRecDepth 100000 in
set_option maxHeartbeats 4000000 in
theorem same1_no {s t : List Nat} {x y : Int} {p1 p2 q1 q2 : Int} (ez : Hid (decide (s = t) = false)) (hl : s.length < 4611686018427387904) (A B : Option Addr) (c d : Nat) (w : World) (hA : Reads w A s) (hB : Reads w B t) :
    Calls Try.prog 59 #[.agg #[.slice A s.length c, .int .i64 x, .int .u64 p1, .int .u64 p2], .agg #[.slice B t.length d, .int .i64 y, .int .u64 q1, .int .u64 q2]] w fun e w' => e = .returned (.bool false) ∧ Below w.heap.size w w' := by
  skip
  have KB : Hid (Below w.heap.size w ((w.alloc (.cells #[.slice A s.length c, .int .i64 x, .int .u64 p1, .int .u64 p2] 66)).alloc (.cells #[.slice B t.length d, .int .i64 y, .int .u64 q1, .int .u64 q2] 66))) := mkHid (((Below.refl _ _).alloc (Nat.le_refl _) (.cells #[.slice A s.length c, .int .i64 x, .int .u64 p1, .int .u64 p2] 66)).alloc (by simp) (.cells #[.slice B t.length d, .int .i64 y, .int .u64 q1, .int .u64 q2] 66))
  have HA := mkHid (hA.below (((Below.refl _ _).alloc (Nat.le_refl _) (.cells #[.slice A s.length c, .int .i64 x, .int .u64 p1, .int .u64 p2] 66)).alloc (by simp) (.cells #[.slice B t.length d, .int .i64 y, .int .u64 q1, .int .u64 q2] 66)))
  have HB := mkHid (hB.below (((Below.refl _ _).alloc (Nat.le_refl _) (.cells #[.slice A s.length c, .int .i64 x, .int .u64 p1, .int .u64 p2] 66)).alloc (by simp) (.cells #[.slice B t.length d, .int .i64 y, .int .u64 q1, .int .u64 q2] 66)))
  have ZX : Hid (Blk ((w.alloc (.cells #[.slice A s.length c, .int .i64 x, .int .u64 p1, .int .u64 p2] 66)).alloc (.cells #[.slice B t.length d, .int .i64 y, .int .u64 q1, .int .u64 q2] 66)) w.heap.size 66 #[.slice A s.length c, .int .i64 x, .int .u64 p1, .int .u64 p2]) := mkHid ((Blk.new _ _ _).alloc _)
  have ZY : Hid (Blk ((w.alloc (.cells #[.slice A s.length c, .int .i64 x, .int .u64 p1, .int .u64 p2] 66)).alloc (.cells #[.slice B t.length d, .int .i64 y, .int .u64 q1, .int .u64 q2] 66)) (w.heap.size + 1) 66 #[.slice B t.length d, .int .i64 y, .int .u64 q1, .int .u64 q2]) := mkHid (Blk.at _ _ _ (by simp))
  clear hA hB
  have cZX := ZX.out.four
  have lZX := ZX.out.lt
  have cZY := ZY.out.four
  have lZY := ZY.out.lt
  go_enter Try.func59, Try.ntmps59
  go_wp2_with fail
  refine (seq_any ez hl _ _ _ _ _ HA.out HB.out).mono ?_
  rintro e w1 ⟨rfl, hb1⟩
  replace ZX := mkHid (ZX.out.keep hb1)
  replace ZY := mkHid (ZY.out.keep hb1)
  replace KB := mkHid (KB.out.step hb1)
  replace HA := mkHid (HA.out.below hb1)
  replace HB := mkHid (HB.out.below hb1)
  clear cZX lZX
  have cZX := ZX.out.four
  have lZX := ZX.out.lt
  clear cZY lZY
  have cZY := ZY.out.four
  have lZY := ZY.out.lt
  clear hb1
  go_wp2_with fail
  go_ret
  exact ⟨rfl, KB.out⟩

set_option maxRecDepth 100000 in
set_option maxHeartbeats 4000000 in
theorem same1_draw {s t : List Nat} {x y : Int} {p1 p2 q1 q2 : Int} (ez : Hid (decide (s = t) = true)) (hd : x ≠ y) (hl : s.length < 4611686018427387904) (A B : Option Addr) (c d : Nat) (w : World) (hA : Reads w A s) (hB : Reads w B t) :
    Calls Try.prog 59 #[.agg #[.slice A s.length c, .int .i64 x, .int .u64 p1, .int .u64 p2], .agg #[.slice B t.length d, .int .i64 y, .int .u64 q1, .int .u64 q2]] w fun e w' => e = .returned (.bool false) ∧ Below w.heap.size w w' := by
  have t0 : (x == y) = false := beq_eq_false_iff_ne.2 hd
  have KB : Hid (Below w.heap.size w ((w.alloc (.cells #[.slice A s.length c, .int .i64 x, .int .u64 p1, .int .u64 p2] 66)).alloc (.cells #[.slice B t.length d, .int .i64 y, .int .u64 q1, .int .u64 q2] 66))) := mkHid (((Below.refl _ _).alloc (Nat.le_refl _) (.cells #[.slice A s.length c, .int .i64 x, .int .u64 p1, .int .u64 p2] 66)).alloc (by simp) (.cells #[.slice B t.length d, .int .i64 y, .int .u64 q1, .int .u64 q2] 66))
  have HA := mkHid (hA.below (((Below.refl _ _).alloc (Nat.le_refl _) (.cells #[.slice A s.length c, .int .i64 x, .int .u64 p1, .int .u64 p2] 66)).alloc (by simp) (.cells #[.slice B t.length d, .int .i64 y, .int .u64 q1, .int .u64 q2] 66)))
  have HB := mkHid (hB.below (((Below.refl _ _).alloc (Nat.le_refl _) (.cells #[.slice A s.length c, .int .i64 x, .int .u64 p1, .int .u64 p2] 66)).alloc (by simp) (.cells #[.slice B t.length d, .int .i64 y, .int .u64 q1, .int .u64 q2] 66)))
  have ZX : Hid (Blk ((w.alloc (.cells #[.slice A s.length c, .int .i64 x, .int .u64 p1, .int .u64 p2] 66)).alloc (.cells #[.slice B t.length d, .int .i64 y, .int .u64 q1, .int .u64 q2] 66)) w.heap.size 66 #[.slice A s.length c, .int .i64 x, .int .u64 p1, .int .u64 p2]) := mkHid ((Blk.new _ _ _).alloc _)
  have ZY : Hid (Blk ((w.alloc (.cells #[.slice A s.length c, .int .i64 x, .int .u64 p1, .int .u64 p2] 66)).alloc (.cells #[.slice B t.length d, .int .i64 y, .int .u64 q1, .int .u64 q2] 66)) (w.heap.size + 1) 66 #[.slice B t.length d, .int .i64 y, .int .u64 q1, .int .u64 q2]) := mkHid (Blk.at _ _ _ (by simp))
  clear hA hB
  have cZX := ZX.out.four
  have lZX := ZX.out.lt
  have cZY := ZY.out.four
  have lZY := ZY.out.lt
  go_enter Try.func59, Try.ntmps59
  go_wp2_with fail
  refine (seq_any ez hl _ _ _ _ _ HA.out HB.out).mono ?_
  rintro e w1 ⟨rfl, hb1⟩
  replace ZX := mkHid (ZX.out.keep hb1)
  replace ZY := mkHid (ZY.out.keep hb1)
  replace KB := mkHid (KB.out.step hb1)
  replace HA := mkHid (HA.out.below hb1)
  replace HB := mkHid (HB.out.below hb1)
  clear cZX lZX
  have cZX := ZX.out.four
  have lZX := ZX.out.lt
  clear cZY lZY
  have cZY := ZY.out.four
  have lZY := ZY.out.lt
  clear hb1
  go_wp2_with fail
  go_ret
  exact ⟨rfl, KB.out⟩

set_option maxRecDepth 100000 in
set_option maxHeartbeats 4000000 in
theorem same1_true_true {s t : List Nat} {x : Int} {p1 p2 q1 q2 : Int} (ez : Hid (decide (s = t) = true)) (hb1 : (p1 == q1) = true) (hb2 : (p2 == q2) = true) (hl : s.length < 4611686018427387904) (A B : Option Addr) (c d : Nat) (w : World) (hA : Reads w A s) (hB : Reads w B t) :
    Calls Try.prog 59 #[.agg #[.slice A s.length c, .int .i64 x, .int .u64 p1, .int .u64 p2], .agg #[.slice B t.length d, .int .i64 x, .int .u64 q1, .int .u64 q2]] w fun e w' => e = .returned (.bool true) ∧ Below w.heap.size w w' := by
  have t0 : (x == x) = true := beq_self_eq_true x
  have hq := eq_blocks
  have KB : Hid (Below w.heap.size w ((w.alloc (.cells #[.slice A s.length c, .int .i64 x, .int .u64 p1, .int .u64 p2] 66)).alloc (.cells #[.slice B t.length d, .int .i64 x, .int .u64 q1, .int .u64 q2] 66))) := mkHid (((Below.refl _ _).alloc (Nat.le_refl _) (.cells #[.slice A s.length c, .int .i64 x, .int .u64 p1, .int .u64 p2] 66)).alloc (by simp) (.cells #[.slice B t.length d, .int .i64 x, .int .u64 q1, .int .u64 q2] 66))
  have HA := mkHid (hA.below (((Below.refl _ _).alloc (Nat.le_refl _) (.cells #[.slice A s.length c, .int .i64 x, .int .u64 p1, .int .u64 p2] 66)).alloc (by simp) (.cells #[.slice B t.length d, .int .i64 x, .int .u64 q1, .int .u64 q2] 66)))
  have HB := mkHid (hB.below (((Below.refl _ _).alloc (Nat.le_refl _) (.cells #[.slice A s.length c, .int .i64 x, .int .u64 p1, .int .u64 p2] 66)).alloc (by simp) (.cells #[.slice B t.length d, .int .i64 x, .int .u64 q1, .int .u64 q2] 66)))
  have ZX : Hid (Blk ((w.alloc (.cells #[.slice A s.length c, .int .i64 x, .int .u64 p1, .int .u64 p2] 66)).alloc (.cells #[.slice B t.length d, .int .i64 x, .int .u64 q1, .int .u64 q2] 66)) w.heap.size 66 #[.slice A s.length c, .int .i64 x, .int .u64 p1, .int .u64 p2]) := mkHid ((Blk.new _ _ _).alloc _)
  have ZY : Hid (Blk ((w.alloc (.cells #[.slice A s.length c, .int .i64 x, .int .u64 p1, .int .u64 p2] 66)).alloc (.cells #[.slice B t.length d, .int .i64 x, .int .u64 q1, .int .u64 q2] 66)) (w.heap.size + 1) 66 #[.slice B t.length d, .int .i64 x, .int .u64 q1, .int .u64 q2]) := mkHid (Blk.at _ _ _ (by simp))
  clear hA hB
  have cZX := ZX.out.four
  have lZX := ZX.out.lt
  have cZY := ZY.out.four
  have lZY := ZY.out.lt
  go_enter Try.func59, Try.ntmps59
  go_wp2_with fail
  refine (seq_any ez hl _ _ _ _ _ HA.out HB.out).mono ?_
  rintro e w1 ⟨rfl, hb1⟩
  replace ZX := mkHid (ZX.out.keep hb1)
  replace ZY := mkHid (ZY.out.keep hb1)
  replace KB := mkHid (KB.out.step hb1)
  replace HA := mkHid (HA.out.below hb1)
  replace HB := mkHid (HB.out.below hb1)
  clear cZX lZX
  have cZX := ZX.out.four
  have lZX := ZX.out.lt
  clear cZY lZY
  have cZY := ZY.out.four
  have lZY := ZY.out.lt
  clear hb1
  go_wp2_with fail
  go_ret
  exact ⟨rfl, KB.out⟩

set_option maxRecDepth 100000 in
set_option maxHeartbeats 4000000 in
theorem same1_true_false {s t : List Nat} {x : Int} {p1 p2 q1 q2 : Int} (ez : Hid (decide (s = t) = true)) (hb1 : (p1 == q1) = true) (hb2 : (p2 == q2) = false) (hl : s.length < 4611686018427387904) (A B : Option Addr) (c d : Nat) (w : World) (hA : Reads w A s) (hB : Reads w B t) :
    Calls Try.prog 59 #[.agg #[.slice A s.length c, .int .i64 x, .int .u64 p1, .int .u64 p2], .agg #[.slice B t.length d, .int .i64 x, .int .u64 q1, .int .u64 q2]] w fun e w' => e = .returned (.bool false) ∧ Below w.heap.size w w' := by
  have t0 : (x == x) = true := beq_self_eq_true x
  have hq := eq_blocks
  have KB : Hid (Below w.heap.size w ((w.alloc (.cells #[.slice A s.length c, .int .i64 x, .int .u64 p1, .int .u64 p2] 66)).alloc (.cells #[.slice B t.length d, .int .i64 x, .int .u64 q1, .int .u64 q2] 66))) := mkHid (((Below.refl _ _).alloc (Nat.le_refl _) (.cells #[.slice A s.length c, .int .i64 x, .int .u64 p1, .int .u64 p2] 66)).alloc (by simp) (.cells #[.slice B t.length d, .int .i64 x, .int .u64 q1, .int .u64 q2] 66))
  have HA := mkHid (hA.below (((Below.refl _ _).alloc (Nat.le_refl _) (.cells #[.slice A s.length c, .int .i64 x, .int .u64 p1, .int .u64 p2] 66)).alloc (by simp) (.cells #[.slice B t.length d, .int .i64 x, .int .u64 q1, .int .u64 q2] 66)))
  have HB := mkHid (hB.below (((Below.refl _ _).alloc (Nat.le_refl _) (.cells #[.slice A s.length c, .int .i64 x, .int .u64 p1, .int .u64 p2] 66)).alloc (by simp) (.cells #[.slice B t.length d, .int .i64 x, .int .u64 q1, .int .u64 q2] 66)))
  have ZX : Hid (Blk ((w.alloc (.cells #[.slice A s.length c, .int .i64 x, .int .u64 p1, .int .u64 p2] 66)).alloc (.cells #[.slice B t.length d, .int .i64 x, .int .u64 q1, .int .u64 q2] 66)) w.heap.size 66 #[.slice A s.length c, .int .i64 x, .int .u64 p1, .int .u64 p2]) := mkHid ((Blk.new _ _ _).alloc _)
  have ZY : Hid (Blk ((w.alloc (.cells #[.slice A s.length c, .int .i64 x, .int .u64 p1, .int .u64 p2] 66)).alloc (.cells #[.slice B t.length d, .int .i64 x, .int .u64 q1, .int .u64 q2] 66)) (w.heap.size + 1) 66 #[.slice B t.length d, .int .i64 x, .int .u64 q1, .int .u64 q2]) := mkHid (Blk.at _ _ _ (by simp))
  clear hA hB
  have cZX := ZX.out.four
  have lZX := ZX.out.lt
  have cZY := ZY.out.four
  have lZY := ZY.out.lt
  go_enter Try.func59, Try.ntmps59
  go_wp2_with fail
  refine (seq_any ez hl _ _ _ _ _ HA.out HB.out).mono ?_
  rintro e w1 ⟨rfl, hb1⟩
  replace ZX := mkHid (ZX.out.keep hb1)
  replace ZY := mkHid (ZY.out.keep hb1)
  replace KB := mkHid (KB.out.step hb1)
  replace HA := mkHid (HA.out.below hb1)
  replace HB := mkHid (HB.out.below hb1)
  clear cZX lZX
  have cZX := ZX.out.four
  have lZX := ZX.out.lt
  clear cZY lZY
  have cZY := ZY.out.four
  have lZY := ZY.out.lt
  clear hb1
  go_wp2_with fail
  go_ret
  exact ⟨rfl, KB.out⟩

set_option maxRecDepth 100000 in
set_option maxHeartbeats 4000000 in
theorem same1_false_false {s t : List Nat} {x : Int} {p1 p2 q1 q2 : Int} (ez : Hid (decide (s = t) = true)) (hb1 : (p1 == q1) = false) (hb2 : (p2 == q2) = false) (hl : s.length < 4611686018427387904) (A B : Option Addr) (c d : Nat) (w : World) (hA : Reads w A s) (hB : Reads w B t) :
    Calls Try.prog 59 #[.agg #[.slice A s.length c, .int .i64 x, .int .u64 p1, .int .u64 p2], .agg #[.slice B t.length d, .int .i64 x, .int .u64 q1, .int .u64 q2]] w fun e w' => e = .returned (.bool false) ∧ Below w.heap.size w w' := by
  have t0 : (x == x) = true := beq_self_eq_true x
  have hq := eq_blocks
  have KB : Hid (Below w.heap.size w ((w.alloc (.cells #[.slice A s.length c, .int .i64 x, .int .u64 p1, .int .u64 p2] 66)).alloc (.cells #[.slice B t.length d, .int .i64 x, .int .u64 q1, .int .u64 q2] 66))) := mkHid (((Below.refl _ _).alloc (Nat.le_refl _) (.cells #[.slice A s.length c, .int .i64 x, .int .u64 p1, .int .u64 p2] 66)).alloc (by simp) (.cells #[.slice B t.length d, .int .i64 x, .int .u64 q1, .int .u64 q2] 66))
  have HA := mkHid (hA.below (((Below.refl _ _).alloc (Nat.le_refl _) (.cells #[.slice A s.length c, .int .i64 x, .int .u64 p1, .int .u64 p2] 66)).alloc (by simp) (.cells #[.slice B t.length d, .int .i64 x, .int .u64 q1, .int .u64 q2] 66)))
  have HB := mkHid (hB.below (((Below.refl _ _).alloc (Nat.le_refl _) (.cells #[.slice A s.length c, .int .i64 x, .int .u64 p1, .int .u64 p2] 66)).alloc (by simp) (.cells #[.slice B t.length d, .int .i64 x, .int .u64 q1, .int .u64 q2] 66)))
  have ZX : Hid (Blk ((w.alloc (.cells #[.slice A s.length c, .int .i64 x, .int .u64 p1, .int .u64 p2] 66)).alloc (.cells #[.slice B t.length d, .int .i64 x, .int .u64 q1, .int .u64 q2] 66)) w.heap.size 66 #[.slice A s.length c, .int .i64 x, .int .u64 p1, .int .u64 p2]) := mkHid ((Blk.new _ _ _).alloc _)
  have ZY : Hid (Blk ((w.alloc (.cells #[.slice A s.length c, .int .i64 x, .int .u64 p1, .int .u64 p2] 66)).alloc (.cells #[.slice B t.length d, .int .i64 x, .int .u64 q1, .int .u64 q2] 66)) (w.heap.size + 1) 66 #[.slice B t.length d, .int .i64 x, .int .u64 q1, .int .u64 q2]) := mkHid (Blk.at _ _ _ (by simp))
  clear hA hB
  have cZX := ZX.out.four
  have lZX := ZX.out.lt
  have cZY := ZY.out.four
  have lZY := ZY.out.lt
  go_enter Try.func59, Try.ntmps59
  go_wp2_with fail
  refine (seq_any ez hl _ _ _ _ _ HA.out HB.out).mono ?_
  rintro e w1 ⟨rfl, hb1⟩
  replace ZX := mkHid (ZX.out.keep hb1)
  replace ZY := mkHid (ZY.out.keep hb1)
  replace KB := mkHid (KB.out.step hb1)
  replace HA := mkHid (HA.out.below hb1)
  replace HB := mkHid (HB.out.below hb1)
  clear cZX lZX
  have cZX := ZX.out.four
  have lZX := ZX.out.lt
  clear cZY lZY
  have cZY := ZY.out.four
  have lZY := ZY.out.lt
  clear hb1
  go_wp2_with fail
  go_ret
  exact ⟨rfl, KB.out⟩

set_option maxRecDepth 100000 in
set_option maxHeartbeats 4000000 in
theorem same1_false_true {s t : List Nat} {x : Int} {p1 p2 q1 q2 : Int} (ez : Hid (decide (s = t) = true)) (hb1 : (p1 == q1) = false) (hb2 : (p2 == q2) = true) (hl : s.length < 4611686018427387904) (A B : Option Addr) (c d : Nat) (w : World) (hA : Reads w A s) (hB : Reads w B t) :
    Calls Try.prog 59 #[.agg #[.slice A s.length c, .int .i64 x, .int .u64 p1, .int .u64 p2], .agg #[.slice B t.length d, .int .i64 x, .int .u64 q1, .int .u64 q2]] w fun e w' => e = .returned (.bool false) ∧ Below w.heap.size w w' := by
  have t0 : (x == x) = true := beq_self_eq_true x
  have hq := eq_blocks
  have KB : Hid (Below w.heap.size w ((w.alloc (.cells #[.slice A s.length c, .int .i64 x, .int .u64 p1, .int .u64 p2] 66)).alloc (.cells #[.slice B t.length d, .int .i64 x, .int .u64 q1, .int .u64 q2] 66))) := mkHid (((Below.refl _ _).alloc (Nat.le_refl _) (.cells #[.slice A s.length c, .int .i64 x, .int .u64 p1, .int .u64 p2] 66)).alloc (by simp) (.cells #[.slice B t.length d, .int .i64 x, .int .u64 q1, .int .u64 q2] 66))
  have HA := mkHid (hA.below (((Below.refl _ _).alloc (Nat.le_refl _) (.cells #[.slice A s.length c, .int .i64 x, .int .u64 p1, .int .u64 p2] 66)).alloc (by simp) (.cells #[.slice B t.length d, .int .i64 x, .int .u64 q1, .int .u64 q2] 66)))
  have HB := mkHid (hB.below (((Below.refl _ _).alloc (Nat.le_refl _) (.cells #[.slice A s.length c, .int .i64 x, .int .u64 p1, .int .u64 p2] 66)).alloc (by simp) (.cells #[.slice B t.length d, .int .i64 x, .int .u64 q1, .int .u64 q2] 66)))
  have ZX : Hid (Blk ((w.alloc (.cells #[.slice A s.length c, .int .i64 x, .int .u64 p1, .int .u64 p2] 66)).alloc (.cells #[.slice B t.length d, .int .i64 x, .int .u64 q1, .int .u64 q2] 66)) w.heap.size 66 #[.slice A s.length c, .int .i64 x, .int .u64 p1, .int .u64 p2]) := mkHid ((Blk.new _ _ _).alloc _)
  have ZY : Hid (Blk ((w.alloc (.cells #[.slice A s.length c, .int .i64 x, .int .u64 p1, .int .u64 p2] 66)).alloc (.cells #[.slice B t.length d, .int .i64 x, .int .u64 q1, .int .u64 q2] 66)) (w.heap.size + 1) 66 #[.slice B t.length d, .int .i64 x, .int .u64 q1, .int .u64 q2]) := mkHid (Blk.at _ _ _ (by simp))
  clear hA hB
  have cZX := ZX.out.four
  have lZX := ZX.out.lt
  have cZY := ZY.out.four
  have lZY := ZY.out.lt
  go_enter Try.func59, Try.ntmps59
  go_wp2_with fail
  refine (seq_any ez hl _ _ _ _ _ HA.out HB.out).mono ?_
  rintro e w1 ⟨rfl, hb1⟩
  replace ZX := mkHid (ZX.out.keep hb1)
  replace ZY := mkHid (ZY.out.keep hb1)
  replace KB := mkHid (KB.out.step hb1)
  replace HA := mkHid (HA.out.below hb1)
  replace HB := mkHid (HB.out.below hb1)
  clear cZX lZX
  have cZX := ZX.out.four
  have lZX := ZX.out.lt
  clear cZY lZY
  have cZY := ZY.out.four
  have lZY := ZY.out.lt
  clear hb1
  go_wp2_with fail
  go_ret
  exact ⟨rfl, KB.out⟩

/-- two that were sent are the same -/
def sentEq (s t : List Nat) (x y p1 p2 q1 q2 : Int) : Bool := decide (s = t) && (x == y) && ((p1 == q1) && (p2 == q2))
theorem same1 {s t : List Nat} {x y p1 p2 q1 q2 : Int} {z : Bool} (e : Hid (sentEq s t x y p1 p2 q1 q2 = z)) (hl : s.length < 4611686018427387904) (A B : Option Addr) (c d : Nat) (w : World) (hA : Reads w A s) (hB : Reads w B t) :
    Calls Try.prog 59 #[.agg #[.slice A s.length c, .int .i64 x, .int .u64 p1, .int .u64 p2], .agg #[.slice B t.length d, .int .i64 y, .int .u64 q1, .int .u64 q2]] w fun e w' => e = .returned (.bool z) ∧ Below w.heap.size w w' := by
  have e' := e.out
  unfold sentEq at e'
  by_cases h1 : s = t
  · by_cases h2 : x = y
    · subst h2
      rw [decide_eq_true h1] at e'
      simp only [beq_self_eq_true, Bool.true_and] at e'
      cases hb1 : (p1 == q1) <;> cases hb2 : (p2 == q2) <;> rw [hb1, hb2] at e' <;> simp only [Bool.and_self, Bool.and_true, Bool.and_false] at e' <;> subst e'
      · exact same1_false_false (mkHid (decide_eq_true h1)) hb1 hb2 hl A B c d w hA hB
      · exact same1_false_true (mkHid (decide_eq_true h1)) hb1 hb2 hl A B c d w hA hB
      · exact same1_true_false (mkHid (decide_eq_true h1)) hb1 hb2 hl A B c d w hA hB
      · exact same1_true_true (mkHid (decide_eq_true h1)) hb1 hb2 hl A B c d w hA hB
    · rw [show (x == y) = false from beq_eq_false_iff_ne.2 h2] at e'
      simp only [Bool.and_false, Bool.false_and] at e'
      subst e'
      exact same1_draw (mkHid (decide_eq_true h1)) h2 hl A B c d w hA hB
  · rw [decide_eq_false h1] at e'
    simp only [Bool.false_and] at e'
    subst e'
    exact same1_no (mkHid (decide_eq_false h1)) hl A B c d w hA hB
end Go.Proofs.Ytmehbonjpmlmfaa

namespace Go.Proofs.Ytmehbonjpmlmfaa
open Go.RowKit

/-- the first k that were sent are the same -/
def sameTo (S T : List SentD) (k : Nat) : Bool := (List.range k).all fun i => match S[i]?, T[i]? with
  | some s, some t => sentEq s.out t.out s.draw t.draw (s.p.1.toNat : Int) (s.p.2.toNat : Int) (t.p.1.toNat : Int) (t.p.2.toNat : Int)
  | _, _ => true
theorem sameTo_succ {S T : List SentD} {k : Nat} {s t : SentD} (hs : S[k]? = some s) (ht : T[k]? = some t) : sameTo S T (k + 1) = (sameTo S T k && sentEq s.out t.out s.draw t.draw (s.p.1.toNat : Int) (s.p.2.toNat : Int) (t.p.1.toNat : Int) (t.p.2.toNat : Int)) := by
  unfold sameTo
  rw [List.range_succ, List.all_append]
  simp [hs, ht]
theorem sameTo_false {S T : List SentD} {k n : Nat} (h : k ≤ n) (e : sameTo S T k = false) : sameTo S T n = false := by
  unfold sameTo at *
  rw [List.all_eq_false] at *
  obtain ⟨i, hi, h2⟩ := e
  exact ⟨i, List.mem_range.2 (by have := List.mem_range.1 hi; omega), h2⟩
set_option maxRecDepth 100000 in
set_option maxHeartbeats 4000000 in
theorem eqf {S T : List SentD} {n : Nat} {z : Bool} (hS1 : Hid (S.length = n)) (hT1 : Hid (T.length = n)) (hz : Hid (sameTo S T n = z)) (hs : Hid (S.length < 4611686018427387904 ∧ ∀ s ∈ S, s.out.length < 4611686018427387904)) (A B : Option Addr) (c d : Nat) (w : World) (hS : SentIn w A S) (hT : SentIn w B T) :
    Calls Try.prog 60 #[.slice A n c, .slice B n d, .func (.func 59) #[] #[]] w fun e w' => e = .returned (.bool z) ∧ Below w.heap.size w w' := by
  have hbn : n < 4611686018427387904 := by have := hs.out.1; rw [hS1.out] at this; exact this
  have HS := mkHid hS
  have HT := mkHid hT
  clear hS hT
  go_enter Try.func60, Try.ntmps60
  go_wp2_with fail
  go_loopw [17] (fun j wr => ∃ i : Nat, i ≤ n ∧ j = .int .i64 (i : Int) ∧ Hid (sameTo S T i = true) ∧ Hid (Below w.heap.size w wr)) (fun j _ => n - (intOf j).toNat)
  case atStart => exact ⟨0, Nat.zero_le _, rfl, mkHid rfl, mkHid (Below.refl _ _)⟩
  case round =>
    obtain ⟨i, hi, rfl, hk, HB⟩ := hrel
    by_cases hlt : i < n
    · have hiS : i < S.length := by rw [hS1.out]; exact hlt
      have hiT : i < T.length := by rw [hT1.out]; exact hlt
      have gS : S[i]? = some S[i] := List.getElem?_eq_getElem hiS
      have gT : T[i]? = some T[i] := List.getElem?_eq_getElem hiT
      have hlen := hs.out.2 S[i] (List.getElem_mem hiS)
      have aS := (HS.out.below HB.out) i hiS
      have aT := (HT.out.below HB.out) i hiT
      generalize S[i] = s at *
      generalize T[i] = t at *
      obtain ⟨so, sd, sp1, sp2⟩ := s
      obtain ⟨t1, td, tp1, tp2⟩ := t
      have hsk := mkHid (sameTo_succ gS gT)
      clear gS gT hiS hiT
      obtain ⟨b1, off1, rfl, A1, c1, e0, _, _, hR1, _, e1, e2, e3⟩ := aS
      obtain ⟨b2, off2, rfl, A2, c2, k0, _, _, hR2, _, k1, k2, k3⟩ := aT
      dsimp only at *
      have lb2 := World.block_lt_of_cell? _ _ k0
      dsimp only at lb2
      have HR1 := mkHid hR1
      have HR2 := mkHid hR2
      clear hR1 hR2
      obtain ⟨q, hq⟩ : ∃ q, Hid (sentEq so t1 sd td (sp1.toNat : Int) (sp2.toNat : Int) (tp1.toNat : Int) (tp2.toNat : Int) = q) := ⟨_, mkHid rfl⟩
      go_wp2_with fail
      refine (same1 hq hlen _ _ _ _ _ (HR1.out.below (((Below.refl _ _).alloc (Nat.le_refl _) _).alloc (by simp) _)) (HR2.out.below (((Below.refl _ _).alloc (Nat.le_refl _) _).alloc (by simp) _))).mono ?_
      rintro e w2 ⟨rfl, hb2⟩
      have HB2 : Hid (Below w.heap.size w w2) := mkHid (((HB.out.alloc HB.out.size _).alloc (by have := HB.out.size; simp; omega) _).step hb2)
      clear hb2 e0 e1 e2 e3 k0 k1 k2 k3
      cases q
      · obtain rfl : z = false := by rw [← hz.out]; exact sameTo_false (Nat.succ_le_of_lt hlt) (by rw [hsk.out, hq.out, Bool.and_false])
        go_wp2_with fail
        go_ret
        exact ⟨rfl, HB2.out⟩
      · have hk2 : Hid (sameTo S T (i + 1) = true) := mkHid (by rw [hsk.out, hq.out, hk.out]; rfl)
        go_wp2_with fail
        go_roundw
        case rel => exact ⟨i + 1, by omega, by go_num, hk2, HB2⟩
        case measure => simp [intOf]; omega
    · obtain rfl : i = n := by omega
      obtain rfl : z = true := by rw [← hz.out]; exact hk.out
      go_wp2_with fail
      go_ret
      exact ⟨rfl, HB.out⟩
set_option maxHeartbeats 400000 in
theorem eqf_len {n m : Nat} (h : n ≠ m) (A B : Option Addr) (c d : Nat) (v : Value) (w : World) :
    Calls Try.prog 60 #[.slice A n c, .slice B m d, v] w fun e w' => e = .returned (.bool false) ∧ Below w.heap.size w w' := by
  have t0 : ((n : Int) != (m : Int)) = true := bne_iff_ne.2 (by omega)
  clear h
  go_enter Try.func60, Try.ntmps60
  go_wp2_with fail
  go_ret
  exact ⟨rfl, Below.refl _ _⟩
/-- what was sent is the same -/
def sameS (S T : List SentD) : Bool := decide (S.length = T.length) && sameTo S T S.length
theorem eqf_any {S T : List SentD} {z : Bool} (hz : Hid (sameS S T = z)) (hs : Hid (S.length < 4611686018427387904 ∧ ∀ s ∈ S, s.out.length < 4611686018427387904)) (A B : Option Addr) (c d : Nat) (w : World) (hS : SentIn w A S) (hT : SentIn w B T) :
    Calls Try.prog 60 #[.slice A S.length c, .slice B T.length d, .func (.func 59) #[] #[]] w fun e w' => e = .returned (.bool z) ∧ Below w.heap.size w w' := by
  have e := hz.out
  unfold sameS at e
  by_cases h : S.length = T.length
  · rw [decide_eq_true h, Bool.true_and] at e
    rw [← h]
    exact eqf (mkHid rfl) (mkHid h.symm) (mkHid e) hs A B c d w hS hT
  · rw [decide_eq_false h, Bool.false_and] at e
    subst e
    exact eqf_len h A B c d _ w

set_option maxRecDepth 100000 in
set_option maxHeartbeats 4000000 in
theorem msame_0 {h cap n dr h' cap' n' dr' : Int} {s t : List Nat} {S T : List SentD} (t0 : (h == h') = false)  (_hl : Hid (s.length < 4611686018427387904)) (_hs : Hid (S.length < 4611686018427387904 ∧ ∀ s ∈ S, s.out.length < 4611686018427387904)) (A A' B B' : Option Addr) (c c' d d' : Nat) (w : World) (hA : Reads w A s) (hA' : Reads w A' t) (hS : SentIn w B S) (hT : SentIn w B' T) :
    Calls Try.prog 39 #[.agg #[.int .i64 h, .int .i64 cap, .slice A s.length c, .int .i64 n, .int .i64 dr, .slice B S.length d], .agg #[.int .i64 h', .int .i64 cap', .slice A' t.length c', .int .i64 n', .int .i64 dr', .slice B' T.length d']] w fun e w' => e = .returned (.bool false) ∧ Below w.heap.size w w' := by
  skip
  have KB : Hid (Below w.heap.size w ((w.alloc (.cells #[.int .i64 h, .int .i64 cap, .slice A s.length c, .int .i64 n, .int .i64 dr, .slice B S.length d] 45)).alloc (.cells #[.int .i64 h', .int .i64 cap', .slice A' t.length c', .int .i64 n', .int .i64 dr', .slice B' T.length d'] 45))) := mkHid (((Below.refl _ _).alloc (Nat.le_refl _) (.cells #[.int .i64 h, .int .i64 cap, .slice A s.length c, .int .i64 n, .int .i64 dr, .slice B S.length d] 45)).alloc (by simp) (.cells #[.int .i64 h', .int .i64 cap', .slice A' t.length c', .int .i64 n', .int .i64 dr', .slice B' T.length d'] 45))
  have HA := mkHid (hA.below (((Below.refl _ _).alloc (Nat.le_refl _) (.cells #[.int .i64 h, .int .i64 cap, .slice A s.length c, .int .i64 n, .int .i64 dr, .slice B S.length d] 45)).alloc (by simp) (.cells #[.int .i64 h', .int .i64 cap', .slice A' t.length c', .int .i64 n', .int .i64 dr', .slice B' T.length d'] 45)))
  have HB := mkHid (hA'.below (((Below.refl _ _).alloc (Nat.le_refl _) (.cells #[.int .i64 h, .int .i64 cap, .slice A s.length c, .int .i64 n, .int .i64 dr, .slice B S.length d] 45)).alloc (by simp) (.cells #[.int .i64 h', .int .i64 cap', .slice A' t.length c', .int .i64 n', .int .i64 dr', .slice B' T.length d'] 45)))
  have HS := mkHid (hS.below (((Below.refl _ _).alloc (Nat.le_refl _) (.cells #[.int .i64 h, .int .i64 cap, .slice A s.length c, .int .i64 n, .int .i64 dr, .slice B S.length d] 45)).alloc (by simp) (.cells #[.int .i64 h', .int .i64 cap', .slice A' t.length c', .int .i64 n', .int .i64 dr', .slice B' T.length d'] 45)))
  have HT := mkHid (hT.below (((Below.refl _ _).alloc (Nat.le_refl _) (.cells #[.int .i64 h, .int .i64 cap, .slice A s.length c, .int .i64 n, .int .i64 dr, .slice B S.length d] 45)).alloc (by simp) (.cells #[.int .i64 h', .int .i64 cap', .slice A' t.length c', .int .i64 n', .int .i64 dr', .slice B' T.length d'] 45)))
  have ZX : Hid (Blk ((w.alloc (.cells #[.int .i64 h, .int .i64 cap, .slice A s.length c, .int .i64 n, .int .i64 dr, .slice B S.length d] 45)).alloc (.cells #[.int .i64 h', .int .i64 cap', .slice A' t.length c', .int .i64 n', .int .i64 dr', .slice B' T.length d'] 45)) w.heap.size 45 #[.int .i64 h, .int .i64 cap, .slice A s.length c, .int .i64 n, .int .i64 dr, .slice B S.length d]) := mkHid ((Blk.new _ _ _).alloc _)
  have ZY : Hid (Blk ((w.alloc (.cells #[.int .i64 h, .int .i64 cap, .slice A s.length c, .int .i64 n, .int .i64 dr, .slice B S.length d] 45)).alloc (.cells #[.int .i64 h', .int .i64 cap', .slice A' t.length c', .int .i64 n', .int .i64 dr', .slice B' T.length d'] 45)) (w.heap.size + 1) 45 #[.int .i64 h', .int .i64 cap', .slice A' t.length c', .int .i64 n', .int .i64 dr', .slice B' T.length d']) := mkHid (Blk.at _ _ _ (by simp))
  clear hA hA' hS hT
  have cZX := ZX.out.six
  have lZX := ZX.out.lt
  have cZY := ZY.out.six
  have lZY := ZY.out.lt
  go_enter Try.func39, Try.ntmps39
  go_wp2_with fail
  go_ret
  exact ⟨rfl, KB.out⟩

set_option maxRecDepth 100000 in
set_option maxHeartbeats 4000000 in
theorem msame_1 {h cap n dr h' cap' n' dr' : Int} {s t : List Nat} {S T : List SentD} (t0 : (h == h') = true) (t1 : (cap == cap') = false)  (_hl : Hid (s.length < 4611686018427387904)) (_hs : Hid (S.length < 4611686018427387904 ∧ ∀ s ∈ S, s.out.length < 4611686018427387904)) (A A' B B' : Option Addr) (c c' d d' : Nat) (w : World) (hA : Reads w A s) (hA' : Reads w A' t) (hS : SentIn w B S) (hT : SentIn w B' T) :
    Calls Try.prog 39 #[.agg #[.int .i64 h, .int .i64 cap, .slice A s.length c, .int .i64 n, .int .i64 dr, .slice B S.length d], .agg #[.int .i64 h', .int .i64 cap', .slice A' t.length c', .int .i64 n', .int .i64 dr', .slice B' T.length d']] w fun e w' => e = .returned (.bool false) ∧ Below w.heap.size w w' := by
  skip
  have KB : Hid (Below w.heap.size w ((w.alloc (.cells #[.int .i64 h, .int .i64 cap, .slice A s.length c, .int .i64 n, .int .i64 dr, .slice B S.length d] 45)).alloc (.cells #[.int .i64 h', .int .i64 cap', .slice A' t.length c', .int .i64 n', .int .i64 dr', .slice B' T.length d'] 45))) := mkHid (((Below.refl _ _).alloc (Nat.le_refl _) (.cells #[.int .i64 h, .int .i64 cap, .slice A s.length c, .int .i64 n, .int .i64 dr, .slice B S.length d] 45)).alloc (by simp) (.cells #[.int .i64 h', .int .i64 cap', .slice A' t.length c', .int .i64 n', .int .i64 dr', .slice B' T.length d'] 45))
  have HA := mkHid (hA.below (((Below.refl _ _).alloc (Nat.le_refl _) (.cells #[.int .i64 h, .int .i64 cap, .slice A s.length c, .int .i64 n, .int .i64 dr, .slice B S.length d] 45)).alloc (by simp) (.cells #[.int .i64 h', .int .i64 cap', .slice A' t.length c', .int .i64 n', .int .i64 dr', .slice B' T.length d'] 45)))
  have HB := mkHid (hA'.below (((Below.refl _ _).alloc (Nat.le_refl _) (.cells #[.int .i64 h, .int .i64 cap, .slice A s.length c, .int .i64 n, .int .i64 dr, .slice B S.length d] 45)).alloc (by simp) (.cells #[.int .i64 h', .int .i64 cap', .slice A' t.length c', .int .i64 n', .int .i64 dr', .slice B' T.length d'] 45)))
  have HS := mkHid (hS.below (((Below.refl _ _).alloc (Nat.le_refl _) (.cells #[.int .i64 h, .int .i64 cap, .slice A s.length c, .int .i64 n, .int .i64 dr, .slice B S.length d] 45)).alloc (by simp) (.cells #[.int .i64 h', .int .i64 cap', .slice A' t.length c', .int .i64 n', .int .i64 dr', .slice B' T.length d'] 45)))
  have HT := mkHid (hT.below (((Below.refl _ _).alloc (Nat.le_refl _) (.cells #[.int .i64 h, .int .i64 cap, .slice A s.length c, .int .i64 n, .int .i64 dr, .slice B S.length d] 45)).alloc (by simp) (.cells #[.int .i64 h', .int .i64 cap', .slice A' t.length c', .int .i64 n', .int .i64 dr', .slice B' T.length d'] 45)))
  have ZX : Hid (Blk ((w.alloc (.cells #[.int .i64 h, .int .i64 cap, .slice A s.length c, .int .i64 n, .int .i64 dr, .slice B S.length d] 45)).alloc (.cells #[.int .i64 h', .int .i64 cap', .slice A' t.length c', .int .i64 n', .int .i64 dr', .slice B' T.length d'] 45)) w.heap.size 45 #[.int .i64 h, .int .i64 cap, .slice A s.length c, .int .i64 n, .int .i64 dr, .slice B S.length d]) := mkHid ((Blk.new _ _ _).alloc _)
  have ZY : Hid (Blk ((w.alloc (.cells #[.int .i64 h, .int .i64 cap, .slice A s.length c, .int .i64 n, .int .i64 dr, .slice B S.length d] 45)).alloc (.cells #[.int .i64 h', .int .i64 cap', .slice A' t.length c', .int .i64 n', .int .i64 dr', .slice B' T.length d'] 45)) (w.heap.size + 1) 45 #[.int .i64 h', .int .i64 cap', .slice A' t.length c', .int .i64 n', .int .i64 dr', .slice B' T.length d']) := mkHid (Blk.at _ _ _ (by simp))
  clear hA hA' hS hT
  have cZX := ZX.out.six
  have lZX := ZX.out.lt
  have cZY := ZY.out.six
  have lZY := ZY.out.lt
  go_enter Try.func39, Try.ntmps39
  go_wp2_with fail
  go_ret
  exact ⟨rfl, KB.out⟩

set_option maxRecDepth 100000 in
set_option maxHeartbeats 4000000 in
theorem msame_2 {h cap n dr h' cap' n' dr' : Int} {s t : List Nat} {S T : List SentD} (t0 : (h == h') = true) (t1 : (cap == cap') = true) (ez : Hid (decide (s = t) = false))  (hl : Hid (s.length < 4611686018427387904)) (_hs : Hid (S.length < 4611686018427387904 ∧ ∀ s ∈ S, s.out.length < 4611686018427387904)) (A A' B B' : Option Addr) (c c' d d' : Nat) (w : World) (hA : Reads w A s) (hA' : Reads w A' t) (hS : SentIn w B S) (hT : SentIn w B' T) :
    Calls Try.prog 39 #[.agg #[.int .i64 h, .int .i64 cap, .slice A s.length c, .int .i64 n, .int .i64 dr, .slice B S.length d], .agg #[.int .i64 h', .int .i64 cap', .slice A' t.length c', .int .i64 n', .int .i64 dr', .slice B' T.length d']] w fun e w' => e = .returned (.bool false) ∧ Below w.heap.size w w' := by
  skip
  have KB : Hid (Below w.heap.size w ((w.alloc (.cells #[.int .i64 h, .int .i64 cap, .slice A s.length c, .int .i64 n, .int .i64 dr, .slice B S.length d] 45)).alloc (.cells #[.int .i64 h', .int .i64 cap', .slice A' t.length c', .int .i64 n', .int .i64 dr', .slice B' T.length d'] 45))) := mkHid (((Below.refl _ _).alloc (Nat.le_refl _) (.cells #[.int .i64 h, .int .i64 cap, .slice A s.length c, .int .i64 n, .int .i64 dr, .slice B S.length d] 45)).alloc (by simp) (.cells #[.int .i64 h', .int .i64 cap', .slice A' t.length c', .int .i64 n', .int .i64 dr', .slice B' T.length d'] 45))
  have HA := mkHid (hA.below (((Below.refl _ _).alloc (Nat.le_refl _) (.cells #[.int .i64 h, .int .i64 cap, .slice A s.length c, .int .i64 n, .int .i64 dr, .slice B S.length d] 45)).alloc (by simp) (.cells #[.int .i64 h', .int .i64 cap', .slice A' t.length c', .int .i64 n', .int .i64 dr', .slice B' T.length d'] 45)))
  have HB := mkHid (hA'.below (((Below.refl _ _).alloc (Nat.le_refl _) (.cells #[.int .i64 h, .int .i64 cap, .slice A s.length c, .int .i64 n, .int .i64 dr, .slice B S.length d] 45)).alloc (by simp) (.cells #[.int .i64 h', .int .i64 cap', .slice A' t.length c', .int .i64 n', .int .i64 dr', .slice B' T.length d'] 45)))
  have HS := mkHid (hS.below (((Below.refl _ _).alloc (Nat.le_refl _) (.cells #[.int .i64 h, .int .i64 cap, .slice A s.length c, .int .i64 n, .int .i64 dr, .slice B S.length d] 45)).alloc (by simp) (.cells #[.int .i64 h', .int .i64 cap', .slice A' t.length c', .int .i64 n', .int .i64 dr', .slice B' T.length d'] 45)))
  have HT := mkHid (hT.below (((Below.refl _ _).alloc (Nat.le_refl _) (.cells #[.int .i64 h, .int .i64 cap, .slice A s.length c, .int .i64 n, .int .i64 dr, .slice B S.length d] 45)).alloc (by simp) (.cells #[.int .i64 h', .int .i64 cap', .slice A' t.length c', .int .i64 n', .int .i64 dr', .slice B' T.length d'] 45)))
  have ZX : Hid (Blk ((w.alloc (.cells #[.int .i64 h, .int .i64 cap, .slice A s.length c, .int .i64 n, .int .i64 dr, .slice B S.length d] 45)).alloc (.cells #[.int .i64 h', .int .i64 cap', .slice A' t.length c', .int .i64 n', .int .i64 dr', .slice B' T.length d'] 45)) w.heap.size 45 #[.int .i64 h, .int .i64 cap, .slice A s.length c, .int .i64 n, .int .i64 dr, .slice B S.length d]) := mkHid ((Blk.new _ _ _).alloc _)
  have ZY : Hid (Blk ((w.alloc (.cells #[.int .i64 h, .int .i64 cap, .slice A s.length c, .int .i64 n, .int .i64 dr, .slice B S.length d] 45)).alloc (.cells #[.int .i64 h', .int .i64 cap', .slice A' t.length c', .int .i64 n', .int .i64 dr', .slice B' T.length d'] 45)) (w.heap.size + 1) 45 #[.int .i64 h', .int .i64 cap', .slice A' t.length c', .int .i64 n', .int .i64 dr', .slice B' T.length d']) := mkHid (Blk.at _ _ _ (by simp))
  clear hA hA' hS hT
  have cZX := ZX.out.six
  have lZX := ZX.out.lt
  have cZY := ZY.out.six
  have lZY := ZY.out.lt
  go_enter Try.func39, Try.ntmps39
  go_wp2_with fail
  refine (seq_any ez hl.out _ _ _ _ _ HA.out HB.out).mono ?_
  rintro e w1 ⟨rfl, hb1⟩
  replace ZX := mkHid (ZX.out.keep hb1)
  replace ZY := mkHid (ZY.out.keep hb1)
  replace KB := mkHid (KB.out.step hb1)
  replace HA := mkHid (HA.out.below hb1)
  replace HB := mkHid (HB.out.below hb1)
  replace HS := mkHid (HS.out.below hb1)
  replace HT := mkHid (HT.out.below hb1)
  clear cZX lZX
  have cZX := ZX.out.six
  have lZX := ZX.out.lt
  clear cZY lZY
  have cZY := ZY.out.six
  have lZY := ZY.out.lt
  clear hb1
  go_wp2_with fail
  go_ret
  exact ⟨rfl, KB.out⟩

set_option maxRecDepth 100000 in
set_option maxHeartbeats 4000000 in
theorem msame_3 {h cap n dr h' cap' n' dr' : Int} {s t : List Nat} {S T : List SentD} (t0 : (h == h') = true) (t1 : (cap == cap') = true) (ez : Hid (decide (s = t) = true)) (t3 : (n == n') = false)  (hl : Hid (s.length < 4611686018427387904)) (_hs : Hid (S.length < 4611686018427387904 ∧ ∀ s ∈ S, s.out.length < 4611686018427387904)) (A A' B B' : Option Addr) (c c' d d' : Nat) (w : World) (hA : Reads w A s) (hA' : Reads w A' t) (hS : SentIn w B S) (hT : SentIn w B' T) :
    Calls Try.prog 39 #[.agg #[.int .i64 h, .int .i64 cap, .slice A s.length c, .int .i64 n, .int .i64 dr, .slice B S.length d], .agg #[.int .i64 h', .int .i64 cap', .slice A' t.length c', .int .i64 n', .int .i64 dr', .slice B' T.length d']] w fun e w' => e = .returned (.bool false) ∧ Below w.heap.size w w' := by
  skip
  have KB : Hid (Below w.heap.size w ((w.alloc (.cells #[.int .i64 h, .int .i64 cap, .slice A s.length c, .int .i64 n, .int .i64 dr, .slice B S.length d] 45)).alloc (.cells #[.int .i64 h', .int .i64 cap', .slice A' t.length c', .int .i64 n', .int .i64 dr', .slice B' T.length d'] 45))) := mkHid (((Below.refl _ _).alloc (Nat.le_refl _) (.cells #[.int .i64 h, .int .i64 cap, .slice A s.length c, .int .i64 n, .int .i64 dr, .slice B S.length d] 45)).alloc (by simp) (.cells #[.int .i64 h', .int .i64 cap', .slice A' t.length c', .int .i64 n', .int .i64 dr', .slice B' T.length d'] 45))
  have HA := mkHid (hA.below (((Below.refl _ _).alloc (Nat.le_refl _) (.cells #[.int .i64 h, .int .i64 cap, .slice A s.length c, .int .i64 n, .int .i64 dr, .slice B S.length d] 45)).alloc (by simp) (.cells #[.int .i64 h', .int .i64 cap', .slice A' t.length c', .int .i64 n', .int .i64 dr', .slice B' T.length d'] 45)))
  have HB := mkHid (hA'.below (((Below.refl _ _).alloc (Nat.le_refl _) (.cells #[.int .i64 h, .int .i64 cap, .slice A s.length c, .int .i64 n, .int .i64 dr, .slice B S.length d] 45)).alloc (by simp) (.cells #[.int .i64 h', .int .i64 cap', .slice A' t.length c', .int .i64 n', .int .i64 dr', .slice B' T.length d'] 45)))
  have HS := mkHid (hS.below (((Below.refl _ _).alloc (Nat.le_refl _) (.cells #[.int .i64 h, .int .i64 cap, .slice A s.length c, .int .i64 n, .int .i64 dr, .slice B S.length d] 45)).alloc (by simp) (.cells #[.int .i64 h', .int .i64 cap', .slice A' t.length c', .int .i64 n', .int .i64 dr', .slice B' T.length d'] 45)))
  have HT := mkHid (hT.below (((Below.refl _ _).alloc (Nat.le_refl _) (.cells #[.int .i64 h, .int .i64 cap, .slice A s.length c, .int .i64 n, .int .i64 dr, .slice B S.length d] 45)).alloc (by simp) (.cells #[.int .i64 h', .int .i64 cap', .slice A' t.length c', .int .i64 n', .int .i64 dr', .slice B' T.length d'] 45)))
  have ZX : Hid (Blk ((w.alloc (.cells #[.int .i64 h, .int .i64 cap, .slice A s.length c, .int .i64 n, .int .i64 dr, .slice B S.length d] 45)).alloc (.cells #[.int .i64 h', .int .i64 cap', .slice A' t.length c', .int .i64 n', .int .i64 dr', .slice B' T.length d'] 45)) w.heap.size 45 #[.int .i64 h, .int .i64 cap, .slice A s.length c, .int .i64 n, .int .i64 dr, .slice B S.length d]) := mkHid ((Blk.new _ _ _).alloc _)
  have ZY : Hid (Blk ((w.alloc (.cells #[.int .i64 h, .int .i64 cap, .slice A s.length c, .int .i64 n, .int .i64 dr, .slice B S.length d] 45)).alloc (.cells #[.int .i64 h', .int .i64 cap', .slice A' t.length c', .int .i64 n', .int .i64 dr', .slice B' T.length d'] 45)) (w.heap.size + 1) 45 #[.int .i64 h', .int .i64 cap', .slice A' t.length c', .int .i64 n', .int .i64 dr', .slice B' T.length d']) := mkHid (Blk.at _ _ _ (by simp))
  clear hA hA' hS hT
  have cZX := ZX.out.six
  have lZX := ZX.out.lt
  have cZY := ZY.out.six
  have lZY := ZY.out.lt
  go_enter Try.func39, Try.ntmps39
  go_wp2_with fail
  refine (seq_any ez hl.out _ _ _ _ _ HA.out HB.out).mono ?_
  rintro e w1 ⟨rfl, hb1⟩
  replace ZX := mkHid (ZX.out.keep hb1)
  replace ZY := mkHid (ZY.out.keep hb1)
  replace KB := mkHid (KB.out.step hb1)
  replace HA := mkHid (HA.out.below hb1)
  replace HB := mkHid (HB.out.below hb1)
  replace HS := mkHid (HS.out.below hb1)
  replace HT := mkHid (HT.out.below hb1)
  clear cZX lZX
  have cZX := ZX.out.six
  have lZX := ZX.out.lt
  clear cZY lZY
  have cZY := ZY.out.six
  have lZY := ZY.out.lt
  clear hb1
  go_wp2_with fail
  go_ret
  exact ⟨rfl, KB.out⟩

set_option maxRecDepth 100000 in
set_option maxHeartbeats 4000000 in
theorem msame_4 {h cap n dr h' cap' n' dr' : Int} {s t : List Nat} {S T : List SentD} (t0 : (h == h') = true) (t1 : (cap == cap') = true) (ez : Hid (decide (s = t) = true)) (t3 : (n == n') = true) (t4 : (dr == dr') = false)  (hl : Hid (s.length < 4611686018427387904)) (_hs : Hid (S.length < 4611686018427387904 ∧ ∀ s ∈ S, s.out.length < 4611686018427387904)) (A A' B B' : Option Addr) (c c' d d' : Nat) (w : World) (hA : Reads w A s) (hA' : Reads w A' t) (hS : SentIn w B S) (hT : SentIn w B' T) :
    Calls Try.prog 39 #[.agg #[.int .i64 h, .int .i64 cap, .slice A s.length c, .int .i64 n, .int .i64 dr, .slice B S.length d], .agg #[.int .i64 h', .int .i64 cap', .slice A' t.length c', .int .i64 n', .int .i64 dr', .slice B' T.length d']] w fun e w' => e = .returned (.bool false) ∧ Below w.heap.size w w' := by
  skip
  have KB : Hid (Below w.heap.size w ((w.alloc (.cells #[.int .i64 h, .int .i64 cap, .slice A s.length c, .int .i64 n, .int .i64 dr, .slice B S.length d] 45)).alloc (.cells #[.int .i64 h', .int .i64 cap', .slice A' t.length c', .int .i64 n', .int .i64 dr', .slice B' T.length d'] 45))) := mkHid (((Below.refl _ _).alloc (Nat.le_refl _) (.cells #[.int .i64 h, .int .i64 cap, .slice A s.length c, .int .i64 n, .int .i64 dr, .slice B S.length d] 45)).alloc (by simp) (.cells #[.int .i64 h', .int .i64 cap', .slice A' t.length c', .int .i64 n', .int .i64 dr', .slice B' T.length d'] 45))
  have HA := mkHid (hA.below (((Below.refl _ _).alloc (Nat.le_refl _) (.cells #[.int .i64 h, .int .i64 cap, .slice A s.length c, .int .i64 n, .int .i64 dr, .slice B S.length d] 45)).alloc (by simp) (.cells #[.int .i64 h', .int .i64 cap', .slice A' t.length c', .int .i64 n', .int .i64 dr', .slice B' T.length d'] 45)))
  have HB := mkHid (hA'.below (((Below.refl _ _).alloc (Nat.le_refl _) (.cells #[.int .i64 h, .int .i64 cap, .slice A s.length c, .int .i64 n, .int .i64 dr, .slice B S.length d] 45)).alloc (by simp) (.cells #[.int .i64 h', .int .i64 cap', .slice A' t.length c', .int .i64 n', .int .i64 dr', .slice B' T.length d'] 45)))
  have HS := mkHid (hS.below (((Below.refl _ _).alloc (Nat.le_refl _) (.cells #[.int .i64 h, .int .i64 cap, .slice A s.length c, .int .i64 n, .int .i64 dr, .slice B S.length d] 45)).alloc (by simp) (.cells #[.int .i64 h', .int .i64 cap', .slice A' t.length c', .int .i64 n', .int .i64 dr', .slice B' T.length d'] 45)))
  have HT := mkHid (hT.below (((Below.refl _ _).alloc (Nat.le_refl _) (.cells #[.int .i64 h, .int .i64 cap, .slice A s.length c, .int .i64 n, .int .i64 dr, .slice B S.length d] 45)).alloc (by simp) (.cells #[.int .i64 h', .int .i64 cap', .slice A' t.length c', .int .i64 n', .int .i64 dr', .slice B' T.length d'] 45)))
  have ZX : Hid (Blk ((w.alloc (.cells #[.int .i64 h, .int .i64 cap, .slice A s.length c, .int .i64 n, .int .i64 dr, .slice B S.length d] 45)).alloc (.cells #[.int .i64 h', .int .i64 cap', .slice A' t.length c', .int .i64 n', .int .i64 dr', .slice B' T.length d'] 45)) w.heap.size 45 #[.int .i64 h, .int .i64 cap, .slice A s.length c, .int .i64 n, .int .i64 dr, .slice B S.length d]) := mkHid ((Blk.new _ _ _).alloc _)
  have ZY : Hid (Blk ((w.alloc (.cells #[.int .i64 h, .int .i64 cap, .slice A s.length c, .int .i64 n, .int .i64 dr, .slice B S.length d] 45)).alloc (.cells #[.int .i64 h', .int .i64 cap', .slice A' t.length c', .int .i64 n', .int .i64 dr', .slice B' T.length d'] 45)) (w.heap.size + 1) 45 #[.int .i64 h', .int .i64 cap', .slice A' t.length c', .int .i64 n', .int .i64 dr', .slice B' T.length d']) := mkHid (Blk.at _ _ _ (by simp))
  clear hA hA' hS hT
  have cZX := ZX.out.six
  have lZX := ZX.out.lt
  have cZY := ZY.out.six
  have lZY := ZY.out.lt
  go_enter Try.func39, Try.ntmps39
  go_wp2_with fail
  refine (seq_any ez hl.out _ _ _ _ _ HA.out HB.out).mono ?_
  rintro e w1 ⟨rfl, hb1⟩
  replace ZX := mkHid (ZX.out.keep hb1)
  replace ZY := mkHid (ZY.out.keep hb1)
  replace KB := mkHid (KB.out.step hb1)
  replace HA := mkHid (HA.out.below hb1)
  replace HB := mkHid (HB.out.below hb1)
  replace HS := mkHid (HS.out.below hb1)
  replace HT := mkHid (HT.out.below hb1)
  clear cZX lZX
  have cZX := ZX.out.six
  have lZX := ZX.out.lt
  clear cZY lZY
  have cZY := ZY.out.six
  have lZY := ZY.out.lt
  clear hb1
  go_wp2_with fail
  go_ret
  exact ⟨rfl, KB.out⟩

set_option maxRecDepth 100000 in
set_option maxHeartbeats 4000000 in
theorem msame_5 {h cap n dr h' cap' n' dr' : Int} {s t : List Nat} {S T : List SentD} (t0 : (h == h') = true) (t1 : (cap == cap') = true) (ez : Hid (decide (s = t) = true)) (t3 : (n == n') = true) (t4 : (dr == dr') = true) (ef : Hid (sameS S T = false))  (hl : Hid (s.length < 4611686018427387904)) (hs : Hid (S.length < 4611686018427387904 ∧ ∀ s ∈ S, s.out.length < 4611686018427387904)) (A A' B B' : Option Addr) (c c' d d' : Nat) (w : World) (hA : Reads w A s) (hA' : Reads w A' t) (hS : SentIn w B S) (hT : SentIn w B' T) :
    Calls Try.prog 39 #[.agg #[.int .i64 h, .int .i64 cap, .slice A s.length c, .int .i64 n, .int .i64 dr, .slice B S.length d], .agg #[.int .i64 h', .int .i64 cap', .slice A' t.length c', .int .i64 n', .int .i64 dr', .slice B' T.length d']] w fun e w' => e = .returned (.bool false) ∧ Below w.heap.size w w' := by
  skip
  have KB : Hid (Below w.heap.size w ((w.alloc (.cells #[.int .i64 h, .int .i64 cap, .slice A s.length c, .int .i64 n, .int .i64 dr, .slice B S.length d] 45)).alloc (.cells #[.int .i64 h', .int .i64 cap', .slice A' t.length c', .int .i64 n', .int .i64 dr', .slice B' T.length d'] 45))) := mkHid (((Below.refl _ _).alloc (Nat.le_refl _) (.cells #[.int .i64 h, .int .i64 cap, .slice A s.length c, .int .i64 n, .int .i64 dr, .slice B S.length d] 45)).alloc (by simp) (.cells #[.int .i64 h', .int .i64 cap', .slice A' t.length c', .int .i64 n', .int .i64 dr', .slice B' T.length d'] 45))
  have HA := mkHid (hA.below (((Below.refl _ _).alloc (Nat.le_refl _) (.cells #[.int .i64 h, .int .i64 cap, .slice A s.length c, .int .i64 n, .int .i64 dr, .slice B S.length d] 45)).alloc (by simp) (.cells #[.int .i64 h', .int .i64 cap', .slice A' t.length c', .int .i64 n', .int .i64 dr', .slice B' T.length d'] 45)))
  have HB := mkHid (hA'.below (((Below.refl _ _).alloc (Nat.le_refl _) (.cells #[.int .i64 h, .int .i64 cap, .slice A s.length c, .int .i64 n, .int .i64 dr, .slice B S.length d] 45)).alloc (by simp) (.cells #[.int .i64 h', .int .i64 cap', .slice A' t.length c', .int .i64 n', .int .i64 dr', .slice B' T.length d'] 45)))
  have HS := mkHid (hS.below (((Below.refl _ _).alloc (Nat.le_refl _) (.cells #[.int .i64 h, .int .i64 cap, .slice A s.length c, .int .i64 n, .int .i64 dr, .slice B S.length d] 45)).alloc (by simp) (.cells #[.int .i64 h', .int .i64 cap', .slice A' t.length c', .int .i64 n', .int .i64 dr', .slice B' T.length d'] 45)))
  have HT := mkHid (hT.below (((Below.refl _ _).alloc (Nat.le_refl _) (.cells #[.int .i64 h, .int .i64 cap, .slice A s.length c, .int .i64 n, .int .i64 dr, .slice B S.length d] 45)).alloc (by simp) (.cells #[.int .i64 h', .int .i64 cap', .slice A' t.length c', .int .i64 n', .int .i64 dr', .slice B' T.length d'] 45)))
  have ZX : Hid (Blk ((w.alloc (.cells #[.int .i64 h, .int .i64 cap, .slice A s.length c, .int .i64 n, .int .i64 dr, .slice B S.length d] 45)).alloc (.cells #[.int .i64 h', .int .i64 cap', .slice A' t.length c', .int .i64 n', .int .i64 dr', .slice B' T.length d'] 45)) w.heap.size 45 #[.int .i64 h, .int .i64 cap, .slice A s.length c, .int .i64 n, .int .i64 dr, .slice B S.length d]) := mkHid ((Blk.new _ _ _).alloc _)
  have ZY : Hid (Blk ((w.alloc (.cells #[.int .i64 h, .int .i64 cap, .slice A s.length c, .int .i64 n, .int .i64 dr, .slice B S.length d] 45)).alloc (.cells #[.int .i64 h', .int .i64 cap', .slice A' t.length c', .int .i64 n', .int .i64 dr', .slice B' T.length d'] 45)) (w.heap.size + 1) 45 #[.int .i64 h', .int .i64 cap', .slice A' t.length c', .int .i64 n', .int .i64 dr', .slice B' T.length d']) := mkHid (Blk.at _ _ _ (by simp))
  clear hA hA' hS hT
  have cZX := ZX.out.six
  have lZX := ZX.out.lt
  have cZY := ZY.out.six
  have lZY := ZY.out.lt
  go_enter Try.func39, Try.ntmps39
  go_wp2_with fail
  refine (seq_any ez hl.out _ _ _ _ _ HA.out HB.out).mono ?_
  rintro e w1 ⟨rfl, hb1⟩
  replace ZX := mkHid (ZX.out.keep hb1)
  replace ZY := mkHid (ZY.out.keep hb1)
  replace KB := mkHid (KB.out.step hb1)
  replace HA := mkHid (HA.out.below hb1)
  replace HB := mkHid (HB.out.below hb1)
  replace HS := mkHid (HS.out.below hb1)
  replace HT := mkHid (HT.out.below hb1)
  clear cZX lZX
  have cZX := ZX.out.six
  have lZX := ZX.out.lt
  clear cZY lZY
  have cZY := ZY.out.six
  have lZY := ZY.out.lt
  clear hb1
  go_wp2_with fail
  refine (eqf_any ef hs _ _ _ _ _ HS.out HT.out).mono ?_
  rintro e w2 ⟨rfl, hb2⟩
  replace ZX := mkHid (ZX.out.keep hb2)
  replace ZY := mkHid (ZY.out.keep hb2)
  replace KB := mkHid (KB.out.step hb2)
  replace HA := mkHid (HA.out.below hb2)
  replace HB := mkHid (HB.out.below hb2)
  replace HS := mkHid (HS.out.below hb2)
  replace HT := mkHid (HT.out.below hb2)
  clear cZX lZX
  have cZX := ZX.out.six
  have lZX := ZX.out.lt
  clear cZY lZY
  have cZY := ZY.out.six
  have lZY := ZY.out.lt
  clear hb2
  go_wp2_with fail
  go_ret
  exact ⟨rfl, KB.out⟩

set_option maxRecDepth 100000 in
set_option maxHeartbeats 4000000 in
theorem msame_yes {h cap n dr h' cap' n' dr' : Int} {s t : List Nat} {S T : List SentD} (t0 : (h == h') = true) (t1 : (cap == cap') = true) (ez : Hid (decide (s = t) = true)) (t3 : (n == n') = true) (t4 : (dr == dr') = true) (ef : Hid (sameS S T = true))  (hl : Hid (s.length < 4611686018427387904)) (hs : Hid (S.length < 4611686018427387904 ∧ ∀ s ∈ S, s.out.length < 4611686018427387904)) (A A' B B' : Option Addr) (c c' d d' : Nat) (w : World) (hA : Reads w A s) (hA' : Reads w A' t) (hS : SentIn w B S) (hT : SentIn w B' T) :
    Calls Try.prog 39 #[.agg #[.int .i64 h, .int .i64 cap, .slice A s.length c, .int .i64 n, .int .i64 dr, .slice B S.length d], .agg #[.int .i64 h', .int .i64 cap', .slice A' t.length c', .int .i64 n', .int .i64 dr', .slice B' T.length d']] w fun e w' => e = .returned (.bool true) ∧ Below w.heap.size w w' := by
  skip
  have KB : Hid (Below w.heap.size w ((w.alloc (.cells #[.int .i64 h, .int .i64 cap, .slice A s.length c, .int .i64 n, .int .i64 dr, .slice B S.length d] 45)).alloc (.cells #[.int .i64 h', .int .i64 cap', .slice A' t.length c', .int .i64 n', .int .i64 dr', .slice B' T.length d'] 45))) := mkHid (((Below.refl _ _).alloc (Nat.le_refl _) (.cells #[.int .i64 h, .int .i64 cap, .slice A s.length c, .int .i64 n, .int .i64 dr, .slice B S.length d] 45)).alloc (by simp) (.cells #[.int .i64 h', .int .i64 cap', .slice A' t.length c', .int .i64 n', .int .i64 dr', .slice B' T.length d'] 45))
  have HA := mkHid (hA.below (((Below.refl _ _).alloc (Nat.le_refl _) (.cells #[.int .i64 h, .int .i64 cap, .slice A s.length c, .int .i64 n, .int .i64 dr, .slice B S.length d] 45)).alloc (by simp) (.cells #[.int .i64 h', .int .i64 cap', .slice A' t.length c', .int .i64 n', .int .i64 dr', .slice B' T.length d'] 45)))
  have HB := mkHid (hA'.below (((Below.refl _ _).alloc (Nat.le_refl _) (.cells #[.int .i64 h, .int .i64 cap, .slice A s.length c, .int .i64 n, .int .i64 dr, .slice B S.length d] 45)).alloc (by simp) (.cells #[.int .i64 h', .int .i64 cap', .slice A' t.length c', .int .i64 n', .int .i64 dr', .slice B' T.length d'] 45)))
  have HS := mkHid (hS.below (((Below.refl _ _).alloc (Nat.le_refl _) (.cells #[.int .i64 h, .int .i64 cap, .slice A s.length c, .int .i64 n, .int .i64 dr, .slice B S.length d] 45)).alloc (by simp) (.cells #[.int .i64 h', .int .i64 cap', .slice A' t.length c', .int .i64 n', .int .i64 dr', .slice B' T.length d'] 45)))
  have HT := mkHid (hT.below (((Below.refl _ _).alloc (Nat.le_refl _) (.cells #[.int .i64 h, .int .i64 cap, .slice A s.length c, .int .i64 n, .int .i64 dr, .slice B S.length d] 45)).alloc (by simp) (.cells #[.int .i64 h', .int .i64 cap', .slice A' t.length c', .int .i64 n', .int .i64 dr', .slice B' T.length d'] 45)))
  have ZX : Hid (Blk ((w.alloc (.cells #[.int .i64 h, .int .i64 cap, .slice A s.length c, .int .i64 n, .int .i64 dr, .slice B S.length d] 45)).alloc (.cells #[.int .i64 h', .int .i64 cap', .slice A' t.length c', .int .i64 n', .int .i64 dr', .slice B' T.length d'] 45)) w.heap.size 45 #[.int .i64 h, .int .i64 cap, .slice A s.length c, .int .i64 n, .int .i64 dr, .slice B S.length d]) := mkHid ((Blk.new _ _ _).alloc _)
  have ZY : Hid (Blk ((w.alloc (.cells #[.int .i64 h, .int .i64 cap, .slice A s.length c, .int .i64 n, .int .i64 dr, .slice B S.length d] 45)).alloc (.cells #[.int .i64 h', .int .i64 cap', .slice A' t.length c', .int .i64 n', .int .i64 dr', .slice B' T.length d'] 45)) (w.heap.size + 1) 45 #[.int .i64 h', .int .i64 cap', .slice A' t.length c', .int .i64 n', .int .i64 dr', .slice B' T.length d']) := mkHid (Blk.at _ _ _ (by simp))
  clear hA hA' hS hT
  have cZX := ZX.out.six
  have lZX := ZX.out.lt
  have cZY := ZY.out.six
  have lZY := ZY.out.lt
  go_enter Try.func39, Try.ntmps39
  go_wp2_with fail
  refine (seq_any ez hl.out _ _ _ _ _ HA.out HB.out).mono ?_
  rintro e w1 ⟨rfl, hb1⟩
  replace ZX := mkHid (ZX.out.keep hb1)
  replace ZY := mkHid (ZY.out.keep hb1)
  replace KB := mkHid (KB.out.step hb1)
  replace HA := mkHid (HA.out.below hb1)
  replace HB := mkHid (HB.out.below hb1)
  replace HS := mkHid (HS.out.below hb1)
  replace HT := mkHid (HT.out.below hb1)
  clear cZX lZX
  have cZX := ZX.out.six
  have lZX := ZX.out.lt
  clear cZY lZY
  have cZY := ZY.out.six
  have lZY := ZY.out.lt
  clear hb1
  go_wp2_with fail
  refine (eqf_any ef hs _ _ _ _ _ HS.out HT.out).mono ?_
  rintro e w2 ⟨rfl, hb2⟩
  replace ZX := mkHid (ZX.out.keep hb2)
  replace ZY := mkHid (ZY.out.keep hb2)
  replace KB := mkHid (KB.out.step hb2)
  replace HA := mkHid (HA.out.below hb2)
  replace HB := mkHid (HB.out.below hb2)
  replace HS := mkHid (HS.out.below hb2)
  replace HT := mkHid (HT.out.below hb2)
  clear cZX lZX
  have cZX := ZX.out.six
  have lZX := ZX.out.lt
  clear cZY lZY
  have cZY := ZY.out.six
  have lZY := ZY.out.lt
  clear hb2
  go_wp2_with fail
  go_ret
  exact ⟨rfl, KB.out⟩

/-- two models are the same -/
def sameM (m o : ModD) : Bool := (m.h == o.h) && ((m.cap == o.cap) && (decide (m.l = o.l) && ((m.n == o.n) && ((m.draws == o.draws) && sameS m.sent o.sent))))
theorem msame {m o : ModD} {z : Bool} (e : Hid (sameM m o = z)) (hl : Hid (m.l.length < 4611686018427387904)) (hs : Hid (m.sent.length < 4611686018427387904 ∧ ∀ s ∈ m.sent, s.out.length < 4611686018427387904)) (A A' B B' : Option Addr) (c c' d d' : Nat) (w : World) (hA : Reads w A m.l) (hA' : Reads w A' o.l) (hS : SentIn w B m.sent) (hT : SentIn w B' o.sent) :
    Calls Try.prog 39 #[.agg #[.int .i64 m.h, .int .i64 m.cap, .slice A m.l.length c, .int .i64 m.n, .int .i64 m.draws, .slice B m.sent.length d], .agg #[.int .i64 o.h, .int .i64 o.cap, .slice A' o.l.length c', .int .i64 o.n, .int .i64 o.draws, .slice B' o.sent.length d']] w fun e w' => e = .returned (.bool z) ∧ Below w.heap.size w w' := by
  have e' := e.out
  unfold sameM at e'
  cases t0 : (m.h == o.h)
  · rw [t0, Bool.false_and] at e'
    subst e'
    exact msame_0 t0 hl hs A A' B B' c c' d d' w hA hA' hS hT
  · rw [t0, Bool.true_and] at e'
    cases t1 : (m.cap == o.cap)
    · rw [t1, Bool.false_and] at e'
      subst e'
      exact msame_1 t0 t1 hl hs A A' B B' c c' d d' w hA hA' hS hT
    · rw [t1, Bool.true_and] at e'
      cases ez : decide (m.l = o.l)
      · rw [ez, Bool.false_and] at e'
        subst e'
        exact msame_2 t0 t1 (mkHid ez) hl hs A A' B B' c c' d d' w hA hA' hS hT
      · rw [ez, Bool.true_and] at e'
        cases t3 : (m.n == o.n)
        · rw [t3, Bool.false_and] at e'
          subst e'
          exact msame_3 t0 t1 (mkHid ez) t3 hl hs A A' B B' c c' d d' w hA hA' hS hT
        · rw [t3, Bool.true_and] at e'
          cases t4 : (m.draws == o.draws)
          · rw [t4, Bool.false_and] at e'
            subst e'
            exact msame_4 t0 t1 (mkHid ez) t3 t4 hl hs A A' B B' c c' d d' w hA hA' hS hT
          · rw [t4, Bool.true_and] at e'
            cases z
            · exact msame_5 t0 t1 (mkHid ez) t3 t4 (mkHid e') hl hs A A' B B' c c' d d' w hA hA' hS hT
            · exact msame_yes t0 t1 (mkHid ez) t3 t4 (mkHid e') hl hs A A' B B' c c' d d' w hA hA' hS hT
theorem sentEq_self (s : List Nat) (x p q : Int) : sentEq s s x x p q p q = true := by unfold sentEq; simp
theorem sameTo_self (S : List SentD) (k : Nat) : sameTo S S k = true := by
  unfold sameTo
  rw [List.all_eq_true]
  intro i _
  cases S[i]? with
  | none => rfl
  | some s => exact sentEq_self _ _ _ _
theorem sameM_self (m : ModD) : sameM m m = true := by unfold sameM sameS; simp [sameTo_self]
end Go.Proofs.Ytmehbonjpmlmfaa

namespace Go.Proofs.Ytmehbonjpmlmfaa
open Go.ChangeShapes Go.WideShapes Go.ChangeAt Go.RowKit Go.Deep Go.Lib

/-- a model, as it is read -/
structure RawM (w : World) (A : Option Addr) (c : Nat) (B : Option Addr) (d : Nat) (m : ModD) : Prop where
  l1 : m.l.length ≤ c
  l2 : c ≤ maxLen
  reads : Reads w A m.l
  lnil : A = none → c = 0
  s1 : m.sent.length ≤ d
  s2 : d ≤ maxLen
  sents : SentIn w B m.sent
  snil : B = none → d = 0
  wh : (Lit.int .i64 m.h).wf = true
  wcap : (Lit.int .i64 m.cap).wf = true
  wn : (Lit.int .i64 m.n).wf = true
  wdr : (Lit.int .i64 m.draws).wf = true
  wl : ∀ j, m.l.getD j 0 < 18446744073709551616
  ws : ∀ s ∈ m.sent, (Lit.int .i64 s.draw).wf = true ∧ ∀ j, s.out.getD j 0 < 18446744073709551616
theorem RawM.mem {w : World} {A B : Option Addr} {c d : Nat} {m : ModD} (h : RawM w A c B d m) (hs : m.sent.length ≤ 30 ∧ m.l.length ≤ 30) : MemM w A c B d m :=
  ⟨h.l1, h.l2, h.reads, h.lnil, h.s1, h.s2, h.sents, h.snil, by omega⟩
theorem RawM.below {w w1 : World} {A B : Option Addr} {c d : Nat} {m : ModD} (h : RawM w A c B d m) (hb : Below w.heap.size w w1) : RawM w1 A c B d m := ⟨h.l1, h.l2, h.reads.below hb, h.lnil, h.s1, h.s2, h.sents.below hb, h.snil, h.wh, h.wcap, h.wn, h.wdr, h.wl, h.ws⟩
theorem sents_of {w : World} {a : Option Addr} {R : List RawS} (h : ∀ i (hi : i < R.length), RawOk w R[i] ∧ ∃ ad, a = some ad ∧ ∀ j u, (rawCells R[i])[j]? = some u → w.cell? (ad.add (i * 4 + j)) = some u) : SentIn w a (R.map fun x => ⟨x.s, x.dr, x.p⟩) := by
  intro i hi
  have hi' : i < R.length := by simpa using hi
  obtain ⟨h1, ⟨b, off, sp⟩, rfl, hc⟩ := h i hi'
  have c0 := hc 0 _ rfl
  have c1 := hc 1 _ rfl
  have c2 := hc 2 _ rfl
  have c3 := hc 3 _ rfl
  have : sp = none := by
    obtain ⟨_, ad, e, hz⟩ := h 0 (by omega)
    cases e
    have := World.cell?_spot (hz 0 _ rfl)
    simpa [Addr.add] using this
  subst this
  rw [addr_add] at c0 c1 c2 c3
  have eq : (R.map fun x => (⟨x.s, x.dr, x.p⟩ : SentD))[i] = ⟨R[i].s, R[i].dr, R[i].p⟩ := by simp
  rw [eq]
  exact ⟨b, off, rfl, R[i].a, R[i].c, by rw [← Nat.add_zero (i * 4)]; exact c0, h1.l1, h1.l2, h1.reads, h1.nil, by rw [Nat.add_assoc]; exact c1, by rw [Nat.add_assoc]; exact c2, by rw [Nat.add_assoc]; exact c3⟩
section
variable {H : Type} {enc : TypeId × Value → H} {w : World} {r : Reach} {b0 base : Nat} {held : Bool}
set_option maxRecDepth 100000 in
theorem model_cells {fuel : Nat} {cs : List Value} {x : DataW H × List MemPlace} (h : DataW.trod enc Try.prog w base (fun _ => true) held fuel 45 cs = some x) :
    ∃ (A : Option Addr) (c : Nat) (B : Option Addr) (d : Nat) (m : ModD), cs = [.int .i64 m.h, .int .i64 m.cap, .slice A m.l.length c, .int .i64 m.n, .int .i64 m.draws, .slice B m.sent.length d] ∧ RawM w A c B d m := by
  obtain ⟨xs, n, _, _, hl, hxl, hf⟩ := DataW.trod_struct Try.underlying45 h
  rw [cells_model] at hl
  match cs, hl with
  | [c0, c1, c2, c3, c4, c5], _ =>
    have hx : ∀ i, i < 6 → ∃ y, xs[i]? = some y := fun i hi => ⟨xs[i]'(by rw [hxl]; exact hi), List.getElem?_eq_getElem (by rw [hxl]; exact hi)⟩
    have g0 : DataW.trod enc Try.prog w base (fun _ => true) held n 3 (([c0, c1, c2, c3, c4, c5].drop 0).take (Try.prog.cellsOf 3)) = xs[0]? := hf 0 _ rfl
    rw [cells_int] at g0
    have g1 : DataW.trod enc Try.prog w base (fun _ => true) held n 3 (([c0, c1, c2, c3, c4, c5].drop 1).take (Try.prog.cellsOf 3)) = xs[1]? := hf 1 _ rfl
    rw [cells_int] at g1
    have g2 : DataW.trod enc Try.prog w base (fun _ => true) held n 22 (([c0, c1, c2, c3, c4, c5].drop 2).take (Try.prog.cellsOf 22)) = xs[2]? := hf 2 _ rfl
    rw [cells_leaves] at g2
    have g3 : DataW.trod enc Try.prog w base (fun _ => true) held n 2 (([c0, c1, c2, c3, c4, c5].drop 3).take (Try.prog.cellsOf 2)) = xs[3]? := hf 3 _ rfl
    rw [cells_int64] at g3
    have g4 : DataW.trod enc Try.prog w base (fun _ => true) held n 3 (([c0, c1, c2, c3, c4, c5].drop 4).take (Try.prog.cellsOf 3)) = xs[4]? := hf 4 _ rfl
    rw [cells_int] at g4
    have g5 : DataW.trod enc Try.prog w base (fun _ => true) held n 43 (([c0, c1, c2, c3, c4, c5].drop 5).take (Try.prog.cellsOf 43)) = xs[5]? := hf 5 _ rfl
    rw [cells_sents] at g5
    obtain ⟨y0, e0⟩ := hx 0 (by omega)
    rw [e0] at g0
    obtain ⟨y1, e1⟩ := hx 1 (by omega)
    rw [e1] at g1
    obtain ⟨y2, e2⟩ := hx 2 (by omega)
    rw [e2] at g2
    obtain ⟨y3, e3⟩ := hx 3 (by omega)
    rw [e3] at g3
    obtain ⟨y4, e4⟩ := hx 4 (by omega)
    rw [e4] at g4
    obtain ⟨y5, e5⟩ := hx 5 (by omega)
    rw [e5] at g5
    obtain ⟨n0, q0, _, w0⟩ := DataW.trod_int Try.underlying3 g0
    obtain ⟨n1, q1, _, w1⟩ := DataW.trod_int Try.underlying3 g1
    obtain ⟨a, s, cap, q2, k1, k2, k3, k4, k5⟩ := leaves_cells (v := c2) g2
    obtain ⟨n3, q3, _, w3⟩ := DataW.trod_int Try.underlying2 g3
    obtain ⟨n4, q4, _, w4⟩ := DataW.trod_int Try.underlying3 g4
    obtain ⟨b, R, dap, q5, j1, j2, j3, j4⟩ := open_sents (v := c5) g5
    simp at q0 q1 q3 q4
    subst q0 q1 q2 q3 q4 q5
    refine ⟨a, cap, b, dap, ⟨n0, n1, s, n3, n4, R.map fun x => ⟨x.s, x.dr, x.p⟩⟩, by simp, ⟨k1, k2, k3, k5, by simpa using j1, j2, sents_of j3, j4, w0, w1, w3, w4, k4, ?_⟩⟩
    intro s hs
    obtain ⟨x, hx, rfl⟩ := List.mem_map.1 hs
    obtain ⟨i, hi, rfl⟩ := List.getElem_of_mem hx
    exact ⟨(j3 i hi).1.wf, (j3 i hi).1.wfs⟩
set_option maxRecDepth 100000 in
theorem open_model {v : Value} {d : DataW H} {p : List MemPlace} (hv : Value.okWide Try.prog w r b0 45 v) (h : DataW.Trod enc Try.prog w base (fun _ => true) held 45 v d p) :
    ∃ (A : Option Addr) (c : Nat) (B : Option Addr) (d : Nat) (m : ModD), v = .agg #[.int .i64 m.h, .int .i64 m.cap, .slice A m.l.length c, .int .i64 m.n, .int .i64 m.draws, .slice B m.sent.length d] ∧ RawM w A c B d m := by
  obtain ⟨cs, rfl, _⟩ := okWide_struct Try.underlying45 hv
  obtain ⟨fuel, hf⟩ := h
  obtain ⟨A, c, B, d, m, e, k⟩ := model_cells hf
  refine ⟨A, c, B, d, m, ?_, k⟩
  obtain ⟨l⟩ := cs
  simp only [Value.cells] at e
  rw [← e]
set_option maxRecDepth 100000 in
theorem open_op {v : Value} {d : DataW H} {p : List MemPlace} (hv : Value.okWide Try.prog w r b0 53 v) (h : DataW.Trod enc Try.prog w base (fun _ => true) held 53 v d p) :
    ∃ o : OpD, v = .agg #[.int .i64 o.kind, .int .u64 (o.i : Int), .int .i64 o.n, .int .u64 (o.p.1.toNat : Int), .int .u64 (o.p.2.toNat : Int)] ∧ o.wf := by
  obtain ⟨cs, rfl, _⟩ := okWide_struct Try.underlying53 hv
  obtain ⟨fuel, hf⟩ := h
  obtain ⟨o, e, k⟩ := op_cells hf
  refine ⟨o, ?_, k⟩
  obtain ⟨l⟩ := cs
  simp only [Value.cells] at e
  rw [e]
  rfl
end
end Go.Proofs.Ytmehbonjpmlmfaa
