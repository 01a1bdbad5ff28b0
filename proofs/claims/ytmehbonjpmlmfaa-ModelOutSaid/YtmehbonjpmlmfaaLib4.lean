/- Words, contracts and plain laws, part 4: what the proofs of this seat's statements about models lean on. -/
import Derived.Test.YtmehbonjpmlmfaaLib3
namespace Go.Proofs.Ytmehbonjpmlmfaa
open Go.RowKit

set_option linter.unusedSimpArgs false in
set_option maxRecDepth 100000 in
set_option maxHeartbeats 4000000 in
theorem do1_err_true {m : ModD} {i : Nat} {n : Int} {p1 p2 : BitVec 64} (e : Hid ((if okM m then (0 : Int) else 1) = 0)) {L : List Nat} {r : Int} (f : Hid (withAll m.h m.l i = (L, r))) (r0 : r ≠ 0) (r6 : r ≠ 6) (h1 : (m.l.length : Int) < m.cap) (A : Option Addr) (c : Nat) (B : Option Addr) (d : Nat) (w : World) (hM : MemM w A c B d m) :
    Calls Try.prog 29 #[.agg #[.int .i64 m.h, .int .i64 m.cap, .slice A m.l.length c, .int .i64 m.n, .int .i64 m.draws, .slice B m.sent.length d], .agg #[.int .i64 1, .int .u64 (i : Int), .int .i64 n, .int .u64 (p1.toNat : Int), .int .u64 (p2.toNat : Int)]] w (DoPost m (ansE r) 0 w) := by
  have HS := mkHid (okM_sizes (m := m) (by cases hk : okM m with | true => rfl | false => exact absurd e.out (by rw [hk]; simp)))
  have t1 : decide ((m.l.length : Int) < m.cap) = true := decide_eq_true h1
  have ZX : Hid (Blk ((((w.alloc (.cells #[.int .i64 m.h, .int .i64 m.cap, .slice A m.l.length c, .int .i64 m.n, .int .i64 m.draws, .slice B m.sent.length d] 45)).alloc (.cells #[.int .i64 1, .int .u64 (i : Int), .int .i64 n, .int .u64 (p1.toNat : Int), .int .u64 (p2.toNat : Int)] 53)).alloc (.cells #[.int .i64 0, .int .i64 0, .slice none 0 0, .int .i64 0, .int .i64 0, .slice none 0 0] 45)).alloc (.cells #[.int .i64 0, .int .i64 0, .int .i64 0, .int .u64 0, .int .u64 0] 55)) w.heap.size 45 #[.int .i64 m.h, .int .i64 m.cap, .slice A m.l.length c, .int .i64 m.n, .int .i64 m.draws, .slice B m.sent.length d]) := mkHid ((((Blk.new _ _ _).alloc _).alloc _).alloc _)
  have ZP : Hid (Blk ((((w.alloc (.cells #[.int .i64 m.h, .int .i64 m.cap, .slice A m.l.length c, .int .i64 m.n, .int .i64 m.draws, .slice B m.sent.length d] 45)).alloc (.cells #[.int .i64 1, .int .u64 (i : Int), .int .i64 n, .int .u64 (p1.toNat : Int), .int .u64 (p2.toNat : Int)] 53)).alloc (.cells #[.int .i64 0, .int .i64 0, .slice none 0 0, .int .i64 0, .int .i64 0, .slice none 0 0] 45)).alloc (.cells #[.int .i64 0, .int .i64 0, .int .i64 0, .int .u64 0, .int .u64 0] 55)) (w.heap.size + 1) 53 #[.int .i64 1, .int .u64 (i : Int), .int .i64 n, .int .u64 (p1.toNat : Int), .int .u64 (p2.toNat : Int)]) := mkHid (((Blk.at _ _ _ (by simp)).alloc _).alloc _)
  have ZZ : Hid (Blk ((((w.alloc (.cells #[.int .i64 m.h, .int .i64 m.cap, .slice A m.l.length c, .int .i64 m.n, .int .i64 m.draws, .slice B m.sent.length d] 45)).alloc (.cells #[.int .i64 1, .int .u64 (i : Int), .int .i64 n, .int .u64 (p1.toNat : Int), .int .u64 (p2.toNat : Int)] 53)).alloc (.cells #[.int .i64 0, .int .i64 0, .slice none 0 0, .int .i64 0, .int .i64 0, .slice none 0 0] 45)).alloc (.cells #[.int .i64 0, .int .i64 0, .int .i64 0, .int .u64 0, .int .u64 0] 55)) (w.heap.size + 1 + 1) 45 #[.int .i64 0, .int .i64 0, .slice none 0 0, .int .i64 0, .int .i64 0, .slice none 0 0]) := mkHid ((Blk.at _ _ _ (by simp)).alloc _)
  have ZA : Hid (Blk ((((w.alloc (.cells #[.int .i64 m.h, .int .i64 m.cap, .slice A m.l.length c, .int .i64 m.n, .int .i64 m.draws, .slice B m.sent.length d] 45)).alloc (.cells #[.int .i64 1, .int .u64 (i : Int), .int .i64 n, .int .u64 (p1.toNat : Int), .int .u64 (p2.toNat : Int)] 53)).alloc (.cells #[.int .i64 0, .int .i64 0, .slice none 0 0, .int .i64 0, .int .i64 0, .slice none 0 0] 45)).alloc (.cells #[.int .i64 0, .int .i64 0, .int .i64 0, .int .u64 0, .int .u64 0] 55)) (w.heap.size + 1 + 1 + 1) 55 #[.int .i64 0, .int .i64 0, .int .i64 0, .int .u64 0, .int .u64 0]) := mkHid (Blk.at _ _ _ (by simp))
  have KB : Hid (Below w.heap.size w ((((w.alloc (.cells #[.int .i64 m.h, .int .i64 m.cap, .slice A m.l.length c, .int .i64 m.n, .int .i64 m.draws, .slice B m.sent.length d] 45)).alloc (.cells #[.int .i64 1, .int .u64 (i : Int), .int .i64 n, .int .u64 (p1.toNat : Int), .int .u64 (p2.toNat : Int)] 53)).alloc (.cells #[.int .i64 0, .int .i64 0, .slice none 0 0, .int .i64 0, .int .i64 0, .slice none 0 0] 45)).alloc (.cells #[.int .i64 0, .int .i64 0, .int .i64 0, .int .u64 0, .int .u64 0] 55))) := mkHid (((((Below.refl _ _).alloc (Nat.le_refl _) (.cells #[.int .i64 m.h, .int .i64 m.cap, .slice A m.l.length c, .int .i64 m.n, .int .i64 m.draws, .slice B m.sent.length d] 45)).alloc (by simp) (.cells #[.int .i64 1, .int .u64 (i : Int), .int .i64 n, .int .u64 (p1.toNat : Int), .int .u64 (p2.toNat : Int)] 53)).alloc (by simp; omega) (.cells #[.int .i64 0, .int .i64 0, .slice none 0 0, .int .i64 0, .int .i64 0, .slice none 0 0] 45)).alloc (by simp; omega) (.cells #[.int .i64 0, .int .i64 0, .int .i64 0, .int .u64 0, .int .u64 0] 55))
  have HM := mkHid (hM.below (((((Below.refl _ _).alloc (Nat.le_refl _) (.cells #[.int .i64 m.h, .int .i64 m.cap, .slice A m.l.length c, .int .i64 m.n, .int .i64 m.draws, .slice B m.sent.length d] 45)).alloc (by simp) (.cells #[.int .i64 1, .int .u64 (i : Int), .int .i64 n, .int .u64 (p1.toNat : Int), .int .u64 (p2.toNat : Int)] 53)).alloc (by simp; omega) (.cells #[.int .i64 0, .int .i64 0, .slice none 0 0, .int .i64 0, .int .i64 0, .slice none 0 0] 45)).alloc (by simp; omega) (.cells #[.int .i64 0, .int .i64 0, .int .i64 0, .int .u64 0, .int .u64 0] 55)))
  clear hM
  go_enter Try.func29, Try.ntmps29
  go_upto_region 1 with fail
  generalize ((((w.alloc (.cells #[.int .i64 m.h, .int .i64 m.cap, .slice A m.l.length c, .int .i64 m.n, .int .i64 m.draws, .slice B m.sent.length d] 45)).alloc (.cells #[.int .i64 1, .int .u64 (i : Int), .int .i64 n, .int .u64 (p1.toNat : Int), .int .u64 (p2.toNat : Int)] 53)).alloc (.cells #[.int .i64 0, .int .i64 0, .slice none 0 0, .int .i64 0, .int .i64 0, .slice none 0 0] 45)).alloc (.cells #[.int .i64 0, .int .i64 0, .int .i64 0, .int .u64 0, .int .u64 0] 55)) = w0 at *
  have lZA : w.heap.size + 1 + 1 + 1 < w0.heap.size := ZA.out.lt
  have cX := ZX.out.six
  have cP := ZP.out.five
  go_wp2_with fail
  refine (mchk e _ _ _ _ _ HM.out).mono ?_
  rintro e w1 ⟨rfl, hb⟩
  replace ZX := mkHid (ZX.out.keep hb)
  replace ZP := mkHid (ZP.out.keep hb)
  replace ZZ := mkHid (ZZ.out.keep hb)
  replace ZA := mkHid (ZA.out.keep hb)
  replace KB := mkHid (KB.out.step hb)
  replace HM := mkHid (HM.out.below hb)
  clear hb
  clear lZA cX cP
  have lZA : w.heap.size + 1 + 1 + 1 < w1.heap.size := ZA.out.lt
  have cX := ZX.out.six
  have cP := ZP.out.five
  go_wp2_with fail
  refine (mown HS.out.1 HS.out.2.1 HS.out.2.2 _ _ _ _ _ HM.out).mono ?_
  rintro e w2 ⟨⟨A1, c1, B1, d1, X1, rfl, ho⟩, hb⟩
  have HO := mkHid (ho.base (b := w.heap.size + 4) (by omega))
  clear ho HM
  replace ZX := mkHid (ZX.out.keep hb)
  replace ZP := mkHid (ZP.out.keep hb)
  replace ZZ := mkHid (ZZ.out.keep hb)
  replace ZA := mkHid (ZA.out.keep hb)
  replace KB := mkHid (KB.out.step hb)
  clear hb
  clear lZA cX cP
  have lZA : w.heap.size + 1 + 1 + 1 < w2.heap.size := ZA.out.lt
  have cX := ZX.out.six
  have cP := ZP.out.five
  have fX0 := ZX.out.frozen 0
  have fX1 := ZX.out.frozen 1
  have fX2 := ZX.out.frozen 2
  have fX3 := ZX.out.frozen 3
  have fX4 := ZX.out.frozen 4
  have fX5 := ZX.out.frozen 5
  go_upto_region 4 with fail
  replace ZX := mkHid (ZX.out.fill6 (b0 := .int .i64 m.h) (b1 := .int .i64 m.cap) (b2 := .slice A1 m.l.length c1) (b3 := .int .i64 m.n) (b4 := .int .i64 m.draws) (b5 := .slice B1 m.sent.length d1))
  replace ZP := mkHid (ZP.out.other6 (g := w.heap.size) (x0 := .int .i64 m.h) (x1 := .int .i64 m.cap) (x2 := .slice A1 m.l.length c1) (x3 := .int .i64 m.n) (x4 := .int .i64 m.draws) (x5 := .slice B1 m.sent.length d1) (by omega))
  replace ZZ := mkHid (ZZ.out.other6 (g := w.heap.size) (x0 := .int .i64 m.h) (x1 := .int .i64 m.cap) (x2 := .slice A1 m.l.length c1) (x3 := .int .i64 m.n) (x4 := .int .i64 m.draws) (x5 := .slice B1 m.sent.length d1) (by omega))
  replace ZA := mkHid (ZA.out.other6 (g := w.heap.size) (x0 := .int .i64 m.h) (x1 := .int .i64 m.cap) (x2 := .slice A1 m.l.length c1) (x3 := .int .i64 m.n) (x4 := .int .i64 m.draws) (x5 := .slice B1 m.sent.length d1) (by omega))
  replace KB := mkHid (below_six KB.out (Nat.le_refl _) (.int .i64 m.h) (.int .i64 m.cap) (.slice A1 m.l.length c1) (.int .i64 m.n) (.int .i64 m.draws) (.slice B1 m.sent.length d1))
  replace HO := mkHid (HO.out.past6 (g := w.heap.size) (by omega) (.int .i64 m.h) (.int .i64 m.cap) (.slice A1 m.l.length c1) (.int .i64 m.n) (.int .i64 m.draws) (.slice B1 m.sent.length d1))
  clear lZA cX cP fX0 fX1 fX2 fX3 fX4 fX5
  generalize ((((((w2.setCell ⟨w.heap.size, 0, none⟩ (.int .i64 m.h)).setCell ⟨w.heap.size, 1, none⟩ (.int .i64 m.cap)).setCell ⟨w.heap.size, 2, none⟩ (.slice A1 m.l.length c1)).setCell ⟨w.heap.size, 3, none⟩ (.int .i64 m.n)).setCell ⟨w.heap.size, 4, none⟩ (.int .i64 m.draws)).setCell ⟨w.heap.size, 5, none⟩ (.slice B1 m.sent.length d1)) = w3 at *
  have lZA : w.heap.size + 1 + 1 + 1 < w3.heap.size := ZA.out.lt
  have cX := ZX.out.six
  have cP := ZP.out.five
  have cA := ZA.out.five
  have HRd := mkHid HO.out.reads
  have fa := ZA.out.frozen 0
  go_wp2_with fail
  refine (cw_err_true f r0 r6 w.heap.size A1 c1 B1 d1 _ ZX.out HRd.out).mono ?_
  rintro e w4 ⟨rfl, hb⟩
  clear HRd fa
  replace ZX := mkHid (ZX.out.keep hb)
  replace ZP := mkHid (ZP.out.keep hb)
  replace ZZ := mkHid (ZZ.out.keep hb)
  replace ZA := mkHid (ZA.out.keep hb)
  replace KB := mkHid (KB.out.step hb)
  replace HO := mkHid (HO.out.below hb)
  clear hb
  clear lZA cX cP cA
  have lZA : w.heap.size + 1 + 1 + 1 < w4.heap.size := ZA.out.lt
  have cX := ZX.out.six
  have cP := ZP.out.five
  have cA := ZA.out.five
  have fa := ZA.out.frozen 0
  go_upto_region 23 with fail
  clear fa
  replace ZX : Hid (Blk (w4.setCell ⟨w.heap.size + 1 + 1 + 1, 0, none⟩ (.int .i64 r)) w.heap.size 45 #[.int .i64 m.h, .int .i64 m.cap, .slice A1 m.l.length c1, .int .i64 m.n, .int .i64 m.draws, .slice B1 m.sent.length d1]) := mkHid ((ZX.out.other _ (by omega)))
  replace ZP : Hid (Blk (w4.setCell ⟨w.heap.size + 1 + 1 + 1, 0, none⟩ (.int .i64 r)) (w.heap.size + 1) 53 #[.int .i64 1, .int .u64 (i : Int), .int .i64 n, .int .u64 (p1.toNat : Int), .int .u64 (p2.toNat : Int)]) := mkHid ((ZP.out.other _ (by omega)))
  replace ZZ : Hid (Blk (w4.setCell ⟨w.heap.size + 1 + 1 + 1, 0, none⟩ (.int .i64 r)) (w.heap.size + 1 + 1) 45 #[.int .i64 0, .int .i64 0, .slice none 0 0, .int .i64 0, .int .i64 0, .slice none 0 0]) := mkHid ((ZZ.out.other _ (by omega)))
  replace ZA : Hid (Blk (w4.setCell ⟨w.heap.size + 1 + 1 + 1, 0, none⟩ (.int .i64 r)) (w.heap.size + 1 + 1 + 1) 55 #[.int .i64 r, .int .i64 0, .int .i64 0, .int .u64 0, .int .u64 0]) := mkHid ((ZA.out.set 0 (.int .i64 r)))
  replace KB : Hid (Below w.heap.size w (w4.setCell ⟨w.heap.size + 1 + 1 + 1, 0, none⟩ (.int .i64 r))) := mkHid ((KB.out.setCell (by show w.heap.size ≤ w.heap.size + 1 + 1 + 1; omega) _))
  replace HO := mkHid ((HO.out.past (g := w.heap.size + 1 + 1 + 1) (by omega) 0 (.int .i64 r)))
  generalize (w4.setCell ⟨w.heap.size + 1 + 1 + 1, 0, none⟩ (.int .i64 r)) = w5 at *
  clear lZA cX cP cA
  have lZA : w.heap.size + 1 + 1 + 1 < w5.heap.size := ZA.out.lt
  have cX := ZX.out.six
  have cP := ZP.out.five
  have cA := ZA.out.five
  replace ZX : Hid (Blk w5.drew _ _ _) := mkHid ZX.out.drew
  replace ZA : Hid (Blk w5.drew _ _ _) := mkHid ZA.out.drew
  replace ZZ : Hid (Blk w5.drew _ _ _) := mkHid ZZ.out.drew
  replace KB : Hid (Below w.heap.size w w5.drew) := mkHid KB.out.drew
  replace HO := mkHid (HO.out.below (Below.drew (Below.refl _ w5)))
  clear cX cP cA
  have cZ := ZZ.out.six
  have cA := ZA.out.five
  have gz0 := ZZ.out.frozen 0
  have gz1 := ZZ.out.frozen 1
  have gz2 := ZZ.out.frozen 2
  have gz3 := ZZ.out.frozen 3
  have gz4 := ZZ.out.frozen 4
  have gz5 := ZZ.out.frozen 5
  have ga0 := ZA.out.frozen 0
  have ga1 := ZA.out.frozen 1
  have ga2 := ZA.out.frozen 2
  have ga3 := ZA.out.frozen 3
  have ga4 := ZA.out.frozen 4
  clear ZP
  refine wp_region_late (late := fun i => decide (3 ≤ i)) (S := fun w' => Hid (Blk w' w.heap.size 45 #[.int .i64 m.h, .int .i64 m.cap, .slice A1 m.l.length c1, .int .i64 m.n, .int .i64 m.draws, .slice B1 m.sent.length d1]) ∧ Hid (Blk w' (w.heap.size + 1 + 1 + 1) 55 #[.int .i64 r, .int .i64 0, .int .i64 0, .int .u64 0, .int .u64 0])) (by kernel_rfl) ?_ (fun hHeld => ?_)
  · ((try dsimp only); refine ⟨?_, ?_⟩ <;> first | with_reducible assumption | (with_reducible refine mkHid (Blk.other6 (Hid.out ?_) ?_) <;> first | with_reducible assumption | omega))
  generalize w5.drew = u at *
  refine Any.take (i := 0) (v := ?_) rfl (by kernel_rfl) (by kernel_rfl) (by kernel_rfl) (by kernel_rfl) (fun _ _ _ h => h) (Or.inl ⟨by rfl, ?_⟩) hHeld ?_
  rotate_left
  · intro w hSw
    (try dsimp only at hSw)
    have q := hSw.1.out.six
    clear hSw
    go_simp
    all_goals with_reducible rfl
  try simp only [List.getElem_toArray, List.getElem_cons_succ, List.getElem_cons_zero, Act.put, List.setIfInBounds_toArray, List.set_cons_zero, List.set_cons_succ]
  refine Any.take (i := 1) (v := ?_) rfl (by kernel_rfl) (by kernel_rfl) (by kernel_rfl) (by kernel_rfl) (fun _ _ _ h => h) (Or.inl ⟨by rfl, ?_⟩) hHeld ?_
  rotate_left
  · intro w hSw
    (try dsimp only at hSw)
    have q := hSw.2.out.five
    clear hSw
    go_simp
    all_goals with_reducible rfl
  try simp only [List.getElem_toArray, List.getElem_cons_succ, List.getElem_cons_zero, Act.put, List.setIfInBounds_toArray, List.set_cons_zero, List.set_cons_succ]
  refine Any.ready (rs := [2]) (by kernel_rfl) (by simp) ?_
  refine AllAny.cons rfl rfl (fun K hK => ?_) AllAny.nil
  go_simp
  refine hK.out _ _ ?_ (fun hHeld => ?_)
  · ((try dsimp only); refine ⟨?_, ?_⟩ <;> first | with_reducible assumption | (with_reducible refine mkHid (Blk.other6 (Hid.out ?_) ?_) <;> first | with_reducible assumption | omega))
  clear hK K
  try simp only [List.getElem_toArray, List.getElem_cons_succ, List.getElem_cons_zero, Act.put, List.setIfInBounds_toArray, List.set_cons_zero, List.set_cons_succ]
  refine Any.ready (rs := [3]) (by kernel_rfl) (by simp) ?_
  refine AllAny.lateCons rfl rfl (fun K hK => ?_) AllAny.nil
  go_simp
  refine hK.out _ _ ?_
  clear hK K
  try simp only [List.getElem_toArray, List.getElem_cons_succ, List.getElem_cons_zero, Act.put, List.setIfInBounds_toArray, List.set_cons_zero, List.set_cons_succ]
  refine Any.ready (rs := [4]) (by kernel_rfl) (by simp) ?_
  refine AllAny.lateCons rfl rfl (fun K hK => ?_) AllAny.nil
  go_simp
  refine hK.out _ _ ?_
  clear hK K
  try simp only [List.getElem_toArray, List.getElem_cons_succ, List.getElem_cons_zero, Act.put, List.setIfInBounds_toArray, List.set_cons_zero, List.set_cons_succ]
  refine Any.done (by kernel_rfl) ?_ _
  have qR := ((ZZ.out.fill6 (b0 := .int .i64 m.h) (b1 := .int .i64 m.cap) (b2 := .slice A1 m.l.length c1) (b3 := .int .i64 m.n) (b4 := .int .i64 m.draws) (b5 := .slice B1 m.sent.length d1)).other5 (g := w.heap.size + 1 + 1 + 1) (x0 := .int .i64 r) (x1 := .int .i64 0) (x2 := .int .i64 0) (x3 := .int .u64 0) (x4 := .int .u64 0) (by omega)).six
  have qA := ((ZA.out.other6 (g := w.heap.size + 1 + 1) (x0 := .int .i64 m.h) (x1 := .int .i64 m.cap) (x2 := .slice A1 m.l.length c1) (x3 := .int .i64 m.n) (x4 := .int .i64 m.draws) (x5 := .slice B1 m.sent.length d1) (by omega)).fill5 (b0 := .int .i64 r) (b1 := .int .i64 0) (b2 := .int .i64 0) (b3 := .int .u64 0) (b4 := .int .u64 0)).five
  go_wp2_with fail
  refine bodyPost_ret (v := .tuple #[.agg #[.int .i64 m.h, .int .i64 m.cap, .slice A1 m.l.length c1, .int .i64 m.n, .int .i64 m.draws, .slice B1 m.sent.length d1], .agg #[.int .i64 r, .int .i64 0, .int .i64 0, .int .u64 0, .int .u64 0], .int .i64 0]) (by simp [results, Try.results29, go_sem, qR, qA]) rfl ⟨_, _, _, _, X1, rfl, OwnM.base (b' := w.heap.size + 4) ?_ (by omega), below_five (below_six KB.out (by omega) _ _ _ _ _ _) (by omega) _ _ _ _ _⟩
  exact (HO.out.past6 (by omega) _ _ _ _ _ _).past5 (by omega) _ _ _ _ _

set_option linter.unusedSimpArgs false in
set_option maxRecDepth 100000 in
set_option maxHeartbeats 4000000 in
theorem do1_err_false {m : ModD} {i : Nat} {n : Int} {p1 p2 : BitVec 64} (e : Hid ((if okM m then (0 : Int) else 1) = 0)) {L : List Nat} {r : Int} (f : Hid (withAll m.h m.l i = (L, r))) (r0 : r ≠ 0) (r6 : r ≠ 6) (h1 : ¬ (m.l.length : Int) < m.cap) (A : Option Addr) (c : Nat) (B : Option Addr) (d : Nat) (w : World) (hM : MemM w A c B d m) :
    Calls Try.prog 29 #[.agg #[.int .i64 m.h, .int .i64 m.cap, .slice A m.l.length c, .int .i64 m.n, .int .i64 m.draws, .slice B m.sent.length d], .agg #[.int .i64 1, .int .u64 (i : Int), .int .i64 n, .int .u64 (p1.toNat : Int), .int .u64 (p2.toNat : Int)]] w (DoPost m (ansE r) 0 w) := by
  have HS := mkHid (okM_sizes (m := m) (by cases hk : okM m with | true => rfl | false => exact absurd e.out (by rw [hk]; simp)))
  have t1 : decide ((m.l.length : Int) < m.cap) = false := decide_eq_false h1
  have ZX : Hid (Blk ((((w.alloc (.cells #[.int .i64 m.h, .int .i64 m.cap, .slice A m.l.length c, .int .i64 m.n, .int .i64 m.draws, .slice B m.sent.length d] 45)).alloc (.cells #[.int .i64 1, .int .u64 (i : Int), .int .i64 n, .int .u64 (p1.toNat : Int), .int .u64 (p2.toNat : Int)] 53)).alloc (.cells #[.int .i64 0, .int .i64 0, .slice none 0 0, .int .i64 0, .int .i64 0, .slice none 0 0] 45)).alloc (.cells #[.int .i64 0, .int .i64 0, .int .i64 0, .int .u64 0, .int .u64 0] 55)) w.heap.size 45 #[.int .i64 m.h, .int .i64 m.cap, .slice A m.l.length c, .int .i64 m.n, .int .i64 m.draws, .slice B m.sent.length d]) := mkHid ((((Blk.new _ _ _).alloc _).alloc _).alloc _)
  have ZP : Hid (Blk ((((w.alloc (.cells #[.int .i64 m.h, .int .i64 m.cap, .slice A m.l.length c, .int .i64 m.n, .int .i64 m.draws, .slice B m.sent.length d] 45)).alloc (.cells #[.int .i64 1, .int .u64 (i : Int), .int .i64 n, .int .u64 (p1.toNat : Int), .int .u64 (p2.toNat : Int)] 53)).alloc (.cells #[.int .i64 0, .int .i64 0, .slice none 0 0, .int .i64 0, .int .i64 0, .slice none 0 0] 45)).alloc (.cells #[.int .i64 0, .int .i64 0, .int .i64 0, .int .u64 0, .int .u64 0] 55)) (w.heap.size + 1) 53 #[.int .i64 1, .int .u64 (i : Int), .int .i64 n, .int .u64 (p1.toNat : Int), .int .u64 (p2.toNat : Int)]) := mkHid (((Blk.at _ _ _ (by simp)).alloc _).alloc _)
  have ZZ : Hid (Blk ((((w.alloc (.cells #[.int .i64 m.h, .int .i64 m.cap, .slice A m.l.length c, .int .i64 m.n, .int .i64 m.draws, .slice B m.sent.length d] 45)).alloc (.cells #[.int .i64 1, .int .u64 (i : Int), .int .i64 n, .int .u64 (p1.toNat : Int), .int .u64 (p2.toNat : Int)] 53)).alloc (.cells #[.int .i64 0, .int .i64 0, .slice none 0 0, .int .i64 0, .int .i64 0, .slice none 0 0] 45)).alloc (.cells #[.int .i64 0, .int .i64 0, .int .i64 0, .int .u64 0, .int .u64 0] 55)) (w.heap.size + 1 + 1) 45 #[.int .i64 0, .int .i64 0, .slice none 0 0, .int .i64 0, .int .i64 0, .slice none 0 0]) := mkHid ((Blk.at _ _ _ (by simp)).alloc _)
  have ZA : Hid (Blk ((((w.alloc (.cells #[.int .i64 m.h, .int .i64 m.cap, .slice A m.l.length c, .int .i64 m.n, .int .i64 m.draws, .slice B m.sent.length d] 45)).alloc (.cells #[.int .i64 1, .int .u64 (i : Int), .int .i64 n, .int .u64 (p1.toNat : Int), .int .u64 (p2.toNat : Int)] 53)).alloc (.cells #[.int .i64 0, .int .i64 0, .slice none 0 0, .int .i64 0, .int .i64 0, .slice none 0 0] 45)).alloc (.cells #[.int .i64 0, .int .i64 0, .int .i64 0, .int .u64 0, .int .u64 0] 55)) (w.heap.size + 1 + 1 + 1) 55 #[.int .i64 0, .int .i64 0, .int .i64 0, .int .u64 0, .int .u64 0]) := mkHid (Blk.at _ _ _ (by simp))
  have KB : Hid (Below w.heap.size w ((((w.alloc (.cells #[.int .i64 m.h, .int .i64 m.cap, .slice A m.l.length c, .int .i64 m.n, .int .i64 m.draws, .slice B m.sent.length d] 45)).alloc (.cells #[.int .i64 1, .int .u64 (i : Int), .int .i64 n, .int .u64 (p1.toNat : Int), .int .u64 (p2.toNat : Int)] 53)).alloc (.cells #[.int .i64 0, .int .i64 0, .slice none 0 0, .int .i64 0, .int .i64 0, .slice none 0 0] 45)).alloc (.cells #[.int .i64 0, .int .i64 0, .int .i64 0, .int .u64 0, .int .u64 0] 55))) := mkHid (((((Below.refl _ _).alloc (Nat.le_refl _) (.cells #[.int .i64 m.h, .int .i64 m.cap, .slice A m.l.length c, .int .i64 m.n, .int .i64 m.draws, .slice B m.sent.length d] 45)).alloc (by simp) (.cells #[.int .i64 1, .int .u64 (i : Int), .int .i64 n, .int .u64 (p1.toNat : Int), .int .u64 (p2.toNat : Int)] 53)).alloc (by simp; omega) (.cells #[.int .i64 0, .int .i64 0, .slice none 0 0, .int .i64 0, .int .i64 0, .slice none 0 0] 45)).alloc (by simp; omega) (.cells #[.int .i64 0, .int .i64 0, .int .i64 0, .int .u64 0, .int .u64 0] 55))
  have HM := mkHid (hM.below (((((Below.refl _ _).alloc (Nat.le_refl _) (.cells #[.int .i64 m.h, .int .i64 m.cap, .slice A m.l.length c, .int .i64 m.n, .int .i64 m.draws, .slice B m.sent.length d] 45)).alloc (by simp) (.cells #[.int .i64 1, .int .u64 (i : Int), .int .i64 n, .int .u64 (p1.toNat : Int), .int .u64 (p2.toNat : Int)] 53)).alloc (by simp; omega) (.cells #[.int .i64 0, .int .i64 0, .slice none 0 0, .int .i64 0, .int .i64 0, .slice none 0 0] 45)).alloc (by simp; omega) (.cells #[.int .i64 0, .int .i64 0, .int .i64 0, .int .u64 0, .int .u64 0] 55)))
  clear hM
  go_enter Try.func29, Try.ntmps29
  go_upto_region 1 with fail
  generalize ((((w.alloc (.cells #[.int .i64 m.h, .int .i64 m.cap, .slice A m.l.length c, .int .i64 m.n, .int .i64 m.draws, .slice B m.sent.length d] 45)).alloc (.cells #[.int .i64 1, .int .u64 (i : Int), .int .i64 n, .int .u64 (p1.toNat : Int), .int .u64 (p2.toNat : Int)] 53)).alloc (.cells #[.int .i64 0, .int .i64 0, .slice none 0 0, .int .i64 0, .int .i64 0, .slice none 0 0] 45)).alloc (.cells #[.int .i64 0, .int .i64 0, .int .i64 0, .int .u64 0, .int .u64 0] 55)) = w0 at *
  have lZA : w.heap.size + 1 + 1 + 1 < w0.heap.size := ZA.out.lt
  have cX := ZX.out.six
  have cP := ZP.out.five
  go_wp2_with fail
  refine (mchk e _ _ _ _ _ HM.out).mono ?_
  rintro e w1 ⟨rfl, hb⟩
  replace ZX := mkHid (ZX.out.keep hb)
  replace ZP := mkHid (ZP.out.keep hb)
  replace ZZ := mkHid (ZZ.out.keep hb)
  replace ZA := mkHid (ZA.out.keep hb)
  replace KB := mkHid (KB.out.step hb)
  replace HM := mkHid (HM.out.below hb)
  clear hb
  clear lZA cX cP
  have lZA : w.heap.size + 1 + 1 + 1 < w1.heap.size := ZA.out.lt
  have cX := ZX.out.six
  have cP := ZP.out.five
  go_wp2_with fail
  refine (mown HS.out.1 HS.out.2.1 HS.out.2.2 _ _ _ _ _ HM.out).mono ?_
  rintro e w2 ⟨⟨A1, c1, B1, d1, X1, rfl, ho⟩, hb⟩
  have HO := mkHid (ho.base (b := w.heap.size + 4) (by omega))
  clear ho HM
  replace ZX := mkHid (ZX.out.keep hb)
  replace ZP := mkHid (ZP.out.keep hb)
  replace ZZ := mkHid (ZZ.out.keep hb)
  replace ZA := mkHid (ZA.out.keep hb)
  replace KB := mkHid (KB.out.step hb)
  clear hb
  clear lZA cX cP
  have lZA : w.heap.size + 1 + 1 + 1 < w2.heap.size := ZA.out.lt
  have cX := ZX.out.six
  have cP := ZP.out.five
  have fX0 := ZX.out.frozen 0
  have fX1 := ZX.out.frozen 1
  have fX2 := ZX.out.frozen 2
  have fX3 := ZX.out.frozen 3
  have fX4 := ZX.out.frozen 4
  have fX5 := ZX.out.frozen 5
  go_upto_region 4 with fail
  replace ZX := mkHid (ZX.out.fill6 (b0 := .int .i64 m.h) (b1 := .int .i64 m.cap) (b2 := .slice A1 m.l.length c1) (b3 := .int .i64 m.n) (b4 := .int .i64 m.draws) (b5 := .slice B1 m.sent.length d1))
  replace ZP := mkHid (ZP.out.other6 (g := w.heap.size) (x0 := .int .i64 m.h) (x1 := .int .i64 m.cap) (x2 := .slice A1 m.l.length c1) (x3 := .int .i64 m.n) (x4 := .int .i64 m.draws) (x5 := .slice B1 m.sent.length d1) (by omega))
  replace ZZ := mkHid (ZZ.out.other6 (g := w.heap.size) (x0 := .int .i64 m.h) (x1 := .int .i64 m.cap) (x2 := .slice A1 m.l.length c1) (x3 := .int .i64 m.n) (x4 := .int .i64 m.draws) (x5 := .slice B1 m.sent.length d1) (by omega))
  replace ZA := mkHid (ZA.out.other6 (g := w.heap.size) (x0 := .int .i64 m.h) (x1 := .int .i64 m.cap) (x2 := .slice A1 m.l.length c1) (x3 := .int .i64 m.n) (x4 := .int .i64 m.draws) (x5 := .slice B1 m.sent.length d1) (by omega))
  replace KB := mkHid (below_six KB.out (Nat.le_refl _) (.int .i64 m.h) (.int .i64 m.cap) (.slice A1 m.l.length c1) (.int .i64 m.n) (.int .i64 m.draws) (.slice B1 m.sent.length d1))
  replace HO := mkHid (HO.out.past6 (g := w.heap.size) (by omega) (.int .i64 m.h) (.int .i64 m.cap) (.slice A1 m.l.length c1) (.int .i64 m.n) (.int .i64 m.draws) (.slice B1 m.sent.length d1))
  clear lZA cX cP fX0 fX1 fX2 fX3 fX4 fX5
  generalize ((((((w2.setCell ⟨w.heap.size, 0, none⟩ (.int .i64 m.h)).setCell ⟨w.heap.size, 1, none⟩ (.int .i64 m.cap)).setCell ⟨w.heap.size, 2, none⟩ (.slice A1 m.l.length c1)).setCell ⟨w.heap.size, 3, none⟩ (.int .i64 m.n)).setCell ⟨w.heap.size, 4, none⟩ (.int .i64 m.draws)).setCell ⟨w.heap.size, 5, none⟩ (.slice B1 m.sent.length d1)) = w3 at *
  have lZA : w.heap.size + 1 + 1 + 1 < w3.heap.size := ZA.out.lt
  have cX := ZX.out.six
  have cP := ZP.out.five
  have cA := ZA.out.five
  have HRd := mkHid HO.out.reads
  have fa := ZA.out.frozen 0
  go_wp2_with fail
  refine (cw_err_false f r0 r6 w.heap.size A1 c1 B1 d1 _ ZX.out HRd.out).mono ?_
  rintro e w4 ⟨rfl, hb⟩
  clear HRd fa
  replace ZX := mkHid (ZX.out.keep hb)
  replace ZP := mkHid (ZP.out.keep hb)
  replace ZZ := mkHid (ZZ.out.keep hb)
  replace ZA := mkHid (ZA.out.keep hb)
  replace KB := mkHid (KB.out.step hb)
  replace HO := mkHid (HO.out.below hb)
  clear hb
  clear lZA cX cP cA
  have lZA : w.heap.size + 1 + 1 + 1 < w4.heap.size := ZA.out.lt
  have cX := ZX.out.six
  have cP := ZP.out.five
  have cA := ZA.out.five
  have fa := ZA.out.frozen 0
  go_upto_region 23 with fail
  clear fa
  replace ZX : Hid (Blk (w4.setCell ⟨w.heap.size + 1 + 1 + 1, 0, none⟩ (.int .i64 r)) w.heap.size 45 #[.int .i64 m.h, .int .i64 m.cap, .slice A1 m.l.length c1, .int .i64 m.n, .int .i64 m.draws, .slice B1 m.sent.length d1]) := mkHid ((ZX.out.other _ (by omega)))
  replace ZP : Hid (Blk (w4.setCell ⟨w.heap.size + 1 + 1 + 1, 0, none⟩ (.int .i64 r)) (w.heap.size + 1) 53 #[.int .i64 1, .int .u64 (i : Int), .int .i64 n, .int .u64 (p1.toNat : Int), .int .u64 (p2.toNat : Int)]) := mkHid ((ZP.out.other _ (by omega)))
  replace ZZ : Hid (Blk (w4.setCell ⟨w.heap.size + 1 + 1 + 1, 0, none⟩ (.int .i64 r)) (w.heap.size + 1 + 1) 45 #[.int .i64 0, .int .i64 0, .slice none 0 0, .int .i64 0, .int .i64 0, .slice none 0 0]) := mkHid ((ZZ.out.other _ (by omega)))
  replace ZA : Hid (Blk (w4.setCell ⟨w.heap.size + 1 + 1 + 1, 0, none⟩ (.int .i64 r)) (w.heap.size + 1 + 1 + 1) 55 #[.int .i64 r, .int .i64 0, .int .i64 0, .int .u64 0, .int .u64 0]) := mkHid ((ZA.out.set 0 (.int .i64 r)))
  replace KB : Hid (Below w.heap.size w (w4.setCell ⟨w.heap.size + 1 + 1 + 1, 0, none⟩ (.int .i64 r))) := mkHid ((KB.out.setCell (by show w.heap.size ≤ w.heap.size + 1 + 1 + 1; omega) _))
  replace HO := mkHid ((HO.out.past (g := w.heap.size + 1 + 1 + 1) (by omega) 0 (.int .i64 r)))
  generalize (w4.setCell ⟨w.heap.size + 1 + 1 + 1, 0, none⟩ (.int .i64 r)) = w5 at *
  clear lZA cX cP cA
  have lZA : w.heap.size + 1 + 1 + 1 < w5.heap.size := ZA.out.lt
  have cX := ZX.out.six
  have cP := ZP.out.five
  have cA := ZA.out.five
  replace ZX : Hid (Blk w5.drew _ _ _) := mkHid ZX.out.drew
  replace ZA : Hid (Blk w5.drew _ _ _) := mkHid ZA.out.drew
  replace ZZ : Hid (Blk w5.drew _ _ _) := mkHid ZZ.out.drew
  replace KB : Hid (Below w.heap.size w w5.drew) := mkHid KB.out.drew
  replace HO := mkHid (HO.out.below (Below.drew (Below.refl _ w5)))
  clear cX cP cA
  have cZ := ZZ.out.six
  have cA := ZA.out.five
  have gz0 := ZZ.out.frozen 0
  have gz1 := ZZ.out.frozen 1
  have gz2 := ZZ.out.frozen 2
  have gz3 := ZZ.out.frozen 3
  have gz4 := ZZ.out.frozen 4
  have gz5 := ZZ.out.frozen 5
  have ga0 := ZA.out.frozen 0
  have ga1 := ZA.out.frozen 1
  have ga2 := ZA.out.frozen 2
  have ga3 := ZA.out.frozen 3
  have ga4 := ZA.out.frozen 4
  clear ZP
  refine wp_region_late (late := fun i => decide (3 ≤ i)) (S := fun w' => Hid (Blk w' w.heap.size 45 #[.int .i64 m.h, .int .i64 m.cap, .slice A1 m.l.length c1, .int .i64 m.n, .int .i64 m.draws, .slice B1 m.sent.length d1]) ∧ Hid (Blk w' (w.heap.size + 1 + 1 + 1) 55 #[.int .i64 r, .int .i64 0, .int .i64 0, .int .u64 0, .int .u64 0])) (by kernel_rfl) ?_ (fun hHeld => ?_)
  · ((try dsimp only); refine ⟨?_, ?_⟩ <;> first | with_reducible assumption | (with_reducible refine mkHid (Blk.other6 (Hid.out ?_) ?_) <;> first | with_reducible assumption | omega))
  generalize w5.drew = u at *
  refine Any.take (i := 0) (v := ?_) rfl (by kernel_rfl) (by kernel_rfl) (by kernel_rfl) (by kernel_rfl) (fun _ _ _ h => h) (Or.inl ⟨by rfl, ?_⟩) hHeld ?_
  rotate_left
  · intro w hSw
    (try dsimp only at hSw)
    have q := hSw.1.out.six
    clear hSw
    go_simp
    all_goals with_reducible rfl
  try simp only [List.getElem_toArray, List.getElem_cons_succ, List.getElem_cons_zero, Act.put, List.setIfInBounds_toArray, List.set_cons_zero, List.set_cons_succ]
  refine Any.take (i := 1) (v := ?_) rfl (by kernel_rfl) (by kernel_rfl) (by kernel_rfl) (by kernel_rfl) (fun _ _ _ h => h) (Or.inl ⟨by rfl, ?_⟩) hHeld ?_
  rotate_left
  · intro w hSw
    (try dsimp only at hSw)
    have q := hSw.2.out.five
    clear hSw
    go_simp
    all_goals with_reducible rfl
  try simp only [List.getElem_toArray, List.getElem_cons_succ, List.getElem_cons_zero, Act.put, List.setIfInBounds_toArray, List.set_cons_zero, List.set_cons_succ]
  refine Any.ready (rs := [2]) (by kernel_rfl) (by simp) ?_
  refine AllAny.cons rfl rfl (fun K hK => ?_) AllAny.nil
  go_simp
  refine hK.out _ _ ?_ (fun hHeld => ?_)
  · ((try dsimp only); refine ⟨?_, ?_⟩ <;> first | with_reducible assumption | (with_reducible refine mkHid (Blk.other6 (Hid.out ?_) ?_) <;> first | with_reducible assumption | omega))
  clear hK K
  try simp only [List.getElem_toArray, List.getElem_cons_succ, List.getElem_cons_zero, Act.put, List.setIfInBounds_toArray, List.set_cons_zero, List.set_cons_succ]
  refine Any.ready (rs := [3]) (by kernel_rfl) (by simp) ?_
  refine AllAny.lateCons rfl rfl (fun K hK => ?_) AllAny.nil
  go_simp
  refine hK.out _ _ ?_
  clear hK K
  try simp only [List.getElem_toArray, List.getElem_cons_succ, List.getElem_cons_zero, Act.put, List.setIfInBounds_toArray, List.set_cons_zero, List.set_cons_succ]
  refine Any.ready (rs := [4]) (by kernel_rfl) (by simp) ?_
  refine AllAny.lateCons rfl rfl (fun K hK => ?_) AllAny.nil
  go_simp
  refine hK.out _ _ ?_
  clear hK K
  try simp only [List.getElem_toArray, List.getElem_cons_succ, List.getElem_cons_zero, Act.put, List.setIfInBounds_toArray, List.set_cons_zero, List.set_cons_succ]
  refine Any.done (by kernel_rfl) ?_ _
  have qR := ((ZZ.out.fill6 (b0 := .int .i64 m.h) (b1 := .int .i64 m.cap) (b2 := .slice A1 m.l.length c1) (b3 := .int .i64 m.n) (b4 := .int .i64 m.draws) (b5 := .slice B1 m.sent.length d1)).other5 (g := w.heap.size + 1 + 1 + 1) (x0 := .int .i64 r) (x1 := .int .i64 0) (x2 := .int .i64 0) (x3 := .int .u64 0) (x4 := .int .u64 0) (by omega)).six
  have qA := ((ZA.out.other6 (g := w.heap.size + 1 + 1) (x0 := .int .i64 m.h) (x1 := .int .i64 m.cap) (x2 := .slice A1 m.l.length c1) (x3 := .int .i64 m.n) (x4 := .int .i64 m.draws) (x5 := .slice B1 m.sent.length d1) (by omega)).fill5 (b0 := .int .i64 r) (b1 := .int .i64 0) (b2 := .int .i64 0) (b3 := .int .u64 0) (b4 := .int .u64 0)).five
  go_wp2_with fail
  refine bodyPost_ret (v := .tuple #[.agg #[.int .i64 m.h, .int .i64 m.cap, .slice A1 m.l.length c1, .int .i64 m.n, .int .i64 m.draws, .slice B1 m.sent.length d1], .agg #[.int .i64 r, .int .i64 0, .int .i64 0, .int .u64 0, .int .u64 0], .int .i64 0]) (by simp [results, Try.results29, go_sem, qR, qA]) rfl ⟨_, _, _, _, X1, rfl, OwnM.base (b' := w.heap.size + 4) ?_ (by omega), below_five (below_six KB.out (by omega) _ _ _ _ _ _) (by omega) _ _ _ _ _⟩
  exact (HO.out.past6 (by omega) _ _ _ _ _ _).past5 (by omega) _ _ _ _ _

set_option linter.unusedSimpArgs false in
set_option maxRecDepth 100000 in
set_option maxHeartbeats 4000000 in
theorem do1_full0 {m : ModD} {i : Nat} {n : Int} {p1 p2 : BitVec 64} (e : Hid ((if okM m then (0 : Int) else 1) = 0)) {L : List Nat} (f : Hid (withAll m.h m.l i = (L, 0))) (h1 : ¬ (m.l.length : Int) < m.cap) (A : Option Addr) (c : Nat) (B : Option Addr) (d : Nat) (w : World) (hM : MemM w A c B d m) :
    Calls Try.prog 29 #[.agg #[.int .i64 m.h, .int .i64 m.cap, .slice A m.l.length c, .int .i64 m.n, .int .i64 m.draws, .slice B m.sent.length d], .agg #[.int .i64 1, .int .u64 (i : Int), .int .i64 n, .int .u64 (p1.toNat : Int), .int .u64 (p2.toNat : Int)]] w (DoPost m (ansE 6) 0 w) := by
  have HS := mkHid (okM_sizes (m := m) (by cases hk : okM m with | true => rfl | false => exact absurd e.out (by rw [hk]; simp)))
  have t1 : decide ((m.l.length : Int) < m.cap) = false := decide_eq_false h1
  have ZX : Hid (Blk ((((w.alloc (.cells #[.int .i64 m.h, .int .i64 m.cap, .slice A m.l.length c, .int .i64 m.n, .int .i64 m.draws, .slice B m.sent.length d] 45)).alloc (.cells #[.int .i64 1, .int .u64 (i : Int), .int .i64 n, .int .u64 (p1.toNat : Int), .int .u64 (p2.toNat : Int)] 53)).alloc (.cells #[.int .i64 0, .int .i64 0, .slice none 0 0, .int .i64 0, .int .i64 0, .slice none 0 0] 45)).alloc (.cells #[.int .i64 0, .int .i64 0, .int .i64 0, .int .u64 0, .int .u64 0] 55)) w.heap.size 45 #[.int .i64 m.h, .int .i64 m.cap, .slice A m.l.length c, .int .i64 m.n, .int .i64 m.draws, .slice B m.sent.length d]) := mkHid ((((Blk.new _ _ _).alloc _).alloc _).alloc _)
  have ZP : Hid (Blk ((((w.alloc (.cells #[.int .i64 m.h, .int .i64 m.cap, .slice A m.l.length c, .int .i64 m.n, .int .i64 m.draws, .slice B m.sent.length d] 45)).alloc (.cells #[.int .i64 1, .int .u64 (i : Int), .int .i64 n, .int .u64 (p1.toNat : Int), .int .u64 (p2.toNat : Int)] 53)).alloc (.cells #[.int .i64 0, .int .i64 0, .slice none 0 0, .int .i64 0, .int .i64 0, .slice none 0 0] 45)).alloc (.cells #[.int .i64 0, .int .i64 0, .int .i64 0, .int .u64 0, .int .u64 0] 55)) (w.heap.size + 1) 53 #[.int .i64 1, .int .u64 (i : Int), .int .i64 n, .int .u64 (p1.toNat : Int), .int .u64 (p2.toNat : Int)]) := mkHid (((Blk.at _ _ _ (by simp)).alloc _).alloc _)
  have ZZ : Hid (Blk ((((w.alloc (.cells #[.int .i64 m.h, .int .i64 m.cap, .slice A m.l.length c, .int .i64 m.n, .int .i64 m.draws, .slice B m.sent.length d] 45)).alloc (.cells #[.int .i64 1, .int .u64 (i : Int), .int .i64 n, .int .u64 (p1.toNat : Int), .int .u64 (p2.toNat : Int)] 53)).alloc (.cells #[.int .i64 0, .int .i64 0, .slice none 0 0, .int .i64 0, .int .i64 0, .slice none 0 0] 45)).alloc (.cells #[.int .i64 0, .int .i64 0, .int .i64 0, .int .u64 0, .int .u64 0] 55)) (w.heap.size + 1 + 1) 45 #[.int .i64 0, .int .i64 0, .slice none 0 0, .int .i64 0, .int .i64 0, .slice none 0 0]) := mkHid ((Blk.at _ _ _ (by simp)).alloc _)
  have ZA : Hid (Blk ((((w.alloc (.cells #[.int .i64 m.h, .int .i64 m.cap, .slice A m.l.length c, .int .i64 m.n, .int .i64 m.draws, .slice B m.sent.length d] 45)).alloc (.cells #[.int .i64 1, .int .u64 (i : Int), .int .i64 n, .int .u64 (p1.toNat : Int), .int .u64 (p2.toNat : Int)] 53)).alloc (.cells #[.int .i64 0, .int .i64 0, .slice none 0 0, .int .i64 0, .int .i64 0, .slice none 0 0] 45)).alloc (.cells #[.int .i64 0, .int .i64 0, .int .i64 0, .int .u64 0, .int .u64 0] 55)) (w.heap.size + 1 + 1 + 1) 55 #[.int .i64 0, .int .i64 0, .int .i64 0, .int .u64 0, .int .u64 0]) := mkHid (Blk.at _ _ _ (by simp))
  have KB : Hid (Below w.heap.size w ((((w.alloc (.cells #[.int .i64 m.h, .int .i64 m.cap, .slice A m.l.length c, .int .i64 m.n, .int .i64 m.draws, .slice B m.sent.length d] 45)).alloc (.cells #[.int .i64 1, .int .u64 (i : Int), .int .i64 n, .int .u64 (p1.toNat : Int), .int .u64 (p2.toNat : Int)] 53)).alloc (.cells #[.int .i64 0, .int .i64 0, .slice none 0 0, .int .i64 0, .int .i64 0, .slice none 0 0] 45)).alloc (.cells #[.int .i64 0, .int .i64 0, .int .i64 0, .int .u64 0, .int .u64 0] 55))) := mkHid (((((Below.refl _ _).alloc (Nat.le_refl _) (.cells #[.int .i64 m.h, .int .i64 m.cap, .slice A m.l.length c, .int .i64 m.n, .int .i64 m.draws, .slice B m.sent.length d] 45)).alloc (by simp) (.cells #[.int .i64 1, .int .u64 (i : Int), .int .i64 n, .int .u64 (p1.toNat : Int), .int .u64 (p2.toNat : Int)] 53)).alloc (by simp; omega) (.cells #[.int .i64 0, .int .i64 0, .slice none 0 0, .int .i64 0, .int .i64 0, .slice none 0 0] 45)).alloc (by simp; omega) (.cells #[.int .i64 0, .int .i64 0, .int .i64 0, .int .u64 0, .int .u64 0] 55))
  have HM := mkHid (hM.below (((((Below.refl _ _).alloc (Nat.le_refl _) (.cells #[.int .i64 m.h, .int .i64 m.cap, .slice A m.l.length c, .int .i64 m.n, .int .i64 m.draws, .slice B m.sent.length d] 45)).alloc (by simp) (.cells #[.int .i64 1, .int .u64 (i : Int), .int .i64 n, .int .u64 (p1.toNat : Int), .int .u64 (p2.toNat : Int)] 53)).alloc (by simp; omega) (.cells #[.int .i64 0, .int .i64 0, .slice none 0 0, .int .i64 0, .int .i64 0, .slice none 0 0] 45)).alloc (by simp; omega) (.cells #[.int .i64 0, .int .i64 0, .int .i64 0, .int .u64 0, .int .u64 0] 55)))
  clear hM
  go_enter Try.func29, Try.ntmps29
  go_upto_region 1 with fail
  generalize ((((w.alloc (.cells #[.int .i64 m.h, .int .i64 m.cap, .slice A m.l.length c, .int .i64 m.n, .int .i64 m.draws, .slice B m.sent.length d] 45)).alloc (.cells #[.int .i64 1, .int .u64 (i : Int), .int .i64 n, .int .u64 (p1.toNat : Int), .int .u64 (p2.toNat : Int)] 53)).alloc (.cells #[.int .i64 0, .int .i64 0, .slice none 0 0, .int .i64 0, .int .i64 0, .slice none 0 0] 45)).alloc (.cells #[.int .i64 0, .int .i64 0, .int .i64 0, .int .u64 0, .int .u64 0] 55)) = w0 at *
  have lZA : w.heap.size + 1 + 1 + 1 < w0.heap.size := ZA.out.lt
  have cX := ZX.out.six
  have cP := ZP.out.five
  go_wp2_with fail
  refine (mchk e _ _ _ _ _ HM.out).mono ?_
  rintro e w1 ⟨rfl, hb⟩
  replace ZX := mkHid (ZX.out.keep hb)
  replace ZP := mkHid (ZP.out.keep hb)
  replace ZZ := mkHid (ZZ.out.keep hb)
  replace ZA := mkHid (ZA.out.keep hb)
  replace KB := mkHid (KB.out.step hb)
  replace HM := mkHid (HM.out.below hb)
  clear hb
  clear lZA cX cP
  have lZA : w.heap.size + 1 + 1 + 1 < w1.heap.size := ZA.out.lt
  have cX := ZX.out.six
  have cP := ZP.out.five
  go_wp2_with fail
  refine (mown HS.out.1 HS.out.2.1 HS.out.2.2 _ _ _ _ _ HM.out).mono ?_
  rintro e w2 ⟨⟨A1, c1, B1, d1, X1, rfl, ho⟩, hb⟩
  have HO := mkHid (ho.base (b := w.heap.size + 4) (by omega))
  clear ho HM
  replace ZX := mkHid (ZX.out.keep hb)
  replace ZP := mkHid (ZP.out.keep hb)
  replace ZZ := mkHid (ZZ.out.keep hb)
  replace ZA := mkHid (ZA.out.keep hb)
  replace KB := mkHid (KB.out.step hb)
  clear hb
  clear lZA cX cP
  have lZA : w.heap.size + 1 + 1 + 1 < w2.heap.size := ZA.out.lt
  have cX := ZX.out.six
  have cP := ZP.out.five
  have fX0 := ZX.out.frozen 0
  have fX1 := ZX.out.frozen 1
  have fX2 := ZX.out.frozen 2
  have fX3 := ZX.out.frozen 3
  have fX4 := ZX.out.frozen 4
  have fX5 := ZX.out.frozen 5
  go_upto_region 4 with fail
  replace ZX := mkHid (ZX.out.fill6 (b0 := .int .i64 m.h) (b1 := .int .i64 m.cap) (b2 := .slice A1 m.l.length c1) (b3 := .int .i64 m.n) (b4 := .int .i64 m.draws) (b5 := .slice B1 m.sent.length d1))
  replace ZP := mkHid (ZP.out.other6 (g := w.heap.size) (x0 := .int .i64 m.h) (x1 := .int .i64 m.cap) (x2 := .slice A1 m.l.length c1) (x3 := .int .i64 m.n) (x4 := .int .i64 m.draws) (x5 := .slice B1 m.sent.length d1) (by omega))
  replace ZZ := mkHid (ZZ.out.other6 (g := w.heap.size) (x0 := .int .i64 m.h) (x1 := .int .i64 m.cap) (x2 := .slice A1 m.l.length c1) (x3 := .int .i64 m.n) (x4 := .int .i64 m.draws) (x5 := .slice B1 m.sent.length d1) (by omega))
  replace ZA := mkHid (ZA.out.other6 (g := w.heap.size) (x0 := .int .i64 m.h) (x1 := .int .i64 m.cap) (x2 := .slice A1 m.l.length c1) (x3 := .int .i64 m.n) (x4 := .int .i64 m.draws) (x5 := .slice B1 m.sent.length d1) (by omega))
  replace KB := mkHid (below_six KB.out (Nat.le_refl _) (.int .i64 m.h) (.int .i64 m.cap) (.slice A1 m.l.length c1) (.int .i64 m.n) (.int .i64 m.draws) (.slice B1 m.sent.length d1))
  replace HO := mkHid (HO.out.past6 (g := w.heap.size) (by omega) (.int .i64 m.h) (.int .i64 m.cap) (.slice A1 m.l.length c1) (.int .i64 m.n) (.int .i64 m.draws) (.slice B1 m.sent.length d1))
  clear lZA cX cP fX0 fX1 fX2 fX3 fX4 fX5
  generalize ((((((w2.setCell ⟨w.heap.size, 0, none⟩ (.int .i64 m.h)).setCell ⟨w.heap.size, 1, none⟩ (.int .i64 m.cap)).setCell ⟨w.heap.size, 2, none⟩ (.slice A1 m.l.length c1)).setCell ⟨w.heap.size, 3, none⟩ (.int .i64 m.n)).setCell ⟨w.heap.size, 4, none⟩ (.int .i64 m.draws)).setCell ⟨w.heap.size, 5, none⟩ (.slice B1 m.sent.length d1)) = w3 at *
  have lZA : w.heap.size + 1 + 1 + 1 < w3.heap.size := ZA.out.lt
  have cX := ZX.out.six
  have cP := ZP.out.five
  have cA := ZA.out.five
  have HRd := mkHid HO.out.reads
  have fa := ZA.out.frozen 0
  go_wp2_with fail
  refine (cw_full0 f w.heap.size A1 c1 B1 d1 _ ZX.out HRd.out).mono ?_
  rintro e w4 ⟨rfl, hb⟩
  clear HRd fa
  replace ZX := mkHid (ZX.out.keep hb)
  replace ZP := mkHid (ZP.out.keep hb)
  replace ZZ := mkHid (ZZ.out.keep hb)
  replace ZA := mkHid (ZA.out.keep hb)
  replace KB := mkHid (KB.out.step hb)
  replace HO := mkHid (HO.out.below hb)
  clear hb
  clear lZA cX cP cA
  have lZA : w.heap.size + 1 + 1 + 1 < w4.heap.size := ZA.out.lt
  have cX := ZX.out.six
  have cP := ZP.out.five
  have cA := ZA.out.five
  have fa := ZA.out.frozen 0
  go_upto_region 23 with fail
  clear fa
  replace ZX : Hid (Blk (w4.setCell ⟨w.heap.size + 1 + 1 + 1, 0, none⟩ (.int .i64 6)) w.heap.size 45 #[.int .i64 m.h, .int .i64 m.cap, .slice A1 m.l.length c1, .int .i64 m.n, .int .i64 m.draws, .slice B1 m.sent.length d1]) := mkHid ((ZX.out.other _ (by omega)))
  replace ZP : Hid (Blk (w4.setCell ⟨w.heap.size + 1 + 1 + 1, 0, none⟩ (.int .i64 6)) (w.heap.size + 1) 53 #[.int .i64 1, .int .u64 (i : Int), .int .i64 n, .int .u64 (p1.toNat : Int), .int .u64 (p2.toNat : Int)]) := mkHid ((ZP.out.other _ (by omega)))
  replace ZZ : Hid (Blk (w4.setCell ⟨w.heap.size + 1 + 1 + 1, 0, none⟩ (.int .i64 6)) (w.heap.size + 1 + 1) 45 #[.int .i64 0, .int .i64 0, .slice none 0 0, .int .i64 0, .int .i64 0, .slice none 0 0]) := mkHid ((ZZ.out.other _ (by omega)))
  replace ZA : Hid (Blk (w4.setCell ⟨w.heap.size + 1 + 1 + 1, 0, none⟩ (.int .i64 6)) (w.heap.size + 1 + 1 + 1) 55 #[.int .i64 6, .int .i64 0, .int .i64 0, .int .u64 0, .int .u64 0]) := mkHid ((ZA.out.set 0 (.int .i64 6)))
  replace KB : Hid (Below w.heap.size w (w4.setCell ⟨w.heap.size + 1 + 1 + 1, 0, none⟩ (.int .i64 6))) := mkHid ((KB.out.setCell (by show w.heap.size ≤ w.heap.size + 1 + 1 + 1; omega) _))
  replace HO := mkHid ((HO.out.past (g := w.heap.size + 1 + 1 + 1) (by omega) 0 (.int .i64 6)))
  generalize (w4.setCell ⟨w.heap.size + 1 + 1 + 1, 0, none⟩ (.int .i64 6)) = w5 at *
  clear lZA cX cP cA
  have lZA : w.heap.size + 1 + 1 + 1 < w5.heap.size := ZA.out.lt
  have cX := ZX.out.six
  have cP := ZP.out.five
  have cA := ZA.out.five
  replace ZX : Hid (Blk w5.drew _ _ _) := mkHid ZX.out.drew
  replace ZA : Hid (Blk w5.drew _ _ _) := mkHid ZA.out.drew
  replace ZZ : Hid (Blk w5.drew _ _ _) := mkHid ZZ.out.drew
  replace KB : Hid (Below w.heap.size w w5.drew) := mkHid KB.out.drew
  replace HO := mkHid (HO.out.below (Below.drew (Below.refl _ w5)))
  clear cX cP cA
  have cZ := ZZ.out.six
  have cA := ZA.out.five
  have gz0 := ZZ.out.frozen 0
  have gz1 := ZZ.out.frozen 1
  have gz2 := ZZ.out.frozen 2
  have gz3 := ZZ.out.frozen 3
  have gz4 := ZZ.out.frozen 4
  have gz5 := ZZ.out.frozen 5
  have ga0 := ZA.out.frozen 0
  have ga1 := ZA.out.frozen 1
  have ga2 := ZA.out.frozen 2
  have ga3 := ZA.out.frozen 3
  have ga4 := ZA.out.frozen 4
  clear ZP
  refine wp_region_late (late := fun i => decide (3 ≤ i)) (S := fun w' => Hid (Blk w' w.heap.size 45 #[.int .i64 m.h, .int .i64 m.cap, .slice A1 m.l.length c1, .int .i64 m.n, .int .i64 m.draws, .slice B1 m.sent.length d1]) ∧ Hid (Blk w' (w.heap.size + 1 + 1 + 1) 55 #[.int .i64 6, .int .i64 0, .int .i64 0, .int .u64 0, .int .u64 0])) (by kernel_rfl) ?_ (fun hHeld => ?_)
  · ((try dsimp only); refine ⟨?_, ?_⟩ <;> first | with_reducible assumption | (with_reducible refine mkHid (Blk.other6 (Hid.out ?_) ?_) <;> first | with_reducible assumption | omega))
  generalize w5.drew = u at *
  refine Any.take (i := 0) (v := ?_) rfl (by kernel_rfl) (by kernel_rfl) (by kernel_rfl) (by kernel_rfl) (fun _ _ _ h => h) (Or.inl ⟨by rfl, ?_⟩) hHeld ?_
  rotate_left
  · intro w hSw
    (try dsimp only at hSw)
    have q := hSw.1.out.six
    clear hSw
    go_simp
    all_goals with_reducible rfl
  try simp only [List.getElem_toArray, List.getElem_cons_succ, List.getElem_cons_zero, Act.put, List.setIfInBounds_toArray, List.set_cons_zero, List.set_cons_succ]
  refine Any.take (i := 1) (v := ?_) rfl (by kernel_rfl) (by kernel_rfl) (by kernel_rfl) (by kernel_rfl) (fun _ _ _ h => h) (Or.inl ⟨by rfl, ?_⟩) hHeld ?_
  rotate_left
  · intro w hSw
    (try dsimp only at hSw)
    have q := hSw.2.out.five
    clear hSw
    go_simp
    all_goals with_reducible rfl
  try simp only [List.getElem_toArray, List.getElem_cons_succ, List.getElem_cons_zero, Act.put, List.setIfInBounds_toArray, List.set_cons_zero, List.set_cons_succ]
  refine Any.ready (rs := [2]) (by kernel_rfl) (by simp) ?_
  refine AllAny.cons rfl rfl (fun K hK => ?_) AllAny.nil
  go_simp
  refine hK.out _ _ ?_ (fun hHeld => ?_)
  · ((try dsimp only); refine ⟨?_, ?_⟩ <;> first | with_reducible assumption | (with_reducible refine mkHid (Blk.other6 (Hid.out ?_) ?_) <;> first | with_reducible assumption | omega))
  clear hK K
  try simp only [List.getElem_toArray, List.getElem_cons_succ, List.getElem_cons_zero, Act.put, List.setIfInBounds_toArray, List.set_cons_zero, List.set_cons_succ]
  refine Any.ready (rs := [3]) (by kernel_rfl) (by simp) ?_
  refine AllAny.lateCons rfl rfl (fun K hK => ?_) AllAny.nil
  go_simp
  refine hK.out _ _ ?_
  clear hK K
  try simp only [List.getElem_toArray, List.getElem_cons_succ, List.getElem_cons_zero, Act.put, List.setIfInBounds_toArray, List.set_cons_zero, List.set_cons_succ]
  refine Any.ready (rs := [4]) (by kernel_rfl) (by simp) ?_
  refine AllAny.lateCons rfl rfl (fun K hK => ?_) AllAny.nil
  go_simp
  refine hK.out _ _ ?_
  clear hK K
  try simp only [List.getElem_toArray, List.getElem_cons_succ, List.getElem_cons_zero, Act.put, List.setIfInBounds_toArray, List.set_cons_zero, List.set_cons_succ]
  refine Any.done (by kernel_rfl) ?_ _
  have qR := ((ZZ.out.fill6 (b0 := .int .i64 m.h) (b1 := .int .i64 m.cap) (b2 := .slice A1 m.l.length c1) (b3 := .int .i64 m.n) (b4 := .int .i64 m.draws) (b5 := .slice B1 m.sent.length d1)).other5 (g := w.heap.size + 1 + 1 + 1) (x0 := .int .i64 6) (x1 := .int .i64 0) (x2 := .int .i64 0) (x3 := .int .u64 0) (x4 := .int .u64 0) (by omega)).six
  have qA := ((ZA.out.other6 (g := w.heap.size + 1 + 1) (x0 := .int .i64 m.h) (x1 := .int .i64 m.cap) (x2 := .slice A1 m.l.length c1) (x3 := .int .i64 m.n) (x4 := .int .i64 m.draws) (x5 := .slice B1 m.sent.length d1) (by omega)).fill5 (b0 := .int .i64 6) (b1 := .int .i64 0) (b2 := .int .i64 0) (b3 := .int .u64 0) (b4 := .int .u64 0)).five
  go_wp2_with fail
  refine bodyPost_ret (v := .tuple #[.agg #[.int .i64 m.h, .int .i64 m.cap, .slice A1 m.l.length c1, .int .i64 m.n, .int .i64 m.draws, .slice B1 m.sent.length d1], .agg #[.int .i64 6, .int .i64 0, .int .i64 0, .int .u64 0, .int .u64 0], .int .i64 0]) (by simp [results, Try.results29, go_sem, qR, qA]) rfl ⟨_, _, _, _, X1, rfl, OwnM.base (b' := w.heap.size + 4) ?_ (by omega), below_five (below_six KB.out (by omega) _ _ _ _ _ _) (by omega) _ _ _ _ _⟩
  exact (HO.out.past6 (by omega) _ _ _ _ _ _).past5 (by omega) _ _ _ _ _

set_option linter.unusedSimpArgs false in
set_option maxRecDepth 100000 in
set_option maxHeartbeats 4000000 in
theorem do1_full6 {m : ModD} {i : Nat} {n : Int} {p1 p2 : BitVec 64} (e : Hid ((if okM m then (0 : Int) else 1) = 0)) {L : List Nat} (f : Hid (withAll m.h m.l i = (L, 6))) (h1 : ¬ (m.l.length : Int) < m.cap) (A : Option Addr) (c : Nat) (B : Option Addr) (d : Nat) (w : World) (hM : MemM w A c B d m) :
    Calls Try.prog 29 #[.agg #[.int .i64 m.h, .int .i64 m.cap, .slice A m.l.length c, .int .i64 m.n, .int .i64 m.draws, .slice B m.sent.length d], .agg #[.int .i64 1, .int .u64 (i : Int), .int .i64 n, .int .u64 (p1.toNat : Int), .int .u64 (p2.toNat : Int)]] w (DoPost m (ansE 6) 0 w) := by
  have HS := mkHid (okM_sizes (m := m) (by cases hk : okM m with | true => rfl | false => exact absurd e.out (by rw [hk]; simp)))
  have t1 : decide ((m.l.length : Int) < m.cap) = false := decide_eq_false h1
  have ZX : Hid (Blk ((((w.alloc (.cells #[.int .i64 m.h, .int .i64 m.cap, .slice A m.l.length c, .int .i64 m.n, .int .i64 m.draws, .slice B m.sent.length d] 45)).alloc (.cells #[.int .i64 1, .int .u64 (i : Int), .int .i64 n, .int .u64 (p1.toNat : Int), .int .u64 (p2.toNat : Int)] 53)).alloc (.cells #[.int .i64 0, .int .i64 0, .slice none 0 0, .int .i64 0, .int .i64 0, .slice none 0 0] 45)).alloc (.cells #[.int .i64 0, .int .i64 0, .int .i64 0, .int .u64 0, .int .u64 0] 55)) w.heap.size 45 #[.int .i64 m.h, .int .i64 m.cap, .slice A m.l.length c, .int .i64 m.n, .int .i64 m.draws, .slice B m.sent.length d]) := mkHid ((((Blk.new _ _ _).alloc _).alloc _).alloc _)
  have ZP : Hid (Blk ((((w.alloc (.cells #[.int .i64 m.h, .int .i64 m.cap, .slice A m.l.length c, .int .i64 m.n, .int .i64 m.draws, .slice B m.sent.length d] 45)).alloc (.cells #[.int .i64 1, .int .u64 (i : Int), .int .i64 n, .int .u64 (p1.toNat : Int), .int .u64 (p2.toNat : Int)] 53)).alloc (.cells #[.int .i64 0, .int .i64 0, .slice none 0 0, .int .i64 0, .int .i64 0, .slice none 0 0] 45)).alloc (.cells #[.int .i64 0, .int .i64 0, .int .i64 0, .int .u64 0, .int .u64 0] 55)) (w.heap.size + 1) 53 #[.int .i64 1, .int .u64 (i : Int), .int .i64 n, .int .u64 (p1.toNat : Int), .int .u64 (p2.toNat : Int)]) := mkHid (((Blk.at _ _ _ (by simp)).alloc _).alloc _)
  have ZZ : Hid (Blk ((((w.alloc (.cells #[.int .i64 m.h, .int .i64 m.cap, .slice A m.l.length c, .int .i64 m.n, .int .i64 m.draws, .slice B m.sent.length d] 45)).alloc (.cells #[.int .i64 1, .int .u64 (i : Int), .int .i64 n, .int .u64 (p1.toNat : Int), .int .u64 (p2.toNat : Int)] 53)).alloc (.cells #[.int .i64 0, .int .i64 0, .slice none 0 0, .int .i64 0, .int .i64 0, .slice none 0 0] 45)).alloc (.cells #[.int .i64 0, .int .i64 0, .int .i64 0, .int .u64 0, .int .u64 0] 55)) (w.heap.size + 1 + 1) 45 #[.int .i64 0, .int .i64 0, .slice none 0 0, .int .i64 0, .int .i64 0, .slice none 0 0]) := mkHid ((Blk.at _ _ _ (by simp)).alloc _)
  have ZA : Hid (Blk ((((w.alloc (.cells #[.int .i64 m.h, .int .i64 m.cap, .slice A m.l.length c, .int .i64 m.n, .int .i64 m.draws, .slice B m.sent.length d] 45)).alloc (.cells #[.int .i64 1, .int .u64 (i : Int), .int .i64 n, .int .u64 (p1.toNat : Int), .int .u64 (p2.toNat : Int)] 53)).alloc (.cells #[.int .i64 0, .int .i64 0, .slice none 0 0, .int .i64 0, .int .i64 0, .slice none 0 0] 45)).alloc (.cells #[.int .i64 0, .int .i64 0, .int .i64 0, .int .u64 0, .int .u64 0] 55)) (w.heap.size + 1 + 1 + 1) 55 #[.int .i64 0, .int .i64 0, .int .i64 0, .int .u64 0, .int .u64 0]) := mkHid (Blk.at _ _ _ (by simp))
  have KB : Hid (Below w.heap.size w ((((w.alloc (.cells #[.int .i64 m.h, .int .i64 m.cap, .slice A m.l.length c, .int .i64 m.n, .int .i64 m.draws, .slice B m.sent.length d] 45)).alloc (.cells #[.int .i64 1, .int .u64 (i : Int), .int .i64 n, .int .u64 (p1.toNat : Int), .int .u64 (p2.toNat : Int)] 53)).alloc (.cells #[.int .i64 0, .int .i64 0, .slice none 0 0, .int .i64 0, .int .i64 0, .slice none 0 0] 45)).alloc (.cells #[.int .i64 0, .int .i64 0, .int .i64 0, .int .u64 0, .int .u64 0] 55))) := mkHid (((((Below.refl _ _).alloc (Nat.le_refl _) (.cells #[.int .i64 m.h, .int .i64 m.cap, .slice A m.l.length c, .int .i64 m.n, .int .i64 m.draws, .slice B m.sent.length d] 45)).alloc (by simp) (.cells #[.int .i64 1, .int .u64 (i : Int), .int .i64 n, .int .u64 (p1.toNat : Int), .int .u64 (p2.toNat : Int)] 53)).alloc (by simp; omega) (.cells #[.int .i64 0, .int .i64 0, .slice none 0 0, .int .i64 0, .int .i64 0, .slice none 0 0] 45)).alloc (by simp; omega) (.cells #[.int .i64 0, .int .i64 0, .int .i64 0, .int .u64 0, .int .u64 0] 55))
  have HM := mkHid (hM.below (((((Below.refl _ _).alloc (Nat.le_refl _) (.cells #[.int .i64 m.h, .int .i64 m.cap, .slice A m.l.length c, .int .i64 m.n, .int .i64 m.draws, .slice B m.sent.length d] 45)).alloc (by simp) (.cells #[.int .i64 1, .int .u64 (i : Int), .int .i64 n, .int .u64 (p1.toNat : Int), .int .u64 (p2.toNat : Int)] 53)).alloc (by simp; omega) (.cells #[.int .i64 0, .int .i64 0, .slice none 0 0, .int .i64 0, .int .i64 0, .slice none 0 0] 45)).alloc (by simp; omega) (.cells #[.int .i64 0, .int .i64 0, .int .i64 0, .int .u64 0, .int .u64 0] 55)))
  clear hM
  go_enter Try.func29, Try.ntmps29
  go_upto_region 1 with fail
  generalize ((((w.alloc (.cells #[.int .i64 m.h, .int .i64 m.cap, .slice A m.l.length c, .int .i64 m.n, .int .i64 m.draws, .slice B m.sent.length d] 45)).alloc (.cells #[.int .i64 1, .int .u64 (i : Int), .int .i64 n, .int .u64 (p1.toNat : Int), .int .u64 (p2.toNat : Int)] 53)).alloc (.cells #[.int .i64 0, .int .i64 0, .slice none 0 0, .int .i64 0, .int .i64 0, .slice none 0 0] 45)).alloc (.cells #[.int .i64 0, .int .i64 0, .int .i64 0, .int .u64 0, .int .u64 0] 55)) = w0 at *
  have lZA : w.heap.size + 1 + 1 + 1 < w0.heap.size := ZA.out.lt
  have cX := ZX.out.six
  have cP := ZP.out.five
  go_wp2_with fail
  refine (mchk e _ _ _ _ _ HM.out).mono ?_
  rintro e w1 ⟨rfl, hb⟩
  replace ZX := mkHid (ZX.out.keep hb)
  replace ZP := mkHid (ZP.out.keep hb)
  replace ZZ := mkHid (ZZ.out.keep hb)
  replace ZA := mkHid (ZA.out.keep hb)
  replace KB := mkHid (KB.out.step hb)
  replace HM := mkHid (HM.out.below hb)
  clear hb
  clear lZA cX cP
  have lZA : w.heap.size + 1 + 1 + 1 < w1.heap.size := ZA.out.lt
  have cX := ZX.out.six
  have cP := ZP.out.five
  go_wp2_with fail
  refine (mown HS.out.1 HS.out.2.1 HS.out.2.2 _ _ _ _ _ HM.out).mono ?_
  rintro e w2 ⟨⟨A1, c1, B1, d1, X1, rfl, ho⟩, hb⟩
  have HO := mkHid (ho.base (b := w.heap.size + 4) (by omega))
  clear ho HM
  replace ZX := mkHid (ZX.out.keep hb)
  replace ZP := mkHid (ZP.out.keep hb)
  replace ZZ := mkHid (ZZ.out.keep hb)
  replace ZA := mkHid (ZA.out.keep hb)
  replace KB := mkHid (KB.out.step hb)
  clear hb
  clear lZA cX cP
  have lZA : w.heap.size + 1 + 1 + 1 < w2.heap.size := ZA.out.lt
  have cX := ZX.out.six
  have cP := ZP.out.five
  have fX0 := ZX.out.frozen 0
  have fX1 := ZX.out.frozen 1
  have fX2 := ZX.out.frozen 2
  have fX3 := ZX.out.frozen 3
  have fX4 := ZX.out.frozen 4
  have fX5 := ZX.out.frozen 5
  go_upto_region 4 with fail
  replace ZX := mkHid (ZX.out.fill6 (b0 := .int .i64 m.h) (b1 := .int .i64 m.cap) (b2 := .slice A1 m.l.length c1) (b3 := .int .i64 m.n) (b4 := .int .i64 m.draws) (b5 := .slice B1 m.sent.length d1))
  replace ZP := mkHid (ZP.out.other6 (g := w.heap.size) (x0 := .int .i64 m.h) (x1 := .int .i64 m.cap) (x2 := .slice A1 m.l.length c1) (x3 := .int .i64 m.n) (x4 := .int .i64 m.draws) (x5 := .slice B1 m.sent.length d1) (by omega))
  replace ZZ := mkHid (ZZ.out.other6 (g := w.heap.size) (x0 := .int .i64 m.h) (x1 := .int .i64 m.cap) (x2 := .slice A1 m.l.length c1) (x3 := .int .i64 m.n) (x4 := .int .i64 m.draws) (x5 := .slice B1 m.sent.length d1) (by omega))
  replace ZA := mkHid (ZA.out.other6 (g := w.heap.size) (x0 := .int .i64 m.h) (x1 := .int .i64 m.cap) (x2 := .slice A1 m.l.length c1) (x3 := .int .i64 m.n) (x4 := .int .i64 m.draws) (x5 := .slice B1 m.sent.length d1) (by omega))
  replace KB := mkHid (below_six KB.out (Nat.le_refl _) (.int .i64 m.h) (.int .i64 m.cap) (.slice A1 m.l.length c1) (.int .i64 m.n) (.int .i64 m.draws) (.slice B1 m.sent.length d1))
  replace HO := mkHid (HO.out.past6 (g := w.heap.size) (by omega) (.int .i64 m.h) (.int .i64 m.cap) (.slice A1 m.l.length c1) (.int .i64 m.n) (.int .i64 m.draws) (.slice B1 m.sent.length d1))
  clear lZA cX cP fX0 fX1 fX2 fX3 fX4 fX5
  generalize ((((((w2.setCell ⟨w.heap.size, 0, none⟩ (.int .i64 m.h)).setCell ⟨w.heap.size, 1, none⟩ (.int .i64 m.cap)).setCell ⟨w.heap.size, 2, none⟩ (.slice A1 m.l.length c1)).setCell ⟨w.heap.size, 3, none⟩ (.int .i64 m.n)).setCell ⟨w.heap.size, 4, none⟩ (.int .i64 m.draws)).setCell ⟨w.heap.size, 5, none⟩ (.slice B1 m.sent.length d1)) = w3 at *
  have lZA : w.heap.size + 1 + 1 + 1 < w3.heap.size := ZA.out.lt
  have cX := ZX.out.six
  have cP := ZP.out.five
  have cA := ZA.out.five
  have HRd := mkHid HO.out.reads
  have fa := ZA.out.frozen 0
  go_wp2_with fail
  refine (cw_full6 f w.heap.size A1 c1 B1 d1 _ ZX.out HRd.out).mono ?_
  rintro e w4 ⟨rfl, hb⟩
  clear HRd fa
  replace ZX := mkHid (ZX.out.keep hb)
  replace ZP := mkHid (ZP.out.keep hb)
  replace ZZ := mkHid (ZZ.out.keep hb)
  replace ZA := mkHid (ZA.out.keep hb)
  replace KB := mkHid (KB.out.step hb)
  replace HO := mkHid (HO.out.below hb)
  clear hb
  clear lZA cX cP cA
  have lZA : w.heap.size + 1 + 1 + 1 < w4.heap.size := ZA.out.lt
  have cX := ZX.out.six
  have cP := ZP.out.five
  have cA := ZA.out.five
  have fa := ZA.out.frozen 0
  go_upto_region 23 with fail
  clear fa
  replace ZX : Hid (Blk (w4.setCell ⟨w.heap.size + 1 + 1 + 1, 0, none⟩ (.int .i64 6)) w.heap.size 45 #[.int .i64 m.h, .int .i64 m.cap, .slice A1 m.l.length c1, .int .i64 m.n, .int .i64 m.draws, .slice B1 m.sent.length d1]) := mkHid ((ZX.out.other _ (by omega)))
  replace ZP : Hid (Blk (w4.setCell ⟨w.heap.size + 1 + 1 + 1, 0, none⟩ (.int .i64 6)) (w.heap.size + 1) 53 #[.int .i64 1, .int .u64 (i : Int), .int .i64 n, .int .u64 (p1.toNat : Int), .int .u64 (p2.toNat : Int)]) := mkHid ((ZP.out.other _ (by omega)))
  replace ZZ : Hid (Blk (w4.setCell ⟨w.heap.size + 1 + 1 + 1, 0, none⟩ (.int .i64 6)) (w.heap.size + 1 + 1) 45 #[.int .i64 0, .int .i64 0, .slice none 0 0, .int .i64 0, .int .i64 0, .slice none 0 0]) := mkHid ((ZZ.out.other _ (by omega)))
  replace ZA : Hid (Blk (w4.setCell ⟨w.heap.size + 1 + 1 + 1, 0, none⟩ (.int .i64 6)) (w.heap.size + 1 + 1 + 1) 55 #[.int .i64 6, .int .i64 0, .int .i64 0, .int .u64 0, .int .u64 0]) := mkHid ((ZA.out.set 0 (.int .i64 6)))
  replace KB : Hid (Below w.heap.size w (w4.setCell ⟨w.heap.size + 1 + 1 + 1, 0, none⟩ (.int .i64 6))) := mkHid ((KB.out.setCell (by show w.heap.size ≤ w.heap.size + 1 + 1 + 1; omega) _))
  replace HO := mkHid ((HO.out.past (g := w.heap.size + 1 + 1 + 1) (by omega) 0 (.int .i64 6)))
  generalize (w4.setCell ⟨w.heap.size + 1 + 1 + 1, 0, none⟩ (.int .i64 6)) = w5 at *
  clear lZA cX cP cA
  have lZA : w.heap.size + 1 + 1 + 1 < w5.heap.size := ZA.out.lt
  have cX := ZX.out.six
  have cP := ZP.out.five
  have cA := ZA.out.five
  replace ZX : Hid (Blk w5.drew _ _ _) := mkHid ZX.out.drew
  replace ZA : Hid (Blk w5.drew _ _ _) := mkHid ZA.out.drew
  replace ZZ : Hid (Blk w5.drew _ _ _) := mkHid ZZ.out.drew
  replace KB : Hid (Below w.heap.size w w5.drew) := mkHid KB.out.drew
  replace HO := mkHid (HO.out.below (Below.drew (Below.refl _ w5)))
  clear cX cP cA
  have cZ := ZZ.out.six
  have cA := ZA.out.five
  have gz0 := ZZ.out.frozen 0
  have gz1 := ZZ.out.frozen 1
  have gz2 := ZZ.out.frozen 2
  have gz3 := ZZ.out.frozen 3
  have gz4 := ZZ.out.frozen 4
  have gz5 := ZZ.out.frozen 5
  have ga0 := ZA.out.frozen 0
  have ga1 := ZA.out.frozen 1
  have ga2 := ZA.out.frozen 2
  have ga3 := ZA.out.frozen 3
  have ga4 := ZA.out.frozen 4
  clear ZP
  refine wp_region_late (late := fun i => decide (3 ≤ i)) (S := fun w' => Hid (Blk w' w.heap.size 45 #[.int .i64 m.h, .int .i64 m.cap, .slice A1 m.l.length c1, .int .i64 m.n, .int .i64 m.draws, .slice B1 m.sent.length d1]) ∧ Hid (Blk w' (w.heap.size + 1 + 1 + 1) 55 #[.int .i64 6, .int .i64 0, .int .i64 0, .int .u64 0, .int .u64 0])) (by kernel_rfl) ?_ (fun hHeld => ?_)
  · ((try dsimp only); refine ⟨?_, ?_⟩ <;> first | with_reducible assumption | (with_reducible refine mkHid (Blk.other6 (Hid.out ?_) ?_) <;> first | with_reducible assumption | omega))
  generalize w5.drew = u at *
  refine Any.take (i := 0) (v := ?_) rfl (by kernel_rfl) (by kernel_rfl) (by kernel_rfl) (by kernel_rfl) (fun _ _ _ h => h) (Or.inl ⟨by rfl, ?_⟩) hHeld ?_
  rotate_left
  · intro w hSw
    (try dsimp only at hSw)
    have q := hSw.1.out.six
    clear hSw
    go_simp
    all_goals with_reducible rfl
  try simp only [List.getElem_toArray, List.getElem_cons_succ, List.getElem_cons_zero, Act.put, List.setIfInBounds_toArray, List.set_cons_zero, List.set_cons_succ]
  refine Any.take (i := 1) (v := ?_) rfl (by kernel_rfl) (by kernel_rfl) (by kernel_rfl) (by kernel_rfl) (fun _ _ _ h => h) (Or.inl ⟨by rfl, ?_⟩) hHeld ?_
  rotate_left
  · intro w hSw
    (try dsimp only at hSw)
    have q := hSw.2.out.five
    clear hSw
    go_simp
    all_goals with_reducible rfl
  try simp only [List.getElem_toArray, List.getElem_cons_succ, List.getElem_cons_zero, Act.put, List.setIfInBounds_toArray, List.set_cons_zero, List.set_cons_succ]
  refine Any.ready (rs := [2]) (by kernel_rfl) (by simp) ?_
  refine AllAny.cons rfl rfl (fun K hK => ?_) AllAny.nil
  go_simp
  refine hK.out _ _ ?_ (fun hHeld => ?_)
  · ((try dsimp only); refine ⟨?_, ?_⟩ <;> first | with_reducible assumption | (with_reducible refine mkHid (Blk.other6 (Hid.out ?_) ?_) <;> first | with_reducible assumption | omega))
  clear hK K
  try simp only [List.getElem_toArray, List.getElem_cons_succ, List.getElem_cons_zero, Act.put, List.setIfInBounds_toArray, List.set_cons_zero, List.set_cons_succ]
  refine Any.ready (rs := [3]) (by kernel_rfl) (by simp) ?_
  refine AllAny.lateCons rfl rfl (fun K hK => ?_) AllAny.nil
  go_simp
  refine hK.out _ _ ?_
  clear hK K
  try simp only [List.getElem_toArray, List.getElem_cons_succ, List.getElem_cons_zero, Act.put, List.setIfInBounds_toArray, List.set_cons_zero, List.set_cons_succ]
  refine Any.ready (rs := [4]) (by kernel_rfl) (by simp) ?_
  refine AllAny.lateCons rfl rfl (fun K hK => ?_) AllAny.nil
  go_simp
  refine hK.out _ _ ?_
  clear hK K
  try simp only [List.getElem_toArray, List.getElem_cons_succ, List.getElem_cons_zero, Act.put, List.setIfInBounds_toArray, List.set_cons_zero, List.set_cons_succ]
  refine Any.done (by kernel_rfl) ?_ _
  have qR := ((ZZ.out.fill6 (b0 := .int .i64 m.h) (b1 := .int .i64 m.cap) (b2 := .slice A1 m.l.length c1) (b3 := .int .i64 m.n) (b4 := .int .i64 m.draws) (b5 := .slice B1 m.sent.length d1)).other5 (g := w.heap.size + 1 + 1 + 1) (x0 := .int .i64 6) (x1 := .int .i64 0) (x2 := .int .i64 0) (x3 := .int .u64 0) (x4 := .int .u64 0) (by omega)).six
  have qA := ((ZA.out.other6 (g := w.heap.size + 1 + 1) (x0 := .int .i64 m.h) (x1 := .int .i64 m.cap) (x2 := .slice A1 m.l.length c1) (x3 := .int .i64 m.n) (x4 := .int .i64 m.draws) (x5 := .slice B1 m.sent.length d1) (by omega)).fill5 (b0 := .int .i64 6) (b1 := .int .i64 0) (b2 := .int .i64 0) (b3 := .int .u64 0) (b4 := .int .u64 0)).five
  go_wp2_with fail
  refine bodyPost_ret (v := .tuple #[.agg #[.int .i64 m.h, .int .i64 m.cap, .slice A1 m.l.length c1, .int .i64 m.n, .int .i64 m.draws, .slice B1 m.sent.length d1], .agg #[.int .i64 6, .int .i64 0, .int .i64 0, .int .u64 0, .int .u64 0], .int .i64 0]) (by simp [results, Try.results29, go_sem, qR, qA]) rfl ⟨_, _, _, _, X1, rfl, OwnM.base (b' := w.heap.size + 4) ?_ (by omega), below_five (below_six KB.out (by omega) _ _ _ _ _ _) (by omega) _ _ _ _ _⟩
  exact (HO.out.past6 (by omega) _ _ _ _ _ _).past5 (by omega) _ _ _ _ _

set_option linter.unusedSimpArgs false in
set_option maxRecDepth 100000 in
set_option maxHeartbeats 4000000 in
theorem do1_over {m : ModD} {i : Nat} {n : Int} {p1 p2 : BitVec 64} (e : Hid ((if okM m then (0 : Int) else 1) = 0)) {L : List Nat} (f : Hid (withAll m.h m.l i = (L, 0))) (h1 : (m.l.length : Int) < m.cap) (hn : Hid (m.n = 1099511627776)) (A : Option Addr) (c : Nat) (B : Option Addr) (d : Nat) (w : World) (hM : MemM w A c B d m) :
    Calls Try.prog 29 #[.agg #[.int .i64 m.h, .int .i64 m.cap, .slice A m.l.length c, .int .i64 m.n, .int .i64 m.draws, .slice B m.sent.length d], .agg #[.int .i64 1, .int .u64 (i : Int), .int .i64 n, .int .u64 (p1.toNat : Int), .int .u64 (p2.toNat : Int)]] w (DoPost m (ansE 9) 0 w) := by
  have HS := mkHid (okM_sizes (m := m) (by cases hk : okM m with | true => rfl | false => exact absurd e.out (by rw [hk]; simp)))
  have t1 : decide ((m.l.length : Int) < m.cap) = true := decide_eq_true h1
  have ZX : Hid (Blk ((((w.alloc (.cells #[.int .i64 m.h, .int .i64 m.cap, .slice A m.l.length c, .int .i64 m.n, .int .i64 m.draws, .slice B m.sent.length d] 45)).alloc (.cells #[.int .i64 1, .int .u64 (i : Int), .int .i64 n, .int .u64 (p1.toNat : Int), .int .u64 (p2.toNat : Int)] 53)).alloc (.cells #[.int .i64 0, .int .i64 0, .slice none 0 0, .int .i64 0, .int .i64 0, .slice none 0 0] 45)).alloc (.cells #[.int .i64 0, .int .i64 0, .int .i64 0, .int .u64 0, .int .u64 0] 55)) w.heap.size 45 #[.int .i64 m.h, .int .i64 m.cap, .slice A m.l.length c, .int .i64 m.n, .int .i64 m.draws, .slice B m.sent.length d]) := mkHid ((((Blk.new _ _ _).alloc _).alloc _).alloc _)
  have ZP : Hid (Blk ((((w.alloc (.cells #[.int .i64 m.h, .int .i64 m.cap, .slice A m.l.length c, .int .i64 m.n, .int .i64 m.draws, .slice B m.sent.length d] 45)).alloc (.cells #[.int .i64 1, .int .u64 (i : Int), .int .i64 n, .int .u64 (p1.toNat : Int), .int .u64 (p2.toNat : Int)] 53)).alloc (.cells #[.int .i64 0, .int .i64 0, .slice none 0 0, .int .i64 0, .int .i64 0, .slice none 0 0] 45)).alloc (.cells #[.int .i64 0, .int .i64 0, .int .i64 0, .int .u64 0, .int .u64 0] 55)) (w.heap.size + 1) 53 #[.int .i64 1, .int .u64 (i : Int), .int .i64 n, .int .u64 (p1.toNat : Int), .int .u64 (p2.toNat : Int)]) := mkHid (((Blk.at _ _ _ (by simp)).alloc _).alloc _)
  have ZZ : Hid (Blk ((((w.alloc (.cells #[.int .i64 m.h, .int .i64 m.cap, .slice A m.l.length c, .int .i64 m.n, .int .i64 m.draws, .slice B m.sent.length d] 45)).alloc (.cells #[.int .i64 1, .int .u64 (i : Int), .int .i64 n, .int .u64 (p1.toNat : Int), .int .u64 (p2.toNat : Int)] 53)).alloc (.cells #[.int .i64 0, .int .i64 0, .slice none 0 0, .int .i64 0, .int .i64 0, .slice none 0 0] 45)).alloc (.cells #[.int .i64 0, .int .i64 0, .int .i64 0, .int .u64 0, .int .u64 0] 55)) (w.heap.size + 1 + 1) 45 #[.int .i64 0, .int .i64 0, .slice none 0 0, .int .i64 0, .int .i64 0, .slice none 0 0]) := mkHid ((Blk.at _ _ _ (by simp)).alloc _)
  have ZA : Hid (Blk ((((w.alloc (.cells #[.int .i64 m.h, .int .i64 m.cap, .slice A m.l.length c, .int .i64 m.n, .int .i64 m.draws, .slice B m.sent.length d] 45)).alloc (.cells #[.int .i64 1, .int .u64 (i : Int), .int .i64 n, .int .u64 (p1.toNat : Int), .int .u64 (p2.toNat : Int)] 53)).alloc (.cells #[.int .i64 0, .int .i64 0, .slice none 0 0, .int .i64 0, .int .i64 0, .slice none 0 0] 45)).alloc (.cells #[.int .i64 0, .int .i64 0, .int .i64 0, .int .u64 0, .int .u64 0] 55)) (w.heap.size + 1 + 1 + 1) 55 #[.int .i64 0, .int .i64 0, .int .i64 0, .int .u64 0, .int .u64 0]) := mkHid (Blk.at _ _ _ (by simp))
  have KB : Hid (Below w.heap.size w ((((w.alloc (.cells #[.int .i64 m.h, .int .i64 m.cap, .slice A m.l.length c, .int .i64 m.n, .int .i64 m.draws, .slice B m.sent.length d] 45)).alloc (.cells #[.int .i64 1, .int .u64 (i : Int), .int .i64 n, .int .u64 (p1.toNat : Int), .int .u64 (p2.toNat : Int)] 53)).alloc (.cells #[.int .i64 0, .int .i64 0, .slice none 0 0, .int .i64 0, .int .i64 0, .slice none 0 0] 45)).alloc (.cells #[.int .i64 0, .int .i64 0, .int .i64 0, .int .u64 0, .int .u64 0] 55))) := mkHid (((((Below.refl _ _).alloc (Nat.le_refl _) (.cells #[.int .i64 m.h, .int .i64 m.cap, .slice A m.l.length c, .int .i64 m.n, .int .i64 m.draws, .slice B m.sent.length d] 45)).alloc (by simp) (.cells #[.int .i64 1, .int .u64 (i : Int), .int .i64 n, .int .u64 (p1.toNat : Int), .int .u64 (p2.toNat : Int)] 53)).alloc (by simp; omega) (.cells #[.int .i64 0, .int .i64 0, .slice none 0 0, .int .i64 0, .int .i64 0, .slice none 0 0] 45)).alloc (by simp; omega) (.cells #[.int .i64 0, .int .i64 0, .int .i64 0, .int .u64 0, .int .u64 0] 55))
  have HM := mkHid (hM.below (((((Below.refl _ _).alloc (Nat.le_refl _) (.cells #[.int .i64 m.h, .int .i64 m.cap, .slice A m.l.length c, .int .i64 m.n, .int .i64 m.draws, .slice B m.sent.length d] 45)).alloc (by simp) (.cells #[.int .i64 1, .int .u64 (i : Int), .int .i64 n, .int .u64 (p1.toNat : Int), .int .u64 (p2.toNat : Int)] 53)).alloc (by simp; omega) (.cells #[.int .i64 0, .int .i64 0, .slice none 0 0, .int .i64 0, .int .i64 0, .slice none 0 0] 45)).alloc (by simp; omega) (.cells #[.int .i64 0, .int .i64 0, .int .i64 0, .int .u64 0, .int .u64 0] 55)))
  clear hM
  go_enter Try.func29, Try.ntmps29
  go_upto_region 1 with fail
  generalize ((((w.alloc (.cells #[.int .i64 m.h, .int .i64 m.cap, .slice A m.l.length c, .int .i64 m.n, .int .i64 m.draws, .slice B m.sent.length d] 45)).alloc (.cells #[.int .i64 1, .int .u64 (i : Int), .int .i64 n, .int .u64 (p1.toNat : Int), .int .u64 (p2.toNat : Int)] 53)).alloc (.cells #[.int .i64 0, .int .i64 0, .slice none 0 0, .int .i64 0, .int .i64 0, .slice none 0 0] 45)).alloc (.cells #[.int .i64 0, .int .i64 0, .int .i64 0, .int .u64 0, .int .u64 0] 55)) = w0 at *
  have lZA : w.heap.size + 1 + 1 + 1 < w0.heap.size := ZA.out.lt
  have cX := ZX.out.six
  have cP := ZP.out.five
  go_wp2_with fail
  refine (mchk e _ _ _ _ _ HM.out).mono ?_
  rintro e w1 ⟨rfl, hb⟩
  replace ZX := mkHid (ZX.out.keep hb)
  replace ZP := mkHid (ZP.out.keep hb)
  replace ZZ := mkHid (ZZ.out.keep hb)
  replace ZA := mkHid (ZA.out.keep hb)
  replace KB := mkHid (KB.out.step hb)
  replace HM := mkHid (HM.out.below hb)
  clear hb
  clear lZA cX cP
  have lZA : w.heap.size + 1 + 1 + 1 < w1.heap.size := ZA.out.lt
  have cX := ZX.out.six
  have cP := ZP.out.five
  go_wp2_with fail
  refine (mown HS.out.1 HS.out.2.1 HS.out.2.2 _ _ _ _ _ HM.out).mono ?_
  rintro e w2 ⟨⟨A1, c1, B1, d1, X1, rfl, ho⟩, hb⟩
  have HO := mkHid (ho.base (b := w.heap.size + 4) (by omega))
  clear ho HM
  replace ZX := mkHid (ZX.out.keep hb)
  replace ZP := mkHid (ZP.out.keep hb)
  replace ZZ := mkHid (ZZ.out.keep hb)
  replace ZA := mkHid (ZA.out.keep hb)
  replace KB := mkHid (KB.out.step hb)
  clear hb
  clear lZA cX cP
  have lZA : w.heap.size + 1 + 1 + 1 < w2.heap.size := ZA.out.lt
  have cX := ZX.out.six
  have cP := ZP.out.five
  have fX0 := ZX.out.frozen 0
  have fX1 := ZX.out.frozen 1
  have fX2 := ZX.out.frozen 2
  have fX3 := ZX.out.frozen 3
  have fX4 := ZX.out.frozen 4
  have fX5 := ZX.out.frozen 5
  go_upto_region 4 with fail
  replace ZX := mkHid (ZX.out.fill6 (b0 := .int .i64 m.h) (b1 := .int .i64 m.cap) (b2 := .slice A1 m.l.length c1) (b3 := .int .i64 m.n) (b4 := .int .i64 m.draws) (b5 := .slice B1 m.sent.length d1))
  replace ZP := mkHid (ZP.out.other6 (g := w.heap.size) (x0 := .int .i64 m.h) (x1 := .int .i64 m.cap) (x2 := .slice A1 m.l.length c1) (x3 := .int .i64 m.n) (x4 := .int .i64 m.draws) (x5 := .slice B1 m.sent.length d1) (by omega))
  replace ZZ := mkHid (ZZ.out.other6 (g := w.heap.size) (x0 := .int .i64 m.h) (x1 := .int .i64 m.cap) (x2 := .slice A1 m.l.length c1) (x3 := .int .i64 m.n) (x4 := .int .i64 m.draws) (x5 := .slice B1 m.sent.length d1) (by omega))
  replace ZA := mkHid (ZA.out.other6 (g := w.heap.size) (x0 := .int .i64 m.h) (x1 := .int .i64 m.cap) (x2 := .slice A1 m.l.length c1) (x3 := .int .i64 m.n) (x4 := .int .i64 m.draws) (x5 := .slice B1 m.sent.length d1) (by omega))
  replace KB := mkHid (below_six KB.out (Nat.le_refl _) (.int .i64 m.h) (.int .i64 m.cap) (.slice A1 m.l.length c1) (.int .i64 m.n) (.int .i64 m.draws) (.slice B1 m.sent.length d1))
  replace HO := mkHid (HO.out.past6 (g := w.heap.size) (by omega) (.int .i64 m.h) (.int .i64 m.cap) (.slice A1 m.l.length c1) (.int .i64 m.n) (.int .i64 m.draws) (.slice B1 m.sent.length d1))
  clear lZA cX cP fX0 fX1 fX2 fX3 fX4 fX5
  generalize ((((((w2.setCell ⟨w.heap.size, 0, none⟩ (.int .i64 m.h)).setCell ⟨w.heap.size, 1, none⟩ (.int .i64 m.cap)).setCell ⟨w.heap.size, 2, none⟩ (.slice A1 m.l.length c1)).setCell ⟨w.heap.size, 3, none⟩ (.int .i64 m.n)).setCell ⟨w.heap.size, 4, none⟩ (.int .i64 m.draws)).setCell ⟨w.heap.size, 5, none⟩ (.slice B1 m.sent.length d1)) = w3 at *
  have lZA : w.heap.size + 1 + 1 + 1 < w3.heap.size := ZA.out.lt
  have cX := ZX.out.six
  have cP := ZP.out.five
  have cA := ZA.out.five
  have HRd := mkHid HO.out.reads
  have fa := ZA.out.frozen 0
  go_wp2_with fail
  refine (cw_over f hn.out w.heap.size A1 c1 B1 d1 _ ZX.out HRd.out).mono ?_
  rintro e w4 ⟨rfl, hb⟩
  clear HRd fa
  replace ZX := mkHid (ZX.out.keep hb)
  replace ZP := mkHid (ZP.out.keep hb)
  replace ZZ := mkHid (ZZ.out.keep hb)
  replace ZA := mkHid (ZA.out.keep hb)
  replace KB := mkHid (KB.out.step hb)
  replace HO := mkHid (HO.out.below hb)
  clear hb
  clear lZA cX cP cA
  have lZA : w.heap.size + 1 + 1 + 1 < w4.heap.size := ZA.out.lt
  have cX := ZX.out.six
  have cP := ZP.out.five
  have cA := ZA.out.five
  have fa := ZA.out.frozen 0
  go_upto_region 23 with fail
  clear fa
  replace ZX : Hid (Blk (w4.setCell ⟨w.heap.size + 1 + 1 + 1, 0, none⟩ (.int .i64 9)) w.heap.size 45 #[.int .i64 m.h, .int .i64 m.cap, .slice A1 m.l.length c1, .int .i64 m.n, .int .i64 m.draws, .slice B1 m.sent.length d1]) := mkHid ((ZX.out.other _ (by omega)))
  replace ZP : Hid (Blk (w4.setCell ⟨w.heap.size + 1 + 1 + 1, 0, none⟩ (.int .i64 9)) (w.heap.size + 1) 53 #[.int .i64 1, .int .u64 (i : Int), .int .i64 n, .int .u64 (p1.toNat : Int), .int .u64 (p2.toNat : Int)]) := mkHid ((ZP.out.other _ (by omega)))
  replace ZZ : Hid (Blk (w4.setCell ⟨w.heap.size + 1 + 1 + 1, 0, none⟩ (.int .i64 9)) (w.heap.size + 1 + 1) 45 #[.int .i64 0, .int .i64 0, .slice none 0 0, .int .i64 0, .int .i64 0, .slice none 0 0]) := mkHid ((ZZ.out.other _ (by omega)))
  replace ZA : Hid (Blk (w4.setCell ⟨w.heap.size + 1 + 1 + 1, 0, none⟩ (.int .i64 9)) (w.heap.size + 1 + 1 + 1) 55 #[.int .i64 9, .int .i64 0, .int .i64 0, .int .u64 0, .int .u64 0]) := mkHid ((ZA.out.set 0 (.int .i64 9)))
  replace KB : Hid (Below w.heap.size w (w4.setCell ⟨w.heap.size + 1 + 1 + 1, 0, none⟩ (.int .i64 9))) := mkHid ((KB.out.setCell (by show w.heap.size ≤ w.heap.size + 1 + 1 + 1; omega) _))
  replace HO := mkHid ((HO.out.past (g := w.heap.size + 1 + 1 + 1) (by omega) 0 (.int .i64 9)))
  generalize (w4.setCell ⟨w.heap.size + 1 + 1 + 1, 0, none⟩ (.int .i64 9)) = w5 at *
  clear lZA cX cP cA
  have lZA : w.heap.size + 1 + 1 + 1 < w5.heap.size := ZA.out.lt
  have cX := ZX.out.six
  have cP := ZP.out.five
  have cA := ZA.out.five
  replace ZX : Hid (Blk w5.drew _ _ _) := mkHid ZX.out.drew
  replace ZA : Hid (Blk w5.drew _ _ _) := mkHid ZA.out.drew
  replace ZZ : Hid (Blk w5.drew _ _ _) := mkHid ZZ.out.drew
  replace KB : Hid (Below w.heap.size w w5.drew) := mkHid KB.out.drew
  replace HO := mkHid (HO.out.below (Below.drew (Below.refl _ w5)))
  clear cX cP cA
  have cZ := ZZ.out.six
  have cA := ZA.out.five
  have gz0 := ZZ.out.frozen 0
  have gz1 := ZZ.out.frozen 1
  have gz2 := ZZ.out.frozen 2
  have gz3 := ZZ.out.frozen 3
  have gz4 := ZZ.out.frozen 4
  have gz5 := ZZ.out.frozen 5
  have ga0 := ZA.out.frozen 0
  have ga1 := ZA.out.frozen 1
  have ga2 := ZA.out.frozen 2
  have ga3 := ZA.out.frozen 3
  have ga4 := ZA.out.frozen 4
  clear ZP
  refine wp_region_late (late := fun i => decide (3 ≤ i)) (S := fun w' => Hid (Blk w' w.heap.size 45 #[.int .i64 m.h, .int .i64 m.cap, .slice A1 m.l.length c1, .int .i64 m.n, .int .i64 m.draws, .slice B1 m.sent.length d1]) ∧ Hid (Blk w' (w.heap.size + 1 + 1 + 1) 55 #[.int .i64 9, .int .i64 0, .int .i64 0, .int .u64 0, .int .u64 0])) (by kernel_rfl) ?_ (fun hHeld => ?_)
  · ((try dsimp only); refine ⟨?_, ?_⟩ <;> first | with_reducible assumption | (with_reducible refine mkHid (Blk.other6 (Hid.out ?_) ?_) <;> first | with_reducible assumption | omega))
  generalize w5.drew = u at *
  refine Any.take (i := 0) (v := ?_) rfl (by kernel_rfl) (by kernel_rfl) (by kernel_rfl) (by kernel_rfl) (fun _ _ _ h => h) (Or.inl ⟨by rfl, ?_⟩) hHeld ?_
  rotate_left
  · intro w hSw
    (try dsimp only at hSw)
    have q := hSw.1.out.six
    clear hSw
    go_simp
    all_goals with_reducible rfl
  try simp only [List.getElem_toArray, List.getElem_cons_succ, List.getElem_cons_zero, Act.put, List.setIfInBounds_toArray, List.set_cons_zero, List.set_cons_succ]
  refine Any.take (i := 1) (v := ?_) rfl (by kernel_rfl) (by kernel_rfl) (by kernel_rfl) (by kernel_rfl) (fun _ _ _ h => h) (Or.inl ⟨by rfl, ?_⟩) hHeld ?_
  rotate_left
  · intro w hSw
    (try dsimp only at hSw)
    have q := hSw.2.out.five
    clear hSw
    go_simp
    all_goals with_reducible rfl
  try simp only [List.getElem_toArray, List.getElem_cons_succ, List.getElem_cons_zero, Act.put, List.setIfInBounds_toArray, List.set_cons_zero, List.set_cons_succ]
  refine Any.ready (rs := [2]) (by kernel_rfl) (by simp) ?_
  refine AllAny.cons rfl rfl (fun K hK => ?_) AllAny.nil
  go_simp
  refine hK.out _ _ ?_ (fun hHeld => ?_)
  · ((try dsimp only); refine ⟨?_, ?_⟩ <;> first | with_reducible assumption | (with_reducible refine mkHid (Blk.other6 (Hid.out ?_) ?_) <;> first | with_reducible assumption | omega))
  clear hK K
  try simp only [List.getElem_toArray, List.getElem_cons_succ, List.getElem_cons_zero, Act.put, List.setIfInBounds_toArray, List.set_cons_zero, List.set_cons_succ]
  refine Any.ready (rs := [3]) (by kernel_rfl) (by simp) ?_
  refine AllAny.lateCons rfl rfl (fun K hK => ?_) AllAny.nil
  go_simp
  refine hK.out _ _ ?_
  clear hK K
  try simp only [List.getElem_toArray, List.getElem_cons_succ, List.getElem_cons_zero, Act.put, List.setIfInBounds_toArray, List.set_cons_zero, List.set_cons_succ]
  refine Any.ready (rs := [4]) (by kernel_rfl) (by simp) ?_
  refine AllAny.lateCons rfl rfl (fun K hK => ?_) AllAny.nil
  go_simp
  refine hK.out _ _ ?_
  clear hK K
  try simp only [List.getElem_toArray, List.getElem_cons_succ, List.getElem_cons_zero, Act.put, List.setIfInBounds_toArray, List.set_cons_zero, List.set_cons_succ]
  refine Any.done (by kernel_rfl) ?_ _
  have qR := ((ZZ.out.fill6 (b0 := .int .i64 m.h) (b1 := .int .i64 m.cap) (b2 := .slice A1 m.l.length c1) (b3 := .int .i64 m.n) (b4 := .int .i64 m.draws) (b5 := .slice B1 m.sent.length d1)).other5 (g := w.heap.size + 1 + 1 + 1) (x0 := .int .i64 9) (x1 := .int .i64 0) (x2 := .int .i64 0) (x3 := .int .u64 0) (x4 := .int .u64 0) (by omega)).six
  have qA := ((ZA.out.other6 (g := w.heap.size + 1 + 1) (x0 := .int .i64 m.h) (x1 := .int .i64 m.cap) (x2 := .slice A1 m.l.length c1) (x3 := .int .i64 m.n) (x4 := .int .i64 m.draws) (x5 := .slice B1 m.sent.length d1) (by omega)).fill5 (b0 := .int .i64 9) (b1 := .int .i64 0) (b2 := .int .i64 0) (b3 := .int .u64 0) (b4 := .int .u64 0)).five
  go_wp2_with fail
  refine bodyPost_ret (v := .tuple #[.agg #[.int .i64 m.h, .int .i64 m.cap, .slice A1 m.l.length c1, .int .i64 m.n, .int .i64 m.draws, .slice B1 m.sent.length d1], .agg #[.int .i64 9, .int .i64 0, .int .i64 0, .int .u64 0, .int .u64 0], .int .i64 0]) (by simp [results, Try.results29, go_sem, qR, qA]) rfl ⟨_, _, _, _, X1, rfl, OwnM.base (b' := w.heap.size + 4) ?_ (by omega), below_five (below_six KB.out (by omega) _ _ _ _ _ _) (by omega) _ _ _ _ _⟩
  exact (HO.out.past6 (by omega) _ _ _ _ _ _).past5 (by omega) _ _ _ _ _

set_option linter.unusedSimpArgs false in
set_option maxRecDepth 100000 in
set_option maxHeartbeats 4000000 in
theorem do1_ok {m : ModD} {i : Nat} {n : Int} {p1 p2 : BitVec 64} (e : Hid ((if okM m then (0 : Int) else 1) = 0)) {L : List Nat} (f : Hid (withAll m.h m.l i = (L, 0))) (h1 : (m.l.length : Int) < m.cap) (hn : m.n ≠ 1099511627776) (n0 : 0 ≤ m.n) (n1 : m.n ≤ 1099511627776) (A : Option Addr) (c : Nat) (B : Option Addr) (d : Nat) (w : World) (hM : MemM w A c B d m) :
    Calls Try.prog 29 #[.agg #[.int .i64 m.h, .int .i64 m.cap, .slice A m.l.length c, .int .i64 m.n, .int .i64 m.draws, .slice B m.sent.length d], .agg #[.int .i64 1, .int .u64 (i : Int), .int .i64 n, .int .u64 (p1.toNat : Int), .int .u64 (p2.toNat : Int)]] w (DoPost { m with l := L, n := m.n + 1 } (ansE 0) 0 w) := by
  have HS := mkHid (okM_sizes (m := m) (by cases hk : okM m with | true => rfl | false => exact absurd e.out (by rw [hk]; simp)))
  have t1 : decide ((m.l.length : Int) < m.cap) = true := decide_eq_true h1
  have ZX : Hid (Blk ((((w.alloc (.cells #[.int .i64 m.h, .int .i64 m.cap, .slice A m.l.length c, .int .i64 m.n, .int .i64 m.draws, .slice B m.sent.length d] 45)).alloc (.cells #[.int .i64 1, .int .u64 (i : Int), .int .i64 n, .int .u64 (p1.toNat : Int), .int .u64 (p2.toNat : Int)] 53)).alloc (.cells #[.int .i64 0, .int .i64 0, .slice none 0 0, .int .i64 0, .int .i64 0, .slice none 0 0] 45)).alloc (.cells #[.int .i64 0, .int .i64 0, .int .i64 0, .int .u64 0, .int .u64 0] 55)) w.heap.size 45 #[.int .i64 m.h, .int .i64 m.cap, .slice A m.l.length c, .int .i64 m.n, .int .i64 m.draws, .slice B m.sent.length d]) := mkHid ((((Blk.new _ _ _).alloc _).alloc _).alloc _)
  have ZP : Hid (Blk ((((w.alloc (.cells #[.int .i64 m.h, .int .i64 m.cap, .slice A m.l.length c, .int .i64 m.n, .int .i64 m.draws, .slice B m.sent.length d] 45)).alloc (.cells #[.int .i64 1, .int .u64 (i : Int), .int .i64 n, .int .u64 (p1.toNat : Int), .int .u64 (p2.toNat : Int)] 53)).alloc (.cells #[.int .i64 0, .int .i64 0, .slice none 0 0, .int .i64 0, .int .i64 0, .slice none 0 0] 45)).alloc (.cells #[.int .i64 0, .int .i64 0, .int .i64 0, .int .u64 0, .int .u64 0] 55)) (w.heap.size + 1) 53 #[.int .i64 1, .int .u64 (i : Int), .int .i64 n, .int .u64 (p1.toNat : Int), .int .u64 (p2.toNat : Int)]) := mkHid (((Blk.at _ _ _ (by simp)).alloc _).alloc _)
  have ZZ : Hid (Blk ((((w.alloc (.cells #[.int .i64 m.h, .int .i64 m.cap, .slice A m.l.length c, .int .i64 m.n, .int .i64 m.draws, .slice B m.sent.length d] 45)).alloc (.cells #[.int .i64 1, .int .u64 (i : Int), .int .i64 n, .int .u64 (p1.toNat : Int), .int .u64 (p2.toNat : Int)] 53)).alloc (.cells #[.int .i64 0, .int .i64 0, .slice none 0 0, .int .i64 0, .int .i64 0, .slice none 0 0] 45)).alloc (.cells #[.int .i64 0, .int .i64 0, .int .i64 0, .int .u64 0, .int .u64 0] 55)) (w.heap.size + 1 + 1) 45 #[.int .i64 0, .int .i64 0, .slice none 0 0, .int .i64 0, .int .i64 0, .slice none 0 0]) := mkHid ((Blk.at _ _ _ (by simp)).alloc _)
  have ZA : Hid (Blk ((((w.alloc (.cells #[.int .i64 m.h, .int .i64 m.cap, .slice A m.l.length c, .int .i64 m.n, .int .i64 m.draws, .slice B m.sent.length d] 45)).alloc (.cells #[.int .i64 1, .int .u64 (i : Int), .int .i64 n, .int .u64 (p1.toNat : Int), .int .u64 (p2.toNat : Int)] 53)).alloc (.cells #[.int .i64 0, .int .i64 0, .slice none 0 0, .int .i64 0, .int .i64 0, .slice none 0 0] 45)).alloc (.cells #[.int .i64 0, .int .i64 0, .int .i64 0, .int .u64 0, .int .u64 0] 55)) (w.heap.size + 1 + 1 + 1) 55 #[.int .i64 0, .int .i64 0, .int .i64 0, .int .u64 0, .int .u64 0]) := mkHid (Blk.at _ _ _ (by simp))
  have KB : Hid (Below w.heap.size w ((((w.alloc (.cells #[.int .i64 m.h, .int .i64 m.cap, .slice A m.l.length c, .int .i64 m.n, .int .i64 m.draws, .slice B m.sent.length d] 45)).alloc (.cells #[.int .i64 1, .int .u64 (i : Int), .int .i64 n, .int .u64 (p1.toNat : Int), .int .u64 (p2.toNat : Int)] 53)).alloc (.cells #[.int .i64 0, .int .i64 0, .slice none 0 0, .int .i64 0, .int .i64 0, .slice none 0 0] 45)).alloc (.cells #[.int .i64 0, .int .i64 0, .int .i64 0, .int .u64 0, .int .u64 0] 55))) := mkHid (((((Below.refl _ _).alloc (Nat.le_refl _) (.cells #[.int .i64 m.h, .int .i64 m.cap, .slice A m.l.length c, .int .i64 m.n, .int .i64 m.draws, .slice B m.sent.length d] 45)).alloc (by simp) (.cells #[.int .i64 1, .int .u64 (i : Int), .int .i64 n, .int .u64 (p1.toNat : Int), .int .u64 (p2.toNat : Int)] 53)).alloc (by simp; omega) (.cells #[.int .i64 0, .int .i64 0, .slice none 0 0, .int .i64 0, .int .i64 0, .slice none 0 0] 45)).alloc (by simp; omega) (.cells #[.int .i64 0, .int .i64 0, .int .i64 0, .int .u64 0, .int .u64 0] 55))
  have HM := mkHid (hM.below (((((Below.refl _ _).alloc (Nat.le_refl _) (.cells #[.int .i64 m.h, .int .i64 m.cap, .slice A m.l.length c, .int .i64 m.n, .int .i64 m.draws, .slice B m.sent.length d] 45)).alloc (by simp) (.cells #[.int .i64 1, .int .u64 (i : Int), .int .i64 n, .int .u64 (p1.toNat : Int), .int .u64 (p2.toNat : Int)] 53)).alloc (by simp; omega) (.cells #[.int .i64 0, .int .i64 0, .slice none 0 0, .int .i64 0, .int .i64 0, .slice none 0 0] 45)).alloc (by simp; omega) (.cells #[.int .i64 0, .int .i64 0, .int .i64 0, .int .u64 0, .int .u64 0] 55)))
  clear hM
  go_enter Try.func29, Try.ntmps29
  go_upto_region 1 with fail
  generalize ((((w.alloc (.cells #[.int .i64 m.h, .int .i64 m.cap, .slice A m.l.length c, .int .i64 m.n, .int .i64 m.draws, .slice B m.sent.length d] 45)).alloc (.cells #[.int .i64 1, .int .u64 (i : Int), .int .i64 n, .int .u64 (p1.toNat : Int), .int .u64 (p2.toNat : Int)] 53)).alloc (.cells #[.int .i64 0, .int .i64 0, .slice none 0 0, .int .i64 0, .int .i64 0, .slice none 0 0] 45)).alloc (.cells #[.int .i64 0, .int .i64 0, .int .i64 0, .int .u64 0, .int .u64 0] 55)) = w0 at *
  have lZA : w.heap.size + 1 + 1 + 1 < w0.heap.size := ZA.out.lt
  have cX := ZX.out.six
  have cP := ZP.out.five
  go_wp2_with fail
  refine (mchk e _ _ _ _ _ HM.out).mono ?_
  rintro e w1 ⟨rfl, hb⟩
  replace ZX := mkHid (ZX.out.keep hb)
  replace ZP := mkHid (ZP.out.keep hb)
  replace ZZ := mkHid (ZZ.out.keep hb)
  replace ZA := mkHid (ZA.out.keep hb)
  replace KB := mkHid (KB.out.step hb)
  replace HM := mkHid (HM.out.below hb)
  clear hb
  clear lZA cX cP
  have lZA : w.heap.size + 1 + 1 + 1 < w1.heap.size := ZA.out.lt
  have cX := ZX.out.six
  have cP := ZP.out.five
  go_wp2_with fail
  refine (mown HS.out.1 HS.out.2.1 HS.out.2.2 _ _ _ _ _ HM.out).mono ?_
  rintro e w2 ⟨⟨A1, c1, B1, d1, X1, rfl, ho⟩, hb⟩
  have HO := mkHid (ho.base (b := w.heap.size + 4) (by omega))
  clear ho HM
  replace ZX := mkHid (ZX.out.keep hb)
  replace ZP := mkHid (ZP.out.keep hb)
  replace ZZ := mkHid (ZZ.out.keep hb)
  replace ZA := mkHid (ZA.out.keep hb)
  replace KB := mkHid (KB.out.step hb)
  clear hb
  clear lZA cX cP
  have lZA : w.heap.size + 1 + 1 + 1 < w2.heap.size := ZA.out.lt
  have cX := ZX.out.six
  have cP := ZP.out.five
  have fX0 := ZX.out.frozen 0
  have fX1 := ZX.out.frozen 1
  have fX2 := ZX.out.frozen 2
  have fX3 := ZX.out.frozen 3
  have fX4 := ZX.out.frozen 4
  have fX5 := ZX.out.frozen 5
  go_upto_region 4 with fail
  replace ZX := mkHid (ZX.out.fill6 (b0 := .int .i64 m.h) (b1 := .int .i64 m.cap) (b2 := .slice A1 m.l.length c1) (b3 := .int .i64 m.n) (b4 := .int .i64 m.draws) (b5 := .slice B1 m.sent.length d1))
  replace ZP := mkHid (ZP.out.other6 (g := w.heap.size) (x0 := .int .i64 m.h) (x1 := .int .i64 m.cap) (x2 := .slice A1 m.l.length c1) (x3 := .int .i64 m.n) (x4 := .int .i64 m.draws) (x5 := .slice B1 m.sent.length d1) (by omega))
  replace ZZ := mkHid (ZZ.out.other6 (g := w.heap.size) (x0 := .int .i64 m.h) (x1 := .int .i64 m.cap) (x2 := .slice A1 m.l.length c1) (x3 := .int .i64 m.n) (x4 := .int .i64 m.draws) (x5 := .slice B1 m.sent.length d1) (by omega))
  replace ZA := mkHid (ZA.out.other6 (g := w.heap.size) (x0 := .int .i64 m.h) (x1 := .int .i64 m.cap) (x2 := .slice A1 m.l.length c1) (x3 := .int .i64 m.n) (x4 := .int .i64 m.draws) (x5 := .slice B1 m.sent.length d1) (by omega))
  replace KB := mkHid (below_six KB.out (Nat.le_refl _) (.int .i64 m.h) (.int .i64 m.cap) (.slice A1 m.l.length c1) (.int .i64 m.n) (.int .i64 m.draws) (.slice B1 m.sent.length d1))
  replace HO := mkHid (HO.out.past6 (g := w.heap.size) (by omega) (.int .i64 m.h) (.int .i64 m.cap) (.slice A1 m.l.length c1) (.int .i64 m.n) (.int .i64 m.draws) (.slice B1 m.sent.length d1))
  clear lZA cX cP fX0 fX1 fX2 fX3 fX4 fX5
  generalize ((((((w2.setCell ⟨w.heap.size, 0, none⟩ (.int .i64 m.h)).setCell ⟨w.heap.size, 1, none⟩ (.int .i64 m.cap)).setCell ⟨w.heap.size, 2, none⟩ (.slice A1 m.l.length c1)).setCell ⟨w.heap.size, 3, none⟩ (.int .i64 m.n)).setCell ⟨w.heap.size, 4, none⟩ (.int .i64 m.draws)).setCell ⟨w.heap.size, 5, none⟩ (.slice B1 m.sent.length d1)) = w3 at *
  have lZA : w.heap.size + 1 + 1 + 1 < w3.heap.size := ZA.out.lt
  have cX := ZX.out.six
  have cP := ZP.out.five
  have cA := ZA.out.five
  have HRd := mkHid HO.out.reads
  have fa := ZA.out.frozen 0
  go_wp2_with fail
  refine (cw_ok f hn n0 n1 w.heap.size A1 c1 B1 d1 _ ZX.out HRd.out).mono ?_
  rintro e w4 ⟨A2, c2, rfl, hrow, hz, hg⟩
  clear HRd fa
  replace ZX := mkHid hz
  replace ZP := mkHid (ZP.out.grown hg (by omega))
  replace ZZ := mkHid (ZZ.out.grown hg (by omega))
  replace ZA := mkHid (ZA.out.grown hg (by omega))
  replace KB := mkHid (KB.out.grown hg (by omega) (fun k hk => by cases hk; omega))
  replace HO := mkHid ((HO.out.grown hg (by omega)).newL (k := m.n + 1) (RowOf.rebase hrow (by omega)))
  clear hz hg hrow lZA cX cP cA
  have lZA : w.heap.size + 1 + 1 + 1 < w4.heap.size := ZA.out.lt
  have cX := ZX.out.six
  have cP := ZP.out.five
  have cA := ZA.out.five
  have fa := ZA.out.frozen 0
  go_upto_region 23 with fail
  clear fa
  replace ZX : Hid (Blk (w4.setCell ⟨w.heap.size + 1 + 1 + 1, 0, none⟩ (.int .i64 0)) w.heap.size 45 #[.int .i64 m.h, .int .i64 m.cap, .slice A2 L.length c2, .int .i64 (m.n + 1), .int .i64 m.draws, .slice B1 m.sent.length d1]) := mkHid ((ZX.out.other _ (by omega)))
  replace ZP : Hid (Blk (w4.setCell ⟨w.heap.size + 1 + 1 + 1, 0, none⟩ (.int .i64 0)) (w.heap.size + 1) 53 #[.int .i64 1, .int .u64 (i : Int), .int .i64 n, .int .u64 (p1.toNat : Int), .int .u64 (p2.toNat : Int)]) := mkHid ((ZP.out.other _ (by omega)))
  replace ZZ : Hid (Blk (w4.setCell ⟨w.heap.size + 1 + 1 + 1, 0, none⟩ (.int .i64 0)) (w.heap.size + 1 + 1) 45 #[.int .i64 0, .int .i64 0, .slice none 0 0, .int .i64 0, .int .i64 0, .slice none 0 0]) := mkHid ((ZZ.out.other _ (by omega)))
  replace ZA : Hid (Blk (w4.setCell ⟨w.heap.size + 1 + 1 + 1, 0, none⟩ (.int .i64 0)) (w.heap.size + 1 + 1 + 1) 55 #[.int .i64 0, .int .i64 0, .int .i64 0, .int .u64 0, .int .u64 0]) := mkHid ((ZA.out.set 0 (.int .i64 0)))
  replace KB : Hid (Below w.heap.size w (w4.setCell ⟨w.heap.size + 1 + 1 + 1, 0, none⟩ (.int .i64 0))) := mkHid ((KB.out.setCell (by show w.heap.size ≤ w.heap.size + 1 + 1 + 1; omega) _))
  replace HO := mkHid ((HO.out.past (g := w.heap.size + 1 + 1 + 1) (by omega) 0 (.int .i64 0)))
  generalize (w4.setCell ⟨w.heap.size + 1 + 1 + 1, 0, none⟩ (.int .i64 0)) = w5 at *
  clear lZA cX cP cA
  have lZA : w.heap.size + 1 + 1 + 1 < w5.heap.size := ZA.out.lt
  have cX := ZX.out.six
  have cP := ZP.out.five
  have cA := ZA.out.five
  replace ZX : Hid (Blk w5.drew _ _ _) := mkHid ZX.out.drew
  replace ZA : Hid (Blk w5.drew _ _ _) := mkHid ZA.out.drew
  replace ZZ : Hid (Blk w5.drew _ _ _) := mkHid ZZ.out.drew
  replace KB : Hid (Below w.heap.size w w5.drew) := mkHid KB.out.drew
  replace HO := mkHid (HO.out.below (Below.drew (Below.refl _ w5)))
  clear cX cP cA
  have cZ := ZZ.out.six
  have cA := ZA.out.five
  have gz0 := ZZ.out.frozen 0
  have gz1 := ZZ.out.frozen 1
  have gz2 := ZZ.out.frozen 2
  have gz3 := ZZ.out.frozen 3
  have gz4 := ZZ.out.frozen 4
  have gz5 := ZZ.out.frozen 5
  have ga0 := ZA.out.frozen 0
  have ga1 := ZA.out.frozen 1
  have ga2 := ZA.out.frozen 2
  have ga3 := ZA.out.frozen 3
  have ga4 := ZA.out.frozen 4
  clear ZP
  refine wp_region_late (late := fun i => decide (3 ≤ i)) (S := fun w' => Hid (Blk w' w.heap.size 45 #[.int .i64 m.h, .int .i64 m.cap, .slice A2 L.length c2, .int .i64 (m.n + 1), .int .i64 m.draws, .slice B1 m.sent.length d1]) ∧ Hid (Blk w' (w.heap.size + 1 + 1 + 1) 55 #[.int .i64 0, .int .i64 0, .int .i64 0, .int .u64 0, .int .u64 0])) (by kernel_rfl) ?_ (fun hHeld => ?_)
  · ((try dsimp only); refine ⟨?_, ?_⟩ <;> first | with_reducible assumption | (with_reducible refine mkHid (Blk.other6 (Hid.out ?_) ?_) <;> first | with_reducible assumption | omega))
  generalize w5.drew = u at *
  refine Any.take (i := 0) (v := ?_) rfl (by kernel_rfl) (by kernel_rfl) (by kernel_rfl) (by kernel_rfl) (fun _ _ _ h => h) (Or.inl ⟨by rfl, ?_⟩) hHeld ?_
  rotate_left
  · intro w hSw
    (try dsimp only at hSw)
    have q := hSw.1.out.six
    clear hSw
    go_simp
    all_goals with_reducible rfl
  try simp only [List.getElem_toArray, List.getElem_cons_succ, List.getElem_cons_zero, Act.put, List.setIfInBounds_toArray, List.set_cons_zero, List.set_cons_succ]
  refine Any.take (i := 1) (v := ?_) rfl (by kernel_rfl) (by kernel_rfl) (by kernel_rfl) (by kernel_rfl) (fun _ _ _ h => h) (Or.inl ⟨by rfl, ?_⟩) hHeld ?_
  rotate_left
  · intro w hSw
    (try dsimp only at hSw)
    have q := hSw.2.out.five
    clear hSw
    go_simp
    all_goals with_reducible rfl
  try simp only [List.getElem_toArray, List.getElem_cons_succ, List.getElem_cons_zero, Act.put, List.setIfInBounds_toArray, List.set_cons_zero, List.set_cons_succ]
  refine Any.ready (rs := [2]) (by kernel_rfl) (by simp) ?_
  refine AllAny.cons rfl rfl (fun K hK => ?_) AllAny.nil
  go_simp
  refine hK.out _ _ ?_ (fun hHeld => ?_)
  · ((try dsimp only); refine ⟨?_, ?_⟩ <;> first | with_reducible assumption | (with_reducible refine mkHid (Blk.other6 (Hid.out ?_) ?_) <;> first | with_reducible assumption | omega))
  clear hK K
  try simp only [List.getElem_toArray, List.getElem_cons_succ, List.getElem_cons_zero, Act.put, List.setIfInBounds_toArray, List.set_cons_zero, List.set_cons_succ]
  refine Any.ready (rs := [3]) (by kernel_rfl) (by simp) ?_
  refine AllAny.lateCons rfl rfl (fun K hK => ?_) AllAny.nil
  go_simp
  refine hK.out _ _ ?_
  clear hK K
  try simp only [List.getElem_toArray, List.getElem_cons_succ, List.getElem_cons_zero, Act.put, List.setIfInBounds_toArray, List.set_cons_zero, List.set_cons_succ]
  refine Any.ready (rs := [4]) (by kernel_rfl) (by simp) ?_
  refine AllAny.lateCons rfl rfl (fun K hK => ?_) AllAny.nil
  go_simp
  refine hK.out _ _ ?_
  clear hK K
  try simp only [List.getElem_toArray, List.getElem_cons_succ, List.getElem_cons_zero, Act.put, List.setIfInBounds_toArray, List.set_cons_zero, List.set_cons_succ]
  refine Any.done (by kernel_rfl) ?_ _
  have qR := ((ZZ.out.fill6 (b0 := .int .i64 m.h) (b1 := .int .i64 m.cap) (b2 := .slice A2 L.length c2) (b3 := .int .i64 (m.n + 1)) (b4 := .int .i64 m.draws) (b5 := .slice B1 m.sent.length d1)).other5 (g := w.heap.size + 1 + 1 + 1) (x0 := .int .i64 0) (x1 := .int .i64 0) (x2 := .int .i64 0) (x3 := .int .u64 0) (x4 := .int .u64 0) (by omega)).six
  have qA := ((ZA.out.other6 (g := w.heap.size + 1 + 1) (x0 := .int .i64 m.h) (x1 := .int .i64 m.cap) (x2 := .slice A2 L.length c2) (x3 := .int .i64 (m.n + 1)) (x4 := .int .i64 m.draws) (x5 := .slice B1 m.sent.length d1) (by omega)).fill5 (b0 := .int .i64 0) (b1 := .int .i64 0) (b2 := .int .i64 0) (b3 := .int .u64 0) (b4 := .int .u64 0)).five
  go_wp2_with fail
  refine bodyPost_ret (v := .tuple #[.agg #[.int .i64 m.h, .int .i64 m.cap, .slice A2 L.length c2, .int .i64 (m.n + 1), .int .i64 m.draws, .slice B1 m.sent.length d1], .agg #[.int .i64 0, .int .i64 0, .int .i64 0, .int .u64 0, .int .u64 0], .int .i64 0]) (by simp [results, Try.results29, go_sem, qR, qA]) rfl ⟨_, _, _, _, X1, rfl, OwnM.base (b' := w.heap.size + 4) ?_ (by omega), below_five (below_six KB.out (by omega) _ _ _ _ _ _) (by omega) _ _ _ _ _⟩
  exact (HO.out.past6 (by omega) _ _ _ _ _ _).past5 (by omega) _ _ _ _ _
end Go.Proofs.Ytmehbonjpmlmfaa

namespace Go.Proofs.Ytmehbonjpmlmfaa
open Go.RowKit

set_option linter.unusedSimpArgs false in
set_option maxRecDepth 100000 in
set_option maxHeartbeats 4000000 in
theorem do2_err {m : ModD} {i : Nat} {n : Int} {p1 p2 : BitVec 64} (e : Hid ((if okM m then (0 : Int) else 1) = 0)) {L : List Nat} {r : Int} (f : Hid (withoutAll m.h m.l i = (L, r))) (r0 : r ≠ 0) (r6 : r ≠ 6)  (A : Option Addr) (c : Nat) (B : Option Addr) (d : Nat) (w : World) (hM : MemM w A c B d m) :
    Calls Try.prog 29 #[.agg #[.int .i64 m.h, .int .i64 m.cap, .slice A m.l.length c, .int .i64 m.n, .int .i64 m.draws, .slice B m.sent.length d], .agg #[.int .i64 2, .int .u64 (i : Int), .int .i64 n, .int .u64 (p1.toNat : Int), .int .u64 (p2.toNat : Int)]] w (DoPost m (ansE r) 0 w) := by
  have HS := mkHid (okM_sizes (m := m) (by cases hk : okM m with | true => rfl | false => exact absurd e.out (by rw [hk]; simp)))
  skip
  have ZX : Hid (Blk ((((w.alloc (.cells #[.int .i64 m.h, .int .i64 m.cap, .slice A m.l.length c, .int .i64 m.n, .int .i64 m.draws, .slice B m.sent.length d] 45)).alloc (.cells #[.int .i64 2, .int .u64 (i : Int), .int .i64 n, .int .u64 (p1.toNat : Int), .int .u64 (p2.toNat : Int)] 53)).alloc (.cells #[.int .i64 0, .int .i64 0, .slice none 0 0, .int .i64 0, .int .i64 0, .slice none 0 0] 45)).alloc (.cells #[.int .i64 0, .int .i64 0, .int .i64 0, .int .u64 0, .int .u64 0] 55)) w.heap.size 45 #[.int .i64 m.h, .int .i64 m.cap, .slice A m.l.length c, .int .i64 m.n, .int .i64 m.draws, .slice B m.sent.length d]) := mkHid ((((Blk.new _ _ _).alloc _).alloc _).alloc _)
  have ZP : Hid (Blk ((((w.alloc (.cells #[.int .i64 m.h, .int .i64 m.cap, .slice A m.l.length c, .int .i64 m.n, .int .i64 m.draws, .slice B m.sent.length d] 45)).alloc (.cells #[.int .i64 2, .int .u64 (i : Int), .int .i64 n, .int .u64 (p1.toNat : Int), .int .u64 (p2.toNat : Int)] 53)).alloc (.cells #[.int .i64 0, .int .i64 0, .slice none 0 0, .int .i64 0, .int .i64 0, .slice none 0 0] 45)).alloc (.cells #[.int .i64 0, .int .i64 0, .int .i64 0, .int .u64 0, .int .u64 0] 55)) (w.heap.size + 1) 53 #[.int .i64 2, .int .u64 (i : Int), .int .i64 n, .int .u64 (p1.toNat : Int), .int .u64 (p2.toNat : Int)]) := mkHid (((Blk.at _ _ _ (by simp)).alloc _).alloc _)
  have ZZ : Hid (Blk ((((w.alloc (.cells #[.int .i64 m.h, .int .i64 m.cap, .slice A m.l.length c, .int .i64 m.n, .int .i64 m.draws, .slice B m.sent.length d] 45)).alloc (.cells #[.int .i64 2, .int .u64 (i : Int), .int .i64 n, .int .u64 (p1.toNat : Int), .int .u64 (p2.toNat : Int)] 53)).alloc (.cells #[.int .i64 0, .int .i64 0, .slice none 0 0, .int .i64 0, .int .i64 0, .slice none 0 0] 45)).alloc (.cells #[.int .i64 0, .int .i64 0, .int .i64 0, .int .u64 0, .int .u64 0] 55)) (w.heap.size + 1 + 1) 45 #[.int .i64 0, .int .i64 0, .slice none 0 0, .int .i64 0, .int .i64 0, .slice none 0 0]) := mkHid ((Blk.at _ _ _ (by simp)).alloc _)
  have ZA : Hid (Blk ((((w.alloc (.cells #[.int .i64 m.h, .int .i64 m.cap, .slice A m.l.length c, .int .i64 m.n, .int .i64 m.draws, .slice B m.sent.length d] 45)).alloc (.cells #[.int .i64 2, .int .u64 (i : Int), .int .i64 n, .int .u64 (p1.toNat : Int), .int .u64 (p2.toNat : Int)] 53)).alloc (.cells #[.int .i64 0, .int .i64 0, .slice none 0 0, .int .i64 0, .int .i64 0, .slice none 0 0] 45)).alloc (.cells #[.int .i64 0, .int .i64 0, .int .i64 0, .int .u64 0, .int .u64 0] 55)) (w.heap.size + 1 + 1 + 1) 55 #[.int .i64 0, .int .i64 0, .int .i64 0, .int .u64 0, .int .u64 0]) := mkHid (Blk.at _ _ _ (by simp))
  have KB : Hid (Below w.heap.size w ((((w.alloc (.cells #[.int .i64 m.h, .int .i64 m.cap, .slice A m.l.length c, .int .i64 m.n, .int .i64 m.draws, .slice B m.sent.length d] 45)).alloc (.cells #[.int .i64 2, .int .u64 (i : Int), .int .i64 n, .int .u64 (p1.toNat : Int), .int .u64 (p2.toNat : Int)] 53)).alloc (.cells #[.int .i64 0, .int .i64 0, .slice none 0 0, .int .i64 0, .int .i64 0, .slice none 0 0] 45)).alloc (.cells #[.int .i64 0, .int .i64 0, .int .i64 0, .int .u64 0, .int .u64 0] 55))) := mkHid (((((Below.refl _ _).alloc (Nat.le_refl _) (.cells #[.int .i64 m.h, .int .i64 m.cap, .slice A m.l.length c, .int .i64 m.n, .int .i64 m.draws, .slice B m.sent.length d] 45)).alloc (by simp) (.cells #[.int .i64 2, .int .u64 (i : Int), .int .i64 n, .int .u64 (p1.toNat : Int), .int .u64 (p2.toNat : Int)] 53)).alloc (by simp; omega) (.cells #[.int .i64 0, .int .i64 0, .slice none 0 0, .int .i64 0, .int .i64 0, .slice none 0 0] 45)).alloc (by simp; omega) (.cells #[.int .i64 0, .int .i64 0, .int .i64 0, .int .u64 0, .int .u64 0] 55))
  have HM := mkHid (hM.below (((((Below.refl _ _).alloc (Nat.le_refl _) (.cells #[.int .i64 m.h, .int .i64 m.cap, .slice A m.l.length c, .int .i64 m.n, .int .i64 m.draws, .slice B m.sent.length d] 45)).alloc (by simp) (.cells #[.int .i64 2, .int .u64 (i : Int), .int .i64 n, .int .u64 (p1.toNat : Int), .int .u64 (p2.toNat : Int)] 53)).alloc (by simp; omega) (.cells #[.int .i64 0, .int .i64 0, .slice none 0 0, .int .i64 0, .int .i64 0, .slice none 0 0] 45)).alloc (by simp; omega) (.cells #[.int .i64 0, .int .i64 0, .int .i64 0, .int .u64 0, .int .u64 0] 55)))
  clear hM
  go_enter Try.func29, Try.ntmps29
  go_upto_region 1 with fail
  generalize ((((w.alloc (.cells #[.int .i64 m.h, .int .i64 m.cap, .slice A m.l.length c, .int .i64 m.n, .int .i64 m.draws, .slice B m.sent.length d] 45)).alloc (.cells #[.int .i64 2, .int .u64 (i : Int), .int .i64 n, .int .u64 (p1.toNat : Int), .int .u64 (p2.toNat : Int)] 53)).alloc (.cells #[.int .i64 0, .int .i64 0, .slice none 0 0, .int .i64 0, .int .i64 0, .slice none 0 0] 45)).alloc (.cells #[.int .i64 0, .int .i64 0, .int .i64 0, .int .u64 0, .int .u64 0] 55)) = w0 at *
  have lZA : w.heap.size + 1 + 1 + 1 < w0.heap.size := ZA.out.lt
  have cX := ZX.out.six
  have cP := ZP.out.five
  go_wp2_with fail
  refine (mchk e _ _ _ _ _ HM.out).mono ?_
  rintro e w1 ⟨rfl, hb⟩
  replace ZX := mkHid (ZX.out.keep hb)
  replace ZP := mkHid (ZP.out.keep hb)
  replace ZZ := mkHid (ZZ.out.keep hb)
  replace ZA := mkHid (ZA.out.keep hb)
  replace KB := mkHid (KB.out.step hb)
  replace HM := mkHid (HM.out.below hb)
  clear hb
  clear lZA cX cP
  have lZA : w.heap.size + 1 + 1 + 1 < w1.heap.size := ZA.out.lt
  have cX := ZX.out.six
  have cP := ZP.out.five
  go_wp2_with fail
  refine (mown HS.out.1 HS.out.2.1 HS.out.2.2 _ _ _ _ _ HM.out).mono ?_
  rintro e w2 ⟨⟨A1, c1, B1, d1, X1, rfl, ho⟩, hb⟩
  have HO := mkHid (ho.base (b := w.heap.size + 4) (by omega))
  clear ho HM
  replace ZX := mkHid (ZX.out.keep hb)
  replace ZP := mkHid (ZP.out.keep hb)
  replace ZZ := mkHid (ZZ.out.keep hb)
  replace ZA := mkHid (ZA.out.keep hb)
  replace KB := mkHid (KB.out.step hb)
  clear hb
  clear lZA cX cP
  have lZA : w.heap.size + 1 + 1 + 1 < w2.heap.size := ZA.out.lt
  have cX := ZX.out.six
  have cP := ZP.out.five
  have fX0 := ZX.out.frozen 0
  have fX1 := ZX.out.frozen 1
  have fX2 := ZX.out.frozen 2
  have fX3 := ZX.out.frozen 3
  have fX4 := ZX.out.frozen 4
  have fX5 := ZX.out.frozen 5
  go_upto_region 4 with fail
  replace ZX := mkHid (ZX.out.fill6 (b0 := .int .i64 m.h) (b1 := .int .i64 m.cap) (b2 := .slice A1 m.l.length c1) (b3 := .int .i64 m.n) (b4 := .int .i64 m.draws) (b5 := .slice B1 m.sent.length d1))
  replace ZP := mkHid (ZP.out.other6 (g := w.heap.size) (x0 := .int .i64 m.h) (x1 := .int .i64 m.cap) (x2 := .slice A1 m.l.length c1) (x3 := .int .i64 m.n) (x4 := .int .i64 m.draws) (x5 := .slice B1 m.sent.length d1) (by omega))
  replace ZZ := mkHid (ZZ.out.other6 (g := w.heap.size) (x0 := .int .i64 m.h) (x1 := .int .i64 m.cap) (x2 := .slice A1 m.l.length c1) (x3 := .int .i64 m.n) (x4 := .int .i64 m.draws) (x5 := .slice B1 m.sent.length d1) (by omega))
  replace ZA := mkHid (ZA.out.other6 (g := w.heap.size) (x0 := .int .i64 m.h) (x1 := .int .i64 m.cap) (x2 := .slice A1 m.l.length c1) (x3 := .int .i64 m.n) (x4 := .int .i64 m.draws) (x5 := .slice B1 m.sent.length d1) (by omega))
  replace KB := mkHid (below_six KB.out (Nat.le_refl _) (.int .i64 m.h) (.int .i64 m.cap) (.slice A1 m.l.length c1) (.int .i64 m.n) (.int .i64 m.draws) (.slice B1 m.sent.length d1))
  replace HO := mkHid (HO.out.past6 (g := w.heap.size) (by omega) (.int .i64 m.h) (.int .i64 m.cap) (.slice A1 m.l.length c1) (.int .i64 m.n) (.int .i64 m.draws) (.slice B1 m.sent.length d1))
  clear lZA cX cP fX0 fX1 fX2 fX3 fX4 fX5
  generalize ((((((w2.setCell ⟨w.heap.size, 0, none⟩ (.int .i64 m.h)).setCell ⟨w.heap.size, 1, none⟩ (.int .i64 m.cap)).setCell ⟨w.heap.size, 2, none⟩ (.slice A1 m.l.length c1)).setCell ⟨w.heap.size, 3, none⟩ (.int .i64 m.n)).setCell ⟨w.heap.size, 4, none⟩ (.int .i64 m.draws)).setCell ⟨w.heap.size, 5, none⟩ (.slice B1 m.sent.length d1)) = w3 at *
  have lZA : w.heap.size + 1 + 1 + 1 < w3.heap.size := ZA.out.lt
  have cX := ZX.out.six
  have cP := ZP.out.five
  have cA := ZA.out.five
  have HRd := mkHid HO.out.reads
  have fa := ZA.out.frozen 0
  go_wp2_with fail
  refine (co_err_true f r0 r6 w.heap.size A1 c1 B1 d1 _ ZX.out HRd.out).mono ?_
  rintro e w4 ⟨rfl, hb⟩
  clear HRd fa
  replace ZX := mkHid (ZX.out.keep hb)
  replace ZP := mkHid (ZP.out.keep hb)
  replace ZZ := mkHid (ZZ.out.keep hb)
  replace ZA := mkHid (ZA.out.keep hb)
  replace KB := mkHid (KB.out.step hb)
  replace HO := mkHid (HO.out.below hb)
  clear hb
  clear lZA cX cP cA
  have lZA : w.heap.size + 1 + 1 + 1 < w4.heap.size := ZA.out.lt
  have cX := ZX.out.six
  have cP := ZP.out.five
  have cA := ZA.out.five
  have fa := ZA.out.frozen 0
  go_upto_region 23 with fail
  clear fa
  replace ZX : Hid (Blk (w4.setCell ⟨w.heap.size + 1 + 1 + 1, 0, none⟩ (.int .i64 r)) w.heap.size 45 #[.int .i64 m.h, .int .i64 m.cap, .slice A1 m.l.length c1, .int .i64 m.n, .int .i64 m.draws, .slice B1 m.sent.length d1]) := mkHid ((ZX.out.other _ (by omega)))
  replace ZP : Hid (Blk (w4.setCell ⟨w.heap.size + 1 + 1 + 1, 0, none⟩ (.int .i64 r)) (w.heap.size + 1) 53 #[.int .i64 2, .int .u64 (i : Int), .int .i64 n, .int .u64 (p1.toNat : Int), .int .u64 (p2.toNat : Int)]) := mkHid ((ZP.out.other _ (by omega)))
  replace ZZ : Hid (Blk (w4.setCell ⟨w.heap.size + 1 + 1 + 1, 0, none⟩ (.int .i64 r)) (w.heap.size + 1 + 1) 45 #[.int .i64 0, .int .i64 0, .slice none 0 0, .int .i64 0, .int .i64 0, .slice none 0 0]) := mkHid ((ZZ.out.other _ (by omega)))
  replace ZA : Hid (Blk (w4.setCell ⟨w.heap.size + 1 + 1 + 1, 0, none⟩ (.int .i64 r)) (w.heap.size + 1 + 1 + 1) 55 #[.int .i64 r, .int .i64 0, .int .i64 0, .int .u64 0, .int .u64 0]) := mkHid ((ZA.out.set 0 (.int .i64 r)))
  replace KB : Hid (Below w.heap.size w (w4.setCell ⟨w.heap.size + 1 + 1 + 1, 0, none⟩ (.int .i64 r))) := mkHid ((KB.out.setCell (by show w.heap.size ≤ w.heap.size + 1 + 1 + 1; omega) _))
  replace HO := mkHid ((HO.out.past (g := w.heap.size + 1 + 1 + 1) (by omega) 0 (.int .i64 r)))
  generalize (w4.setCell ⟨w.heap.size + 1 + 1 + 1, 0, none⟩ (.int .i64 r)) = w5 at *
  clear lZA cX cP cA
  have lZA : w.heap.size + 1 + 1 + 1 < w5.heap.size := ZA.out.lt
  have cX := ZX.out.six
  have cP := ZP.out.five
  have cA := ZA.out.five
  replace ZX : Hid (Blk w5.drew _ _ _) := mkHid ZX.out.drew
  replace ZA : Hid (Blk w5.drew _ _ _) := mkHid ZA.out.drew
  replace ZZ : Hid (Blk w5.drew _ _ _) := mkHid ZZ.out.drew
  replace KB : Hid (Below w.heap.size w w5.drew) := mkHid KB.out.drew
  replace HO := mkHid (HO.out.below (Below.drew (Below.refl _ w5)))
  clear cX cP cA
  have cZ := ZZ.out.six
  have cA := ZA.out.five
  have gz0 := ZZ.out.frozen 0
  have gz1 := ZZ.out.frozen 1
  have gz2 := ZZ.out.frozen 2
  have gz3 := ZZ.out.frozen 3
  have gz4 := ZZ.out.frozen 4
  have gz5 := ZZ.out.frozen 5
  have ga0 := ZA.out.frozen 0
  have ga1 := ZA.out.frozen 1
  have ga2 := ZA.out.frozen 2
  have ga3 := ZA.out.frozen 3
  have ga4 := ZA.out.frozen 4
  clear ZP
  refine wp_region_late (late := fun i => decide (3 ≤ i)) (S := fun w' => Hid (Blk w' w.heap.size 45 #[.int .i64 m.h, .int .i64 m.cap, .slice A1 m.l.length c1, .int .i64 m.n, .int .i64 m.draws, .slice B1 m.sent.length d1]) ∧ Hid (Blk w' (w.heap.size + 1 + 1 + 1) 55 #[.int .i64 r, .int .i64 0, .int .i64 0, .int .u64 0, .int .u64 0])) (by kernel_rfl) ?_ (fun hHeld => ?_)
  · ((try dsimp only); refine ⟨?_, ?_⟩ <;> first | with_reducible assumption | (with_reducible refine mkHid (Blk.other6 (Hid.out ?_) ?_) <;> first | with_reducible assumption | omega))
  generalize w5.drew = u at *
  refine Any.take (i := 0) (v := ?_) rfl (by kernel_rfl) (by kernel_rfl) (by kernel_rfl) (by kernel_rfl) (fun _ _ _ h => h) (Or.inl ⟨by rfl, ?_⟩) hHeld ?_
  rotate_left
  · intro w hSw
    (try dsimp only at hSw)
    have q := hSw.1.out.six
    clear hSw
    go_simp
    all_goals with_reducible rfl
  try simp only [List.getElem_toArray, List.getElem_cons_succ, List.getElem_cons_zero, Act.put, List.setIfInBounds_toArray, List.set_cons_zero, List.set_cons_succ]
  refine Any.take (i := 1) (v := ?_) rfl (by kernel_rfl) (by kernel_rfl) (by kernel_rfl) (by kernel_rfl) (fun _ _ _ h => h) (Or.inl ⟨by rfl, ?_⟩) hHeld ?_
  rotate_left
  · intro w hSw
    (try dsimp only at hSw)
    have q := hSw.2.out.five
    clear hSw
    go_simp
    all_goals with_reducible rfl
  try simp only [List.getElem_toArray, List.getElem_cons_succ, List.getElem_cons_zero, Act.put, List.setIfInBounds_toArray, List.set_cons_zero, List.set_cons_succ]
  refine Any.ready (rs := [2]) (by kernel_rfl) (by simp) ?_
  refine AllAny.cons rfl rfl (fun K hK => ?_) AllAny.nil
  go_simp
  refine hK.out _ _ ?_ (fun hHeld => ?_)
  · ((try dsimp only); refine ⟨?_, ?_⟩ <;> first | with_reducible assumption | (with_reducible refine mkHid (Blk.other6 (Hid.out ?_) ?_) <;> first | with_reducible assumption | omega))
  clear hK K
  try simp only [List.getElem_toArray, List.getElem_cons_succ, List.getElem_cons_zero, Act.put, List.setIfInBounds_toArray, List.set_cons_zero, List.set_cons_succ]
  refine Any.ready (rs := [3]) (by kernel_rfl) (by simp) ?_
  refine AllAny.lateCons rfl rfl (fun K hK => ?_) AllAny.nil
  go_simp
  refine hK.out _ _ ?_
  clear hK K
  try simp only [List.getElem_toArray, List.getElem_cons_succ, List.getElem_cons_zero, Act.put, List.setIfInBounds_toArray, List.set_cons_zero, List.set_cons_succ]
  refine Any.ready (rs := [4]) (by kernel_rfl) (by simp) ?_
  refine AllAny.lateCons rfl rfl (fun K hK => ?_) AllAny.nil
  go_simp
  refine hK.out _ _ ?_
  clear hK K
  try simp only [List.getElem_toArray, List.getElem_cons_succ, List.getElem_cons_zero, Act.put, List.setIfInBounds_toArray, List.set_cons_zero, List.set_cons_succ]
  refine Any.done (by kernel_rfl) ?_ _
  have qR := ((ZZ.out.fill6 (b0 := .int .i64 m.h) (b1 := .int .i64 m.cap) (b2 := .slice A1 m.l.length c1) (b3 := .int .i64 m.n) (b4 := .int .i64 m.draws) (b5 := .slice B1 m.sent.length d1)).other5 (g := w.heap.size + 1 + 1 + 1) (x0 := .int .i64 r) (x1 := .int .i64 0) (x2 := .int .i64 0) (x3 := .int .u64 0) (x4 := .int .u64 0) (by omega)).six
  have qA := ((ZA.out.other6 (g := w.heap.size + 1 + 1) (x0 := .int .i64 m.h) (x1 := .int .i64 m.cap) (x2 := .slice A1 m.l.length c1) (x3 := .int .i64 m.n) (x4 := .int .i64 m.draws) (x5 := .slice B1 m.sent.length d1) (by omega)).fill5 (b0 := .int .i64 r) (b1 := .int .i64 0) (b2 := .int .i64 0) (b3 := .int .u64 0) (b4 := .int .u64 0)).five
  go_wp2_with fail
  refine bodyPost_ret (v := .tuple #[.agg #[.int .i64 m.h, .int .i64 m.cap, .slice A1 m.l.length c1, .int .i64 m.n, .int .i64 m.draws, .slice B1 m.sent.length d1], .agg #[.int .i64 r, .int .i64 0, .int .i64 0, .int .u64 0, .int .u64 0], .int .i64 0]) (by simp [results, Try.results29, go_sem, qR, qA]) rfl ⟨_, _, _, _, X1, rfl, OwnM.base (b' := w.heap.size + 4) ?_ (by omega), below_five (below_six KB.out (by omega) _ _ _ _ _ _) (by omega) _ _ _ _ _⟩
  exact (HO.out.past6 (by omega) _ _ _ _ _ _).past5 (by omega) _ _ _ _ _

set_option linter.unusedSimpArgs false in
set_option maxRecDepth 100000 in
set_option maxHeartbeats 4000000 in
theorem do2_over {m : ModD} {i : Nat} {n : Int} {p1 p2 : BitVec 64} (e : Hid ((if okM m then (0 : Int) else 1) = 0)) {L : List Nat} (f : Hid (withoutAll m.h m.l i = (L, 0))) (hn : Hid (m.n = 1099511627776)) (A : Option Addr) (c : Nat) (B : Option Addr) (d : Nat) (w : World) (hM : MemM w A c B d m) :
    Calls Try.prog 29 #[.agg #[.int .i64 m.h, .int .i64 m.cap, .slice A m.l.length c, .int .i64 m.n, .int .i64 m.draws, .slice B m.sent.length d], .agg #[.int .i64 2, .int .u64 (i : Int), .int .i64 n, .int .u64 (p1.toNat : Int), .int .u64 (p2.toNat : Int)]] w (DoPost m (ansE 9) 0 w) := by
  have HS := mkHid (okM_sizes (m := m) (by cases hk : okM m with | true => rfl | false => exact absurd e.out (by rw [hk]; simp)))
  skip
  have ZX : Hid (Blk ((((w.alloc (.cells #[.int .i64 m.h, .int .i64 m.cap, .slice A m.l.length c, .int .i64 m.n, .int .i64 m.draws, .slice B m.sent.length d] 45)).alloc (.cells #[.int .i64 2, .int .u64 (i : Int), .int .i64 n, .int .u64 (p1.toNat : Int), .int .u64 (p2.toNat : Int)] 53)).alloc (.cells #[.int .i64 0, .int .i64 0, .slice none 0 0, .int .i64 0, .int .i64 0, .slice none 0 0] 45)).alloc (.cells #[.int .i64 0, .int .i64 0, .int .i64 0, .int .u64 0, .int .u64 0] 55)) w.heap.size 45 #[.int .i64 m.h, .int .i64 m.cap, .slice A m.l.length c, .int .i64 m.n, .int .i64 m.draws, .slice B m.sent.length d]) := mkHid ((((Blk.new _ _ _).alloc _).alloc _).alloc _)
  have ZP : Hid (Blk ((((w.alloc (.cells #[.int .i64 m.h, .int .i64 m.cap, .slice A m.l.length c, .int .i64 m.n, .int .i64 m.draws, .slice B m.sent.length d] 45)).alloc (.cells #[.int .i64 2, .int .u64 (i : Int), .int .i64 n, .int .u64 (p1.toNat : Int), .int .u64 (p2.toNat : Int)] 53)).alloc (.cells #[.int .i64 0, .int .i64 0, .slice none 0 0, .int .i64 0, .int .i64 0, .slice none 0 0] 45)).alloc (.cells #[.int .i64 0, .int .i64 0, .int .i64 0, .int .u64 0, .int .u64 0] 55)) (w.heap.size + 1) 53 #[.int .i64 2, .int .u64 (i : Int), .int .i64 n, .int .u64 (p1.toNat : Int), .int .u64 (p2.toNat : Int)]) := mkHid (((Blk.at _ _ _ (by simp)).alloc _).alloc _)
  have ZZ : Hid (Blk ((((w.alloc (.cells #[.int .i64 m.h, .int .i64 m.cap, .slice A m.l.length c, .int .i64 m.n, .int .i64 m.draws, .slice B m.sent.length d] 45)).alloc (.cells #[.int .i64 2, .int .u64 (i : Int), .int .i64 n, .int .u64 (p1.toNat : Int), .int .u64 (p2.toNat : Int)] 53)).alloc (.cells #[.int .i64 0, .int .i64 0, .slice none 0 0, .int .i64 0, .int .i64 0, .slice none 0 0] 45)).alloc (.cells #[.int .i64 0, .int .i64 0, .int .i64 0, .int .u64 0, .int .u64 0] 55)) (w.heap.size + 1 + 1) 45 #[.int .i64 0, .int .i64 0, .slice none 0 0, .int .i64 0, .int .i64 0, .slice none 0 0]) := mkHid ((Blk.at _ _ _ (by simp)).alloc _)
  have ZA : Hid (Blk ((((w.alloc (.cells #[.int .i64 m.h, .int .i64 m.cap, .slice A m.l.length c, .int .i64 m.n, .int .i64 m.draws, .slice B m.sent.length d] 45)).alloc (.cells #[.int .i64 2, .int .u64 (i : Int), .int .i64 n, .int .u64 (p1.toNat : Int), .int .u64 (p2.toNat : Int)] 53)).alloc (.cells #[.int .i64 0, .int .i64 0, .slice none 0 0, .int .i64 0, .int .i64 0, .slice none 0 0] 45)).alloc (.cells #[.int .i64 0, .int .i64 0, .int .i64 0, .int .u64 0, .int .u64 0] 55)) (w.heap.size + 1 + 1 + 1) 55 #[.int .i64 0, .int .i64 0, .int .i64 0, .int .u64 0, .int .u64 0]) := mkHid (Blk.at _ _ _ (by simp))
  have KB : Hid (Below w.heap.size w ((((w.alloc (.cells #[.int .i64 m.h, .int .i64 m.cap, .slice A m.l.length c, .int .i64 m.n, .int .i64 m.draws, .slice B m.sent.length d] 45)).alloc (.cells #[.int .i64 2, .int .u64 (i : Int), .int .i64 n, .int .u64 (p1.toNat : Int), .int .u64 (p2.toNat : Int)] 53)).alloc (.cells #[.int .i64 0, .int .i64 0, .slice none 0 0, .int .i64 0, .int .i64 0, .slice none 0 0] 45)).alloc (.cells #[.int .i64 0, .int .i64 0, .int .i64 0, .int .u64 0, .int .u64 0] 55))) := mkHid (((((Below.refl _ _).alloc (Nat.le_refl _) (.cells #[.int .i64 m.h, .int .i64 m.cap, .slice A m.l.length c, .int .i64 m.n, .int .i64 m.draws, .slice B m.sent.length d] 45)).alloc (by simp) (.cells #[.int .i64 2, .int .u64 (i : Int), .int .i64 n, .int .u64 (p1.toNat : Int), .int .u64 (p2.toNat : Int)] 53)).alloc (by simp; omega) (.cells #[.int .i64 0, .int .i64 0, .slice none 0 0, .int .i64 0, .int .i64 0, .slice none 0 0] 45)).alloc (by simp; omega) (.cells #[.int .i64 0, .int .i64 0, .int .i64 0, .int .u64 0, .int .u64 0] 55))
  have HM := mkHid (hM.below (((((Below.refl _ _).alloc (Nat.le_refl _) (.cells #[.int .i64 m.h, .int .i64 m.cap, .slice A m.l.length c, .int .i64 m.n, .int .i64 m.draws, .slice B m.sent.length d] 45)).alloc (by simp) (.cells #[.int .i64 2, .int .u64 (i : Int), .int .i64 n, .int .u64 (p1.toNat : Int), .int .u64 (p2.toNat : Int)] 53)).alloc (by simp; omega) (.cells #[.int .i64 0, .int .i64 0, .slice none 0 0, .int .i64 0, .int .i64 0, .slice none 0 0] 45)).alloc (by simp; omega) (.cells #[.int .i64 0, .int .i64 0, .int .i64 0, .int .u64 0, .int .u64 0] 55)))
  clear hM
  go_enter Try.func29, Try.ntmps29
  go_upto_region 1 with fail
  generalize ((((w.alloc (.cells #[.int .i64 m.h, .int .i64 m.cap, .slice A m.l.length c, .int .i64 m.n, .int .i64 m.draws, .slice B m.sent.length d] 45)).alloc (.cells #[.int .i64 2, .int .u64 (i : Int), .int .i64 n, .int .u64 (p1.toNat : Int), .int .u64 (p2.toNat : Int)] 53)).alloc (.cells #[.int .i64 0, .int .i64 0, .slice none 0 0, .int .i64 0, .int .i64 0, .slice none 0 0] 45)).alloc (.cells #[.int .i64 0, .int .i64 0, .int .i64 0, .int .u64 0, .int .u64 0] 55)) = w0 at *
  have lZA : w.heap.size + 1 + 1 + 1 < w0.heap.size := ZA.out.lt
  have cX := ZX.out.six
  have cP := ZP.out.five
  go_wp2_with fail
  refine (mchk e _ _ _ _ _ HM.out).mono ?_
  rintro e w1 ⟨rfl, hb⟩
  replace ZX := mkHid (ZX.out.keep hb)
  replace ZP := mkHid (ZP.out.keep hb)
  replace ZZ := mkHid (ZZ.out.keep hb)
  replace ZA := mkHid (ZA.out.keep hb)
  replace KB := mkHid (KB.out.step hb)
  replace HM := mkHid (HM.out.below hb)
  clear hb
  clear lZA cX cP
  have lZA : w.heap.size + 1 + 1 + 1 < w1.heap.size := ZA.out.lt
  have cX := ZX.out.six
  have cP := ZP.out.five
  go_wp2_with fail
  refine (mown HS.out.1 HS.out.2.1 HS.out.2.2 _ _ _ _ _ HM.out).mono ?_
  rintro e w2 ⟨⟨A1, c1, B1, d1, X1, rfl, ho⟩, hb⟩
  have HO := mkHid (ho.base (b := w.heap.size + 4) (by omega))
  clear ho HM
  replace ZX := mkHid (ZX.out.keep hb)
  replace ZP := mkHid (ZP.out.keep hb)
  replace ZZ := mkHid (ZZ.out.keep hb)
  replace ZA := mkHid (ZA.out.keep hb)
  replace KB := mkHid (KB.out.step hb)
  clear hb
  clear lZA cX cP
  have lZA : w.heap.size + 1 + 1 + 1 < w2.heap.size := ZA.out.lt
  have cX := ZX.out.six
  have cP := ZP.out.five
  have fX0 := ZX.out.frozen 0
  have fX1 := ZX.out.frozen 1
  have fX2 := ZX.out.frozen 2
  have fX3 := ZX.out.frozen 3
  have fX4 := ZX.out.frozen 4
  have fX5 := ZX.out.frozen 5
  go_upto_region 4 with fail
  replace ZX := mkHid (ZX.out.fill6 (b0 := .int .i64 m.h) (b1 := .int .i64 m.cap) (b2 := .slice A1 m.l.length c1) (b3 := .int .i64 m.n) (b4 := .int .i64 m.draws) (b5 := .slice B1 m.sent.length d1))
  replace ZP := mkHid (ZP.out.other6 (g := w.heap.size) (x0 := .int .i64 m.h) (x1 := .int .i64 m.cap) (x2 := .slice A1 m.l.length c1) (x3 := .int .i64 m.n) (x4 := .int .i64 m.draws) (x5 := .slice B1 m.sent.length d1) (by omega))
  replace ZZ := mkHid (ZZ.out.other6 (g := w.heap.size) (x0 := .int .i64 m.h) (x1 := .int .i64 m.cap) (x2 := .slice A1 m.l.length c1) (x3 := .int .i64 m.n) (x4 := .int .i64 m.draws) (x5 := .slice B1 m.sent.length d1) (by omega))
  replace ZA := mkHid (ZA.out.other6 (g := w.heap.size) (x0 := .int .i64 m.h) (x1 := .int .i64 m.cap) (x2 := .slice A1 m.l.length c1) (x3 := .int .i64 m.n) (x4 := .int .i64 m.draws) (x5 := .slice B1 m.sent.length d1) (by omega))
  replace KB := mkHid (below_six KB.out (Nat.le_refl _) (.int .i64 m.h) (.int .i64 m.cap) (.slice A1 m.l.length c1) (.int .i64 m.n) (.int .i64 m.draws) (.slice B1 m.sent.length d1))
  replace HO := mkHid (HO.out.past6 (g := w.heap.size) (by omega) (.int .i64 m.h) (.int .i64 m.cap) (.slice A1 m.l.length c1) (.int .i64 m.n) (.int .i64 m.draws) (.slice B1 m.sent.length d1))
  clear lZA cX cP fX0 fX1 fX2 fX3 fX4 fX5
  generalize ((((((w2.setCell ⟨w.heap.size, 0, none⟩ (.int .i64 m.h)).setCell ⟨w.heap.size, 1, none⟩ (.int .i64 m.cap)).setCell ⟨w.heap.size, 2, none⟩ (.slice A1 m.l.length c1)).setCell ⟨w.heap.size, 3, none⟩ (.int .i64 m.n)).setCell ⟨w.heap.size, 4, none⟩ (.int .i64 m.draws)).setCell ⟨w.heap.size, 5, none⟩ (.slice B1 m.sent.length d1)) = w3 at *
  have lZA : w.heap.size + 1 + 1 + 1 < w3.heap.size := ZA.out.lt
  have cX := ZX.out.six
  have cP := ZP.out.five
  have cA := ZA.out.five
  have HRd := mkHid HO.out.reads
  have fa := ZA.out.frozen 0
  go_wp2_with fail
  refine (co_over f hn.out w.heap.size A1 c1 B1 d1 _ ZX.out HRd.out).mono ?_
  rintro e w4 ⟨rfl, hb⟩
  clear HRd fa
  replace ZX := mkHid (ZX.out.keep hb)
  replace ZP := mkHid (ZP.out.keep hb)
  replace ZZ := mkHid (ZZ.out.keep hb)
  replace ZA := mkHid (ZA.out.keep hb)
  replace KB := mkHid (KB.out.step hb)
  replace HO := mkHid (HO.out.below hb)
  clear hb
  clear lZA cX cP cA
  have lZA : w.heap.size + 1 + 1 + 1 < w4.heap.size := ZA.out.lt
  have cX := ZX.out.six
  have cP := ZP.out.five
  have cA := ZA.out.five
  have fa := ZA.out.frozen 0
  go_upto_region 23 with fail
  clear fa
  replace ZX : Hid (Blk (w4.setCell ⟨w.heap.size + 1 + 1 + 1, 0, none⟩ (.int .i64 9)) w.heap.size 45 #[.int .i64 m.h, .int .i64 m.cap, .slice A1 m.l.length c1, .int .i64 m.n, .int .i64 m.draws, .slice B1 m.sent.length d1]) := mkHid ((ZX.out.other _ (by omega)))
  replace ZP : Hid (Blk (w4.setCell ⟨w.heap.size + 1 + 1 + 1, 0, none⟩ (.int .i64 9)) (w.heap.size + 1) 53 #[.int .i64 2, .int .u64 (i : Int), .int .i64 n, .int .u64 (p1.toNat : Int), .int .u64 (p2.toNat : Int)]) := mkHid ((ZP.out.other _ (by omega)))
  replace ZZ : Hid (Blk (w4.setCell ⟨w.heap.size + 1 + 1 + 1, 0, none⟩ (.int .i64 9)) (w.heap.size + 1 + 1) 45 #[.int .i64 0, .int .i64 0, .slice none 0 0, .int .i64 0, .int .i64 0, .slice none 0 0]) := mkHid ((ZZ.out.other _ (by omega)))
  replace ZA : Hid (Blk (w4.setCell ⟨w.heap.size + 1 + 1 + 1, 0, none⟩ (.int .i64 9)) (w.heap.size + 1 + 1 + 1) 55 #[.int .i64 9, .int .i64 0, .int .i64 0, .int .u64 0, .int .u64 0]) := mkHid ((ZA.out.set 0 (.int .i64 9)))
  replace KB : Hid (Below w.heap.size w (w4.setCell ⟨w.heap.size + 1 + 1 + 1, 0, none⟩ (.int .i64 9))) := mkHid ((KB.out.setCell (by show w.heap.size ≤ w.heap.size + 1 + 1 + 1; omega) _))
  replace HO := mkHid ((HO.out.past (g := w.heap.size + 1 + 1 + 1) (by omega) 0 (.int .i64 9)))
  generalize (w4.setCell ⟨w.heap.size + 1 + 1 + 1, 0, none⟩ (.int .i64 9)) = w5 at *
  clear lZA cX cP cA
  have lZA : w.heap.size + 1 + 1 + 1 < w5.heap.size := ZA.out.lt
  have cX := ZX.out.six
  have cP := ZP.out.five
  have cA := ZA.out.five
  replace ZX : Hid (Blk w5.drew _ _ _) := mkHid ZX.out.drew
  replace ZA : Hid (Blk w5.drew _ _ _) := mkHid ZA.out.drew
  replace ZZ : Hid (Blk w5.drew _ _ _) := mkHid ZZ.out.drew
  replace KB : Hid (Below w.heap.size w w5.drew) := mkHid KB.out.drew
  replace HO := mkHid (HO.out.below (Below.drew (Below.refl _ w5)))
  clear cX cP cA
  have cZ := ZZ.out.six
  have cA := ZA.out.five
  have gz0 := ZZ.out.frozen 0
  have gz1 := ZZ.out.frozen 1
  have gz2 := ZZ.out.frozen 2
  have gz3 := ZZ.out.frozen 3
  have gz4 := ZZ.out.frozen 4
  have gz5 := ZZ.out.frozen 5
  have ga0 := ZA.out.frozen 0
  have ga1 := ZA.out.frozen 1
  have ga2 := ZA.out.frozen 2
  have ga3 := ZA.out.frozen 3
  have ga4 := ZA.out.frozen 4
  clear ZP
  refine wp_region_late (late := fun i => decide (3 ≤ i)) (S := fun w' => Hid (Blk w' w.heap.size 45 #[.int .i64 m.h, .int .i64 m.cap, .slice A1 m.l.length c1, .int .i64 m.n, .int .i64 m.draws, .slice B1 m.sent.length d1]) ∧ Hid (Blk w' (w.heap.size + 1 + 1 + 1) 55 #[.int .i64 9, .int .i64 0, .int .i64 0, .int .u64 0, .int .u64 0])) (by kernel_rfl) ?_ (fun hHeld => ?_)
  · ((try dsimp only); refine ⟨?_, ?_⟩ <;> first | with_reducible assumption | (with_reducible refine mkHid (Blk.other6 (Hid.out ?_) ?_) <;> first | with_reducible assumption | omega))
  generalize w5.drew = u at *
  refine Any.take (i := 0) (v := ?_) rfl (by kernel_rfl) (by kernel_rfl) (by kernel_rfl) (by kernel_rfl) (fun _ _ _ h => h) (Or.inl ⟨by rfl, ?_⟩) hHeld ?_
  rotate_left
  · intro w hSw
    (try dsimp only at hSw)
    have q := hSw.1.out.six
    clear hSw
    go_simp
    all_goals with_reducible rfl
  try simp only [List.getElem_toArray, List.getElem_cons_succ, List.getElem_cons_zero, Act.put, List.setIfInBounds_toArray, List.set_cons_zero, List.set_cons_succ]
  refine Any.take (i := 1) (v := ?_) rfl (by kernel_rfl) (by kernel_rfl) (by kernel_rfl) (by kernel_rfl) (fun _ _ _ h => h) (Or.inl ⟨by rfl, ?_⟩) hHeld ?_
  rotate_left
  · intro w hSw
    (try dsimp only at hSw)
    have q := hSw.2.out.five
    clear hSw
    go_simp
    all_goals with_reducible rfl
  try simp only [List.getElem_toArray, List.getElem_cons_succ, List.getElem_cons_zero, Act.put, List.setIfInBounds_toArray, List.set_cons_zero, List.set_cons_succ]
  refine Any.ready (rs := [2]) (by kernel_rfl) (by simp) ?_
  refine AllAny.cons rfl rfl (fun K hK => ?_) AllAny.nil
  go_simp
  refine hK.out _ _ ?_ (fun hHeld => ?_)
  · ((try dsimp only); refine ⟨?_, ?_⟩ <;> first | with_reducible assumption | (with_reducible refine mkHid (Blk.other6 (Hid.out ?_) ?_) <;> first | with_reducible assumption | omega))
  clear hK K
  try simp only [List.getElem_toArray, List.getElem_cons_succ, List.getElem_cons_zero, Act.put, List.setIfInBounds_toArray, List.set_cons_zero, List.set_cons_succ]
  refine Any.ready (rs := [3]) (by kernel_rfl) (by simp) ?_
  refine AllAny.lateCons rfl rfl (fun K hK => ?_) AllAny.nil
  go_simp
  refine hK.out _ _ ?_
  clear hK K
  try simp only [List.getElem_toArray, List.getElem_cons_succ, List.getElem_cons_zero, Act.put, List.setIfInBounds_toArray, List.set_cons_zero, List.set_cons_succ]
  refine Any.ready (rs := [4]) (by kernel_rfl) (by simp) ?_
  refine AllAny.lateCons rfl rfl (fun K hK => ?_) AllAny.nil
  go_simp
  refine hK.out _ _ ?_
  clear hK K
  try simp only [List.getElem_toArray, List.getElem_cons_succ, List.getElem_cons_zero, Act.put, List.setIfInBounds_toArray, List.set_cons_zero, List.set_cons_succ]
  refine Any.done (by kernel_rfl) ?_ _
  have qR := ((ZZ.out.fill6 (b0 := .int .i64 m.h) (b1 := .int .i64 m.cap) (b2 := .slice A1 m.l.length c1) (b3 := .int .i64 m.n) (b4 := .int .i64 m.draws) (b5 := .slice B1 m.sent.length d1)).other5 (g := w.heap.size + 1 + 1 + 1) (x0 := .int .i64 9) (x1 := .int .i64 0) (x2 := .int .i64 0) (x3 := .int .u64 0) (x4 := .int .u64 0) (by omega)).six
  have qA := ((ZA.out.other6 (g := w.heap.size + 1 + 1) (x0 := .int .i64 m.h) (x1 := .int .i64 m.cap) (x2 := .slice A1 m.l.length c1) (x3 := .int .i64 m.n) (x4 := .int .i64 m.draws) (x5 := .slice B1 m.sent.length d1) (by omega)).fill5 (b0 := .int .i64 9) (b1 := .int .i64 0) (b2 := .int .i64 0) (b3 := .int .u64 0) (b4 := .int .u64 0)).five
  go_wp2_with fail
  refine bodyPost_ret (v := .tuple #[.agg #[.int .i64 m.h, .int .i64 m.cap, .slice A1 m.l.length c1, .int .i64 m.n, .int .i64 m.draws, .slice B1 m.sent.length d1], .agg #[.int .i64 9, .int .i64 0, .int .i64 0, .int .u64 0, .int .u64 0], .int .i64 0]) (by simp [results, Try.results29, go_sem, qR, qA]) rfl ⟨_, _, _, _, X1, rfl, OwnM.base (b' := w.heap.size + 4) ?_ (by omega), below_five (below_six KB.out (by omega) _ _ _ _ _ _) (by omega) _ _ _ _ _⟩
  exact (HO.out.past6 (by omega) _ _ _ _ _ _).past5 (by omega) _ _ _ _ _

set_option linter.unusedSimpArgs false in
set_option maxRecDepth 100000 in
set_option maxHeartbeats 4000000 in
theorem do2_ok {m : ModD} {i : Nat} {n : Int} {p1 p2 : BitVec 64} (e : Hid ((if okM m then (0 : Int) else 1) = 0)) {L : List Nat} (f : Hid (withoutAll m.h m.l i = (L, 0))) (hn : m.n ≠ 1099511627776) (n0 : 0 ≤ m.n) (n1 : m.n ≤ 1099511627776) (A : Option Addr) (c : Nat) (B : Option Addr) (d : Nat) (w : World) (hM : MemM w A c B d m) :
    Calls Try.prog 29 #[.agg #[.int .i64 m.h, .int .i64 m.cap, .slice A m.l.length c, .int .i64 m.n, .int .i64 m.draws, .slice B m.sent.length d], .agg #[.int .i64 2, .int .u64 (i : Int), .int .i64 n, .int .u64 (p1.toNat : Int), .int .u64 (p2.toNat : Int)]] w (DoPost { m with l := L, n := m.n + 1 } (ansE 0) 0 w) := by
  have HS := mkHid (okM_sizes (m := m) (by cases hk : okM m with | true => rfl | false => exact absurd e.out (by rw [hk]; simp)))
  skip
  have ZX : Hid (Blk ((((w.alloc (.cells #[.int .i64 m.h, .int .i64 m.cap, .slice A m.l.length c, .int .i64 m.n, .int .i64 m.draws, .slice B m.sent.length d] 45)).alloc (.cells #[.int .i64 2, .int .u64 (i : Int), .int .i64 n, .int .u64 (p1.toNat : Int), .int .u64 (p2.toNat : Int)] 53)).alloc (.cells #[.int .i64 0, .int .i64 0, .slice none 0 0, .int .i64 0, .int .i64 0, .slice none 0 0] 45)).alloc (.cells #[.int .i64 0, .int .i64 0, .int .i64 0, .int .u64 0, .int .u64 0] 55)) w.heap.size 45 #[.int .i64 m.h, .int .i64 m.cap, .slice A m.l.length c, .int .i64 m.n, .int .i64 m.draws, .slice B m.sent.length d]) := mkHid ((((Blk.new _ _ _).alloc _).alloc _).alloc _)
  have ZP : Hid (Blk ((((w.alloc (.cells #[.int .i64 m.h, .int .i64 m.cap, .slice A m.l.length c, .int .i64 m.n, .int .i64 m.draws, .slice B m.sent.length d] 45)).alloc (.cells #[.int .i64 2, .int .u64 (i : Int), .int .i64 n, .int .u64 (p1.toNat : Int), .int .u64 (p2.toNat : Int)] 53)).alloc (.cells #[.int .i64 0, .int .i64 0, .slice none 0 0, .int .i64 0, .int .i64 0, .slice none 0 0] 45)).alloc (.cells #[.int .i64 0, .int .i64 0, .int .i64 0, .int .u64 0, .int .u64 0] 55)) (w.heap.size + 1) 53 #[.int .i64 2, .int .u64 (i : Int), .int .i64 n, .int .u64 (p1.toNat : Int), .int .u64 (p2.toNat : Int)]) := mkHid (((Blk.at _ _ _ (by simp)).alloc _).alloc _)
  have ZZ : Hid (Blk ((((w.alloc (.cells #[.int .i64 m.h, .int .i64 m.cap, .slice A m.l.length c, .int .i64 m.n, .int .i64 m.draws, .slice B m.sent.length d] 45)).alloc (.cells #[.int .i64 2, .int .u64 (i : Int), .int .i64 n, .int .u64 (p1.toNat : Int), .int .u64 (p2.toNat : Int)] 53)).alloc (.cells #[.int .i64 0, .int .i64 0, .slice none 0 0, .int .i64 0, .int .i64 0, .slice none 0 0] 45)).alloc (.cells #[.int .i64 0, .int .i64 0, .int .i64 0, .int .u64 0, .int .u64 0] 55)) (w.heap.size + 1 + 1) 45 #[.int .i64 0, .int .i64 0, .slice none 0 0, .int .i64 0, .int .i64 0, .slice none 0 0]) := mkHid ((Blk.at _ _ _ (by simp)).alloc _)
  have ZA : Hid (Blk ((((w.alloc (.cells #[.int .i64 m.h, .int .i64 m.cap, .slice A m.l.length c, .int .i64 m.n, .int .i64 m.draws, .slice B m.sent.length d] 45)).alloc (.cells #[.int .i64 2, .int .u64 (i : Int), .int .i64 n, .int .u64 (p1.toNat : Int), .int .u64 (p2.toNat : Int)] 53)).alloc (.cells #[.int .i64 0, .int .i64 0, .slice none 0 0, .int .i64 0, .int .i64 0, .slice none 0 0] 45)).alloc (.cells #[.int .i64 0, .int .i64 0, .int .i64 0, .int .u64 0, .int .u64 0] 55)) (w.heap.size + 1 + 1 + 1) 55 #[.int .i64 0, .int .i64 0, .int .i64 0, .int .u64 0, .int .u64 0]) := mkHid (Blk.at _ _ _ (by simp))
  have KB : Hid (Below w.heap.size w ((((w.alloc (.cells #[.int .i64 m.h, .int .i64 m.cap, .slice A m.l.length c, .int .i64 m.n, .int .i64 m.draws, .slice B m.sent.length d] 45)).alloc (.cells #[.int .i64 2, .int .u64 (i : Int), .int .i64 n, .int .u64 (p1.toNat : Int), .int .u64 (p2.toNat : Int)] 53)).alloc (.cells #[.int .i64 0, .int .i64 0, .slice none 0 0, .int .i64 0, .int .i64 0, .slice none 0 0] 45)).alloc (.cells #[.int .i64 0, .int .i64 0, .int .i64 0, .int .u64 0, .int .u64 0] 55))) := mkHid (((((Below.refl _ _).alloc (Nat.le_refl _) (.cells #[.int .i64 m.h, .int .i64 m.cap, .slice A m.l.length c, .int .i64 m.n, .int .i64 m.draws, .slice B m.sent.length d] 45)).alloc (by simp) (.cells #[.int .i64 2, .int .u64 (i : Int), .int .i64 n, .int .u64 (p1.toNat : Int), .int .u64 (p2.toNat : Int)] 53)).alloc (by simp; omega) (.cells #[.int .i64 0, .int .i64 0, .slice none 0 0, .int .i64 0, .int .i64 0, .slice none 0 0] 45)).alloc (by simp; omega) (.cells #[.int .i64 0, .int .i64 0, .int .i64 0, .int .u64 0, .int .u64 0] 55))
  have HM := mkHid (hM.below (((((Below.refl _ _).alloc (Nat.le_refl _) (.cells #[.int .i64 m.h, .int .i64 m.cap, .slice A m.l.length c, .int .i64 m.n, .int .i64 m.draws, .slice B m.sent.length d] 45)).alloc (by simp) (.cells #[.int .i64 2, .int .u64 (i : Int), .int .i64 n, .int .u64 (p1.toNat : Int), .int .u64 (p2.toNat : Int)] 53)).alloc (by simp; omega) (.cells #[.int .i64 0, .int .i64 0, .slice none 0 0, .int .i64 0, .int .i64 0, .slice none 0 0] 45)).alloc (by simp; omega) (.cells #[.int .i64 0, .int .i64 0, .int .i64 0, .int .u64 0, .int .u64 0] 55)))
  clear hM
  go_enter Try.func29, Try.ntmps29
  go_upto_region 1 with fail
  generalize ((((w.alloc (.cells #[.int .i64 m.h, .int .i64 m.cap, .slice A m.l.length c, .int .i64 m.n, .int .i64 m.draws, .slice B m.sent.length d] 45)).alloc (.cells #[.int .i64 2, .int .u64 (i : Int), .int .i64 n, .int .u64 (p1.toNat : Int), .int .u64 (p2.toNat : Int)] 53)).alloc (.cells #[.int .i64 0, .int .i64 0, .slice none 0 0, .int .i64 0, .int .i64 0, .slice none 0 0] 45)).alloc (.cells #[.int .i64 0, .int .i64 0, .int .i64 0, .int .u64 0, .int .u64 0] 55)) = w0 at *
  have lZA : w.heap.size + 1 + 1 + 1 < w0.heap.size := ZA.out.lt
  have cX := ZX.out.six
  have cP := ZP.out.five
  go_wp2_with fail
  refine (mchk e _ _ _ _ _ HM.out).mono ?_
  rintro e w1 ⟨rfl, hb⟩
  replace ZX := mkHid (ZX.out.keep hb)
  replace ZP := mkHid (ZP.out.keep hb)
  replace ZZ := mkHid (ZZ.out.keep hb)
  replace ZA := mkHid (ZA.out.keep hb)
  replace KB := mkHid (KB.out.step hb)
  replace HM := mkHid (HM.out.below hb)
  clear hb
  clear lZA cX cP
  have lZA : w.heap.size + 1 + 1 + 1 < w1.heap.size := ZA.out.lt
  have cX := ZX.out.six
  have cP := ZP.out.five
  go_wp2_with fail
  refine (mown HS.out.1 HS.out.2.1 HS.out.2.2 _ _ _ _ _ HM.out).mono ?_
  rintro e w2 ⟨⟨A1, c1, B1, d1, X1, rfl, ho⟩, hb⟩
  have HO := mkHid (ho.base (b := w.heap.size + 4) (by omega))
  clear ho HM
  replace ZX := mkHid (ZX.out.keep hb)
  replace ZP := mkHid (ZP.out.keep hb)
  replace ZZ := mkHid (ZZ.out.keep hb)
  replace ZA := mkHid (ZA.out.keep hb)
  replace KB := mkHid (KB.out.step hb)
  clear hb
  clear lZA cX cP
  have lZA : w.heap.size + 1 + 1 + 1 < w2.heap.size := ZA.out.lt
  have cX := ZX.out.six
  have cP := ZP.out.five
  have fX0 := ZX.out.frozen 0
  have fX1 := ZX.out.frozen 1
  have fX2 := ZX.out.frozen 2
  have fX3 := ZX.out.frozen 3
  have fX4 := ZX.out.frozen 4
  have fX5 := ZX.out.frozen 5
  go_upto_region 4 with fail
  replace ZX := mkHid (ZX.out.fill6 (b0 := .int .i64 m.h) (b1 := .int .i64 m.cap) (b2 := .slice A1 m.l.length c1) (b3 := .int .i64 m.n) (b4 := .int .i64 m.draws) (b5 := .slice B1 m.sent.length d1))
  replace ZP := mkHid (ZP.out.other6 (g := w.heap.size) (x0 := .int .i64 m.h) (x1 := .int .i64 m.cap) (x2 := .slice A1 m.l.length c1) (x3 := .int .i64 m.n) (x4 := .int .i64 m.draws) (x5 := .slice B1 m.sent.length d1) (by omega))
  replace ZZ := mkHid (ZZ.out.other6 (g := w.heap.size) (x0 := .int .i64 m.h) (x1 := .int .i64 m.cap) (x2 := .slice A1 m.l.length c1) (x3 := .int .i64 m.n) (x4 := .int .i64 m.draws) (x5 := .slice B1 m.sent.length d1) (by omega))
  replace ZA := mkHid (ZA.out.other6 (g := w.heap.size) (x0 := .int .i64 m.h) (x1 := .int .i64 m.cap) (x2 := .slice A1 m.l.length c1) (x3 := .int .i64 m.n) (x4 := .int .i64 m.draws) (x5 := .slice B1 m.sent.length d1) (by omega))
  replace KB := mkHid (below_six KB.out (Nat.le_refl _) (.int .i64 m.h) (.int .i64 m.cap) (.slice A1 m.l.length c1) (.int .i64 m.n) (.int .i64 m.draws) (.slice B1 m.sent.length d1))
  replace HO := mkHid (HO.out.past6 (g := w.heap.size) (by omega) (.int .i64 m.h) (.int .i64 m.cap) (.slice A1 m.l.length c1) (.int .i64 m.n) (.int .i64 m.draws) (.slice B1 m.sent.length d1))
  clear lZA cX cP fX0 fX1 fX2 fX3 fX4 fX5
  generalize ((((((w2.setCell ⟨w.heap.size, 0, none⟩ (.int .i64 m.h)).setCell ⟨w.heap.size, 1, none⟩ (.int .i64 m.cap)).setCell ⟨w.heap.size, 2, none⟩ (.slice A1 m.l.length c1)).setCell ⟨w.heap.size, 3, none⟩ (.int .i64 m.n)).setCell ⟨w.heap.size, 4, none⟩ (.int .i64 m.draws)).setCell ⟨w.heap.size, 5, none⟩ (.slice B1 m.sent.length d1)) = w3 at *
  have lZA : w.heap.size + 1 + 1 + 1 < w3.heap.size := ZA.out.lt
  have cX := ZX.out.six
  have cP := ZP.out.five
  have cA := ZA.out.five
  have HRd := mkHid HO.out.reads
  have fa := ZA.out.frozen 0
  go_wp2_with fail
  refine (co_ok f hn n0 n1 w.heap.size A1 c1 B1 d1 _ ZX.out HRd.out).mono ?_
  rintro e w4 ⟨A2, c2, rfl, hrow, hz, hg⟩
  clear HRd fa
  replace ZX := mkHid hz
  replace ZP := mkHid (ZP.out.grown hg (by omega))
  replace ZZ := mkHid (ZZ.out.grown hg (by omega))
  replace ZA := mkHid (ZA.out.grown hg (by omega))
  replace KB := mkHid (KB.out.grown hg (by omega) (fun k hk => by cases hk; omega))
  replace HO := mkHid ((HO.out.grown hg (by omega)).newL (k := m.n + 1) (RowOf.rebase hrow (by omega)))
  clear hz hg hrow lZA cX cP cA
  have lZA : w.heap.size + 1 + 1 + 1 < w4.heap.size := ZA.out.lt
  have cX := ZX.out.six
  have cP := ZP.out.five
  have cA := ZA.out.five
  have fa := ZA.out.frozen 0
  go_upto_region 23 with fail
  clear fa
  replace ZX : Hid (Blk (w4.setCell ⟨w.heap.size + 1 + 1 + 1, 0, none⟩ (.int .i64 0)) w.heap.size 45 #[.int .i64 m.h, .int .i64 m.cap, .slice A2 L.length c2, .int .i64 (m.n + 1), .int .i64 m.draws, .slice B1 m.sent.length d1]) := mkHid ((ZX.out.other _ (by omega)))
  replace ZP : Hid (Blk (w4.setCell ⟨w.heap.size + 1 + 1 + 1, 0, none⟩ (.int .i64 0)) (w.heap.size + 1) 53 #[.int .i64 2, .int .u64 (i : Int), .int .i64 n, .int .u64 (p1.toNat : Int), .int .u64 (p2.toNat : Int)]) := mkHid ((ZP.out.other _ (by omega)))
  replace ZZ : Hid (Blk (w4.setCell ⟨w.heap.size + 1 + 1 + 1, 0, none⟩ (.int .i64 0)) (w.heap.size + 1 + 1) 45 #[.int .i64 0, .int .i64 0, .slice none 0 0, .int .i64 0, .int .i64 0, .slice none 0 0]) := mkHid ((ZZ.out.other _ (by omega)))
  replace ZA : Hid (Blk (w4.setCell ⟨w.heap.size + 1 + 1 + 1, 0, none⟩ (.int .i64 0)) (w.heap.size + 1 + 1 + 1) 55 #[.int .i64 0, .int .i64 0, .int .i64 0, .int .u64 0, .int .u64 0]) := mkHid ((ZA.out.set 0 (.int .i64 0)))
  replace KB : Hid (Below w.heap.size w (w4.setCell ⟨w.heap.size + 1 + 1 + 1, 0, none⟩ (.int .i64 0))) := mkHid ((KB.out.setCell (by show w.heap.size ≤ w.heap.size + 1 + 1 + 1; omega) _))
  replace HO := mkHid ((HO.out.past (g := w.heap.size + 1 + 1 + 1) (by omega) 0 (.int .i64 0)))
  generalize (w4.setCell ⟨w.heap.size + 1 + 1 + 1, 0, none⟩ (.int .i64 0)) = w5 at *
  clear lZA cX cP cA
  have lZA : w.heap.size + 1 + 1 + 1 < w5.heap.size := ZA.out.lt
  have cX := ZX.out.six
  have cP := ZP.out.five
  have cA := ZA.out.five
  replace ZX : Hid (Blk w5.drew _ _ _) := mkHid ZX.out.drew
  replace ZA : Hid (Blk w5.drew _ _ _) := mkHid ZA.out.drew
  replace ZZ : Hid (Blk w5.drew _ _ _) := mkHid ZZ.out.drew
  replace KB : Hid (Below w.heap.size w w5.drew) := mkHid KB.out.drew
  replace HO := mkHid (HO.out.below (Below.drew (Below.refl _ w5)))
  clear cX cP cA
  have cZ := ZZ.out.six
  have cA := ZA.out.five
  have gz0 := ZZ.out.frozen 0
  have gz1 := ZZ.out.frozen 1
  have gz2 := ZZ.out.frozen 2
  have gz3 := ZZ.out.frozen 3
  have gz4 := ZZ.out.frozen 4
  have gz5 := ZZ.out.frozen 5
  have ga0 := ZA.out.frozen 0
  have ga1 := ZA.out.frozen 1
  have ga2 := ZA.out.frozen 2
  have ga3 := ZA.out.frozen 3
  have ga4 := ZA.out.frozen 4
  clear ZP
  refine wp_region_late (late := fun i => decide (3 ≤ i)) (S := fun w' => Hid (Blk w' w.heap.size 45 #[.int .i64 m.h, .int .i64 m.cap, .slice A2 L.length c2, .int .i64 (m.n + 1), .int .i64 m.draws, .slice B1 m.sent.length d1]) ∧ Hid (Blk w' (w.heap.size + 1 + 1 + 1) 55 #[.int .i64 0, .int .i64 0, .int .i64 0, .int .u64 0, .int .u64 0])) (by kernel_rfl) ?_ (fun hHeld => ?_)
  · ((try dsimp only); refine ⟨?_, ?_⟩ <;> first | with_reducible assumption | (with_reducible refine mkHid (Blk.other6 (Hid.out ?_) ?_) <;> first | with_reducible assumption | omega))
  generalize w5.drew = u at *
  refine Any.take (i := 0) (v := ?_) rfl (by kernel_rfl) (by kernel_rfl) (by kernel_rfl) (by kernel_rfl) (fun _ _ _ h => h) (Or.inl ⟨by rfl, ?_⟩) hHeld ?_
  rotate_left
  · intro w hSw
    (try dsimp only at hSw)
    have q := hSw.1.out.six
    clear hSw
    go_simp
    all_goals with_reducible rfl
  try simp only [List.getElem_toArray, List.getElem_cons_succ, List.getElem_cons_zero, Act.put, List.setIfInBounds_toArray, List.set_cons_zero, List.set_cons_succ]
  refine Any.take (i := 1) (v := ?_) rfl (by kernel_rfl) (by kernel_rfl) (by kernel_rfl) (by kernel_rfl) (fun _ _ _ h => h) (Or.inl ⟨by rfl, ?_⟩) hHeld ?_
  rotate_left
  · intro w hSw
    (try dsimp only at hSw)
    have q := hSw.2.out.five
    clear hSw
    go_simp
    all_goals with_reducible rfl
  try simp only [List.getElem_toArray, List.getElem_cons_succ, List.getElem_cons_zero, Act.put, List.setIfInBounds_toArray, List.set_cons_zero, List.set_cons_succ]
  refine Any.ready (rs := [2]) (by kernel_rfl) (by simp) ?_
  refine AllAny.cons rfl rfl (fun K hK => ?_) AllAny.nil
  go_simp
  refine hK.out _ _ ?_ (fun hHeld => ?_)
  · ((try dsimp only); refine ⟨?_, ?_⟩ <;> first | with_reducible assumption | (with_reducible refine mkHid (Blk.other6 (Hid.out ?_) ?_) <;> first | with_reducible assumption | omega))
  clear hK K
  try simp only [List.getElem_toArray, List.getElem_cons_succ, List.getElem_cons_zero, Act.put, List.setIfInBounds_toArray, List.set_cons_zero, List.set_cons_succ]
  refine Any.ready (rs := [3]) (by kernel_rfl) (by simp) ?_
  refine AllAny.lateCons rfl rfl (fun K hK => ?_) AllAny.nil
  go_simp
  refine hK.out _ _ ?_
  clear hK K
  try simp only [List.getElem_toArray, List.getElem_cons_succ, List.getElem_cons_zero, Act.put, List.setIfInBounds_toArray, List.set_cons_zero, List.set_cons_succ]
  refine Any.ready (rs := [4]) (by kernel_rfl) (by simp) ?_
  refine AllAny.lateCons rfl rfl (fun K hK => ?_) AllAny.nil
  go_simp
  refine hK.out _ _ ?_
  clear hK K
  try simp only [List.getElem_toArray, List.getElem_cons_succ, List.getElem_cons_zero, Act.put, List.setIfInBounds_toArray, List.set_cons_zero, List.set_cons_succ]
  refine Any.done (by kernel_rfl) ?_ _
  have qR := ((ZZ.out.fill6 (b0 := .int .i64 m.h) (b1 := .int .i64 m.cap) (b2 := .slice A2 L.length c2) (b3 := .int .i64 (m.n + 1)) (b4 := .int .i64 m.draws) (b5 := .slice B1 m.sent.length d1)).other5 (g := w.heap.size + 1 + 1 + 1) (x0 := .int .i64 0) (x1 := .int .i64 0) (x2 := .int .i64 0) (x3 := .int .u64 0) (x4 := .int .u64 0) (by omega)).six
  have qA := ((ZA.out.other6 (g := w.heap.size + 1 + 1) (x0 := .int .i64 m.h) (x1 := .int .i64 m.cap) (x2 := .slice A2 L.length c2) (x3 := .int .i64 (m.n + 1)) (x4 := .int .i64 m.draws) (x5 := .slice B1 m.sent.length d1) (by omega)).fill5 (b0 := .int .i64 0) (b1 := .int .i64 0) (b2 := .int .i64 0) (b3 := .int .u64 0) (b4 := .int .u64 0)).five
  go_wp2_with fail
  refine bodyPost_ret (v := .tuple #[.agg #[.int .i64 m.h, .int .i64 m.cap, .slice A2 L.length c2, .int .i64 (m.n + 1), .int .i64 m.draws, .slice B1 m.sent.length d1], .agg #[.int .i64 0, .int .i64 0, .int .i64 0, .int .u64 0, .int .u64 0], .int .i64 0]) (by simp [results, Try.results29, go_sem, qR, qA]) rfl ⟨_, _, _, _, X1, rfl, OwnM.base (b' := w.heap.size + 4) ?_ (by omega), below_five (below_six KB.out (by omega) _ _ _ _ _ _) (by omega) _ _ _ _ _⟩
  exact (HO.out.past6 (by omega) _ _ _ _ _ _).past5 (by omega) _ _ _ _ _
end Go.Proofs.Ytmehbonjpmlmfaa

namespace Go.Proofs.Ytmehbonjpmlmfaa
open Go.RowKit

set_option linter.unusedSimpArgs false in
set_option maxRecDepth 100000 in
set_option maxHeartbeats 4000000 in
theorem do3_full {m : ModD} {i : Nat} {n : Int} {p1 p2 : BitVec 64} (e : Hid ((if okM m then (0 : Int) else 1) = 0)) (hd : Hid ((m.sent.length : Int) + 1 = m.draws)) (A : Option Addr) (c : Nat) (B : Option Addr) (d : Nat) (w : World) (hM : MemM w A c B d m) :
    Calls Try.prog 29 #[.agg #[.int .i64 m.h, .int .i64 m.cap, .slice A m.l.length c, .int .i64 m.n, .int .i64 m.draws, .slice B m.sent.length d], .agg #[.int .i64 3, .int .u64 (i : Int), .int .i64 n, .int .u64 (p1.toNat : Int), .int .u64 (p2.toNat : Int)]] w (DoPost m (ansE 10) 0 w) := by
  have HS := mkHid (okM_sizes (m := m) (by cases hk : okM m with | true => rfl | false => exact absurd e.out (by rw [hk]; simp)))
  have hwn : IntKind.i64.wrap ((m.sent.length : Int) + 1) = (m.sent.length : Int) + 1 := by rw [IntKind.wrap_i64]; have := HS.out.2.1; omega
  have t1 : ((m.sent.length : Int) + 1 == m.draws) = true := beq_iff_eq.2 hd.out
  have ZX : Hid (Blk ((((w.alloc (.cells #[.int .i64 m.h, .int .i64 m.cap, .slice A m.l.length c, .int .i64 m.n, .int .i64 m.draws, .slice B m.sent.length d] 45)).alloc (.cells #[.int .i64 3, .int .u64 (i : Int), .int .i64 n, .int .u64 (p1.toNat : Int), .int .u64 (p2.toNat : Int)] 53)).alloc (.cells #[.int .i64 0, .int .i64 0, .slice none 0 0, .int .i64 0, .int .i64 0, .slice none 0 0] 45)).alloc (.cells #[.int .i64 0, .int .i64 0, .int .i64 0, .int .u64 0, .int .u64 0] 55)) w.heap.size 45 #[.int .i64 m.h, .int .i64 m.cap, .slice A m.l.length c, .int .i64 m.n, .int .i64 m.draws, .slice B m.sent.length d]) := mkHid ((((Blk.new _ _ _).alloc _).alloc _).alloc _)
  have ZP : Hid (Blk ((((w.alloc (.cells #[.int .i64 m.h, .int .i64 m.cap, .slice A m.l.length c, .int .i64 m.n, .int .i64 m.draws, .slice B m.sent.length d] 45)).alloc (.cells #[.int .i64 3, .int .u64 (i : Int), .int .i64 n, .int .u64 (p1.toNat : Int), .int .u64 (p2.toNat : Int)] 53)).alloc (.cells #[.int .i64 0, .int .i64 0, .slice none 0 0, .int .i64 0, .int .i64 0, .slice none 0 0] 45)).alloc (.cells #[.int .i64 0, .int .i64 0, .int .i64 0, .int .u64 0, .int .u64 0] 55)) (w.heap.size + 1) 53 #[.int .i64 3, .int .u64 (i : Int), .int .i64 n, .int .u64 (p1.toNat : Int), .int .u64 (p2.toNat : Int)]) := mkHid (((Blk.at _ _ _ (by simp)).alloc _).alloc _)
  have ZZ : Hid (Blk ((((w.alloc (.cells #[.int .i64 m.h, .int .i64 m.cap, .slice A m.l.length c, .int .i64 m.n, .int .i64 m.draws, .slice B m.sent.length d] 45)).alloc (.cells #[.int .i64 3, .int .u64 (i : Int), .int .i64 n, .int .u64 (p1.toNat : Int), .int .u64 (p2.toNat : Int)] 53)).alloc (.cells #[.int .i64 0, .int .i64 0, .slice none 0 0, .int .i64 0, .int .i64 0, .slice none 0 0] 45)).alloc (.cells #[.int .i64 0, .int .i64 0, .int .i64 0, .int .u64 0, .int .u64 0] 55)) (w.heap.size + 1 + 1) 45 #[.int .i64 0, .int .i64 0, .slice none 0 0, .int .i64 0, .int .i64 0, .slice none 0 0]) := mkHid ((Blk.at _ _ _ (by simp)).alloc _)
  have ZA : Hid (Blk ((((w.alloc (.cells #[.int .i64 m.h, .int .i64 m.cap, .slice A m.l.length c, .int .i64 m.n, .int .i64 m.draws, .slice B m.sent.length d] 45)).alloc (.cells #[.int .i64 3, .int .u64 (i : Int), .int .i64 n, .int .u64 (p1.toNat : Int), .int .u64 (p2.toNat : Int)] 53)).alloc (.cells #[.int .i64 0, .int .i64 0, .slice none 0 0, .int .i64 0, .int .i64 0, .slice none 0 0] 45)).alloc (.cells #[.int .i64 0, .int .i64 0, .int .i64 0, .int .u64 0, .int .u64 0] 55)) (w.heap.size + 1 + 1 + 1) 55 #[.int .i64 0, .int .i64 0, .int .i64 0, .int .u64 0, .int .u64 0]) := mkHid (Blk.at _ _ _ (by simp))
  have KB : Hid (Below w.heap.size w ((((w.alloc (.cells #[.int .i64 m.h, .int .i64 m.cap, .slice A m.l.length c, .int .i64 m.n, .int .i64 m.draws, .slice B m.sent.length d] 45)).alloc (.cells #[.int .i64 3, .int .u64 (i : Int), .int .i64 n, .int .u64 (p1.toNat : Int), .int .u64 (p2.toNat : Int)] 53)).alloc (.cells #[.int .i64 0, .int .i64 0, .slice none 0 0, .int .i64 0, .int .i64 0, .slice none 0 0] 45)).alloc (.cells #[.int .i64 0, .int .i64 0, .int .i64 0, .int .u64 0, .int .u64 0] 55))) := mkHid (((((Below.refl _ _).alloc (Nat.le_refl _) (.cells #[.int .i64 m.h, .int .i64 m.cap, .slice A m.l.length c, .int .i64 m.n, .int .i64 m.draws, .slice B m.sent.length d] 45)).alloc (by simp) (.cells #[.int .i64 3, .int .u64 (i : Int), .int .i64 n, .int .u64 (p1.toNat : Int), .int .u64 (p2.toNat : Int)] 53)).alloc (by simp; omega) (.cells #[.int .i64 0, .int .i64 0, .slice none 0 0, .int .i64 0, .int .i64 0, .slice none 0 0] 45)).alloc (by simp; omega) (.cells #[.int .i64 0, .int .i64 0, .int .i64 0, .int .u64 0, .int .u64 0] 55))
  have HM := mkHid (hM.below (((((Below.refl _ _).alloc (Nat.le_refl _) (.cells #[.int .i64 m.h, .int .i64 m.cap, .slice A m.l.length c, .int .i64 m.n, .int .i64 m.draws, .slice B m.sent.length d] 45)).alloc (by simp) (.cells #[.int .i64 3, .int .u64 (i : Int), .int .i64 n, .int .u64 (p1.toNat : Int), .int .u64 (p2.toNat : Int)] 53)).alloc (by simp; omega) (.cells #[.int .i64 0, .int .i64 0, .slice none 0 0, .int .i64 0, .int .i64 0, .slice none 0 0] 45)).alloc (by simp; omega) (.cells #[.int .i64 0, .int .i64 0, .int .i64 0, .int .u64 0, .int .u64 0] 55)))
  clear hM
  go_enter Try.func29, Try.ntmps29
  go_upto_region 1 with fail
  generalize ((((w.alloc (.cells #[.int .i64 m.h, .int .i64 m.cap, .slice A m.l.length c, .int .i64 m.n, .int .i64 m.draws, .slice B m.sent.length d] 45)).alloc (.cells #[.int .i64 3, .int .u64 (i : Int), .int .i64 n, .int .u64 (p1.toNat : Int), .int .u64 (p2.toNat : Int)] 53)).alloc (.cells #[.int .i64 0, .int .i64 0, .slice none 0 0, .int .i64 0, .int .i64 0, .slice none 0 0] 45)).alloc (.cells #[.int .i64 0, .int .i64 0, .int .i64 0, .int .u64 0, .int .u64 0] 55)) = w0 at *
  have lZA : w.heap.size + 1 + 1 + 1 < w0.heap.size := ZA.out.lt
  have cX := ZX.out.six
  have cP := ZP.out.five
  go_wp2_with fail
  refine (mchk e _ _ _ _ _ HM.out).mono ?_
  rintro e w1 ⟨rfl, hb⟩
  replace ZX := mkHid (ZX.out.keep hb)
  replace ZP := mkHid (ZP.out.keep hb)
  replace ZZ := mkHid (ZZ.out.keep hb)
  replace ZA := mkHid (ZA.out.keep hb)
  replace KB := mkHid (KB.out.step hb)
  replace HM := mkHid (HM.out.below hb)
  clear hb
  clear lZA cX cP
  have lZA : w.heap.size + 1 + 1 + 1 < w1.heap.size := ZA.out.lt
  have cX := ZX.out.six
  have cP := ZP.out.five
  go_wp2_with fail
  refine (mown HS.out.1 HS.out.2.1 HS.out.2.2 _ _ _ _ _ HM.out).mono ?_
  rintro e w2 ⟨⟨A1, c1, B1, d1, X1, rfl, ho⟩, hb⟩
  have HO := mkHid (ho.base (b := w.heap.size + 4) (by omega))
  clear ho HM
  replace ZX := mkHid (ZX.out.keep hb)
  replace ZP := mkHid (ZP.out.keep hb)
  replace ZZ := mkHid (ZZ.out.keep hb)
  replace ZA := mkHid (ZA.out.keep hb)
  replace KB := mkHid (KB.out.step hb)
  clear hb
  clear lZA cX cP
  have lZA : w.heap.size + 1 + 1 + 1 < w2.heap.size := ZA.out.lt
  have cX := ZX.out.six
  have cP := ZP.out.five
  have fX0 := ZX.out.frozen 0
  have fX1 := ZX.out.frozen 1
  have fX2 := ZX.out.frozen 2
  have fX3 := ZX.out.frozen 3
  have fX4 := ZX.out.frozen 4
  have fX5 := ZX.out.frozen 5
  go_upto_region 4 with fail
  replace ZX := mkHid (ZX.out.fill6 (b0 := .int .i64 m.h) (b1 := .int .i64 m.cap) (b2 := .slice A1 m.l.length c1) (b3 := .int .i64 m.n) (b4 := .int .i64 m.draws) (b5 := .slice B1 m.sent.length d1))
  replace ZP := mkHid (ZP.out.other6 (g := w.heap.size) (x0 := .int .i64 m.h) (x1 := .int .i64 m.cap) (x2 := .slice A1 m.l.length c1) (x3 := .int .i64 m.n) (x4 := .int .i64 m.draws) (x5 := .slice B1 m.sent.length d1) (by omega))
  replace ZZ := mkHid (ZZ.out.other6 (g := w.heap.size) (x0 := .int .i64 m.h) (x1 := .int .i64 m.cap) (x2 := .slice A1 m.l.length c1) (x3 := .int .i64 m.n) (x4 := .int .i64 m.draws) (x5 := .slice B1 m.sent.length d1) (by omega))
  replace ZA := mkHid (ZA.out.other6 (g := w.heap.size) (x0 := .int .i64 m.h) (x1 := .int .i64 m.cap) (x2 := .slice A1 m.l.length c1) (x3 := .int .i64 m.n) (x4 := .int .i64 m.draws) (x5 := .slice B1 m.sent.length d1) (by omega))
  replace KB := mkHid (below_six KB.out (Nat.le_refl _) (.int .i64 m.h) (.int .i64 m.cap) (.slice A1 m.l.length c1) (.int .i64 m.n) (.int .i64 m.draws) (.slice B1 m.sent.length d1))
  replace HO := mkHid (HO.out.past6 (g := w.heap.size) (by omega) (.int .i64 m.h) (.int .i64 m.cap) (.slice A1 m.l.length c1) (.int .i64 m.n) (.int .i64 m.draws) (.slice B1 m.sent.length d1))
  clear lZA cX cP fX0 fX1 fX2 fX3 fX4 fX5
  generalize ((((((w2.setCell ⟨w.heap.size, 0, none⟩ (.int .i64 m.h)).setCell ⟨w.heap.size, 1, none⟩ (.int .i64 m.cap)).setCell ⟨w.heap.size, 2, none⟩ (.slice A1 m.l.length c1)).setCell ⟨w.heap.size, 3, none⟩ (.int .i64 m.n)).setCell ⟨w.heap.size, 4, none⟩ (.int .i64 m.draws)).setCell ⟨w.heap.size, 5, none⟩ (.slice B1 m.sent.length d1)) = w3 at *
  have lZA : w.heap.size + 1 + 1 + 1 < w3.heap.size := ZA.out.lt
  have cX := ZX.out.six
  have cP := ZP.out.five
  have cA := ZA.out.five
  have fa := ZA.out.frozen 0
  go_upto_region 23 with fail
  clear fa
  replace ZX : Hid (Blk (w3.setCell ⟨w.heap.size + 1 + 1 + 1, 0, none⟩ (.int .i64 10)) w.heap.size 45 #[.int .i64 m.h, .int .i64 m.cap, .slice A1 m.l.length c1, .int .i64 m.n, .int .i64 m.draws, .slice B1 m.sent.length d1]) := mkHid ((ZX.out.other _ (by omega)))
  replace ZP : Hid (Blk (w3.setCell ⟨w.heap.size + 1 + 1 + 1, 0, none⟩ (.int .i64 10)) (w.heap.size + 1) 53 #[.int .i64 3, .int .u64 (i : Int), .int .i64 n, .int .u64 (p1.toNat : Int), .int .u64 (p2.toNat : Int)]) := mkHid ((ZP.out.other _ (by omega)))
  replace ZZ : Hid (Blk (w3.setCell ⟨w.heap.size + 1 + 1 + 1, 0, none⟩ (.int .i64 10)) (w.heap.size + 1 + 1) 45 #[.int .i64 0, .int .i64 0, .slice none 0 0, .int .i64 0, .int .i64 0, .slice none 0 0]) := mkHid ((ZZ.out.other _ (by omega)))
  replace ZA : Hid (Blk (w3.setCell ⟨w.heap.size + 1 + 1 + 1, 0, none⟩ (.int .i64 10)) (w.heap.size + 1 + 1 + 1) 55 #[.int .i64 10, .int .i64 0, .int .i64 0, .int .u64 0, .int .u64 0]) := mkHid ((ZA.out.set 0 (.int .i64 10)))
  replace KB : Hid (Below w.heap.size w (w3.setCell ⟨w.heap.size + 1 + 1 + 1, 0, none⟩ (.int .i64 10))) := mkHid ((KB.out.setCell (by show w.heap.size ≤ w.heap.size + 1 + 1 + 1; omega) _))
  replace HO := mkHid ((HO.out.past (g := w.heap.size + 1 + 1 + 1) (by omega) 0 (.int .i64 10)))
  generalize (w3.setCell ⟨w.heap.size + 1 + 1 + 1, 0, none⟩ (.int .i64 10)) = w5 at *
  clear lZA cX cP cA
  have lZA : w.heap.size + 1 + 1 + 1 < w5.heap.size := ZA.out.lt
  have cX := ZX.out.six
  have cP := ZP.out.five
  have cA := ZA.out.five
  replace ZX : Hid (Blk w5.drew _ _ _) := mkHid ZX.out.drew
  replace ZA : Hid (Blk w5.drew _ _ _) := mkHid ZA.out.drew
  replace ZZ : Hid (Blk w5.drew _ _ _) := mkHid ZZ.out.drew
  replace KB : Hid (Below w.heap.size w w5.drew) := mkHid KB.out.drew
  replace HO := mkHid (HO.out.below (Below.drew (Below.refl _ w5)))
  clear cX cP cA
  have cZ := ZZ.out.six
  have cA := ZA.out.five
  have gz0 := ZZ.out.frozen 0
  have gz1 := ZZ.out.frozen 1
  have gz2 := ZZ.out.frozen 2
  have gz3 := ZZ.out.frozen 3
  have gz4 := ZZ.out.frozen 4
  have gz5 := ZZ.out.frozen 5
  have ga0 := ZA.out.frozen 0
  have ga1 := ZA.out.frozen 1
  have ga2 := ZA.out.frozen 2
  have ga3 := ZA.out.frozen 3
  have ga4 := ZA.out.frozen 4
  clear ZP
  refine wp_region_late (late := fun i => decide (3 ≤ i)) (S := fun w' => Hid (Blk w' w.heap.size 45 #[.int .i64 m.h, .int .i64 m.cap, .slice A1 m.l.length c1, .int .i64 m.n, .int .i64 m.draws, .slice B1 m.sent.length d1]) ∧ Hid (Blk w' (w.heap.size + 1 + 1 + 1) 55 #[.int .i64 10, .int .i64 0, .int .i64 0, .int .u64 0, .int .u64 0])) (by kernel_rfl) ?_ (fun hHeld => ?_)
  · ((try dsimp only); refine ⟨?_, ?_⟩ <;> first | with_reducible assumption | (with_reducible refine mkHid (Blk.other6 (Hid.out ?_) ?_) <;> first | with_reducible assumption | omega))
  generalize w5.drew = u at *
  refine Any.take (i := 0) (v := ?_) rfl (by kernel_rfl) (by kernel_rfl) (by kernel_rfl) (by kernel_rfl) (fun _ _ _ h => h) (Or.inl ⟨by rfl, ?_⟩) hHeld ?_
  rotate_left
  · intro w hSw
    (try dsimp only at hSw)
    have q := hSw.1.out.six
    clear hSw
    go_simp
    all_goals with_reducible rfl
  try simp only [List.getElem_toArray, List.getElem_cons_succ, List.getElem_cons_zero, Act.put, List.setIfInBounds_toArray, List.set_cons_zero, List.set_cons_succ]
  refine Any.take (i := 1) (v := ?_) rfl (by kernel_rfl) (by kernel_rfl) (by kernel_rfl) (by kernel_rfl) (fun _ _ _ h => h) (Or.inl ⟨by rfl, ?_⟩) hHeld ?_
  rotate_left
  · intro w hSw
    (try dsimp only at hSw)
    have q := hSw.2.out.five
    clear hSw
    go_simp
    all_goals with_reducible rfl
  try simp only [List.getElem_toArray, List.getElem_cons_succ, List.getElem_cons_zero, Act.put, List.setIfInBounds_toArray, List.set_cons_zero, List.set_cons_succ]
  refine Any.ready (rs := [2]) (by kernel_rfl) (by simp) ?_
  refine AllAny.cons rfl rfl (fun K hK => ?_) AllAny.nil
  go_simp
  refine hK.out _ _ ?_ (fun hHeld => ?_)
  · ((try dsimp only); refine ⟨?_, ?_⟩ <;> first | with_reducible assumption | (with_reducible refine mkHid (Blk.other6 (Hid.out ?_) ?_) <;> first | with_reducible assumption | omega))
  clear hK K
  try simp only [List.getElem_toArray, List.getElem_cons_succ, List.getElem_cons_zero, Act.put, List.setIfInBounds_toArray, List.set_cons_zero, List.set_cons_succ]
  refine Any.ready (rs := [3]) (by kernel_rfl) (by simp) ?_
  refine AllAny.lateCons rfl rfl (fun K hK => ?_) AllAny.nil
  go_simp
  refine hK.out _ _ ?_
  clear hK K
  try simp only [List.getElem_toArray, List.getElem_cons_succ, List.getElem_cons_zero, Act.put, List.setIfInBounds_toArray, List.set_cons_zero, List.set_cons_succ]
  refine Any.ready (rs := [4]) (by kernel_rfl) (by simp) ?_
  refine AllAny.lateCons rfl rfl (fun K hK => ?_) AllAny.nil
  go_simp
  refine hK.out _ _ ?_
  clear hK K
  try simp only [List.getElem_toArray, List.getElem_cons_succ, List.getElem_cons_zero, Act.put, List.setIfInBounds_toArray, List.set_cons_zero, List.set_cons_succ]
  refine Any.done (by kernel_rfl) ?_ _
  have qR := ((ZZ.out.fill6 (b0 := .int .i64 m.h) (b1 := .int .i64 m.cap) (b2 := .slice A1 m.l.length c1) (b3 := .int .i64 m.n) (b4 := .int .i64 m.draws) (b5 := .slice B1 m.sent.length d1)).other5 (g := w.heap.size + 1 + 1 + 1) (x0 := .int .i64 10) (x1 := .int .i64 0) (x2 := .int .i64 0) (x3 := .int .u64 0) (x4 := .int .u64 0) (by omega)).six
  have qA := ((ZA.out.other6 (g := w.heap.size + 1 + 1) (x0 := .int .i64 m.h) (x1 := .int .i64 m.cap) (x2 := .slice A1 m.l.length c1) (x3 := .int .i64 m.n) (x4 := .int .i64 m.draws) (x5 := .slice B1 m.sent.length d1) (by omega)).fill5 (b0 := .int .i64 10) (b1 := .int .i64 0) (b2 := .int .i64 0) (b3 := .int .u64 0) (b4 := .int .u64 0)).five
  go_wp2_with fail
  refine bodyPost_ret (v := .tuple #[.agg #[.int .i64 m.h, .int .i64 m.cap, .slice A1 m.l.length c1, .int .i64 m.n, .int .i64 m.draws, .slice B1 m.sent.length d1], .agg #[.int .i64 10, .int .i64 0, .int .i64 0, .int .u64 0, .int .u64 0], .int .i64 0]) (by simp [results, Try.results29, go_sem, qR, qA]) rfl ⟨_, _, _, _, X1, rfl, OwnM.base (b' := w.heap.size + 4) ?_ (by omega), below_five (below_six KB.out (by omega) _ _ _ _ _ _) (by omega) _ _ _ _ _⟩
  exact (HO.out.past6 (by omega) _ _ _ _ _ _).past5 (by omega) _ _ _ _ _

set_option linter.unusedSimpArgs false in
set_option maxRecDepth 100000 in
set_option maxHeartbeats 4000000 in
theorem do3_ok {m : ModD} {i : Nat} {n : Int} {p1 p2 : BitVec 64} (e : Hid ((if okM m then (0 : Int) else 1) = 0)) (hd : Hid ((m.sent.length : Int) + 1 ≠ m.draws)) (A : Option Addr) (c : Nat) (B : Option Addr) (d : Nat) (w : World) (hM : MemM w A c B d m) :
    Calls Try.prog 29 #[.agg #[.int .i64 m.h, .int .i64 m.cap, .slice A m.l.length c, .int .i64 m.n, .int .i64 m.draws, .slice B m.sent.length d], .agg #[.int .i64 3, .int .u64 (i : Int), .int .i64 n, .int .u64 (p1.toNat : Int), .int .u64 (p2.toNat : Int)]] w (DoPost { m with sent := m.sent ++ [⟨m.l, (m.sent.length : Int) + 1, (p1, p2)⟩] } ⟨0, (m.sent.length : Int) + 1, (m.sent.length : Int) + 1, (0, 0)⟩ 0 w) := by
  have HS := mkHid (okM_sizes (m := m) (by cases hk : okM m with | true => rfl | false => exact absurd e.out (by rw [hk]; simp)))
  have hwn : IntKind.i64.wrap ((m.sent.length : Int) + 1) = (m.sent.length : Int) + 1 := by rw [IntKind.wrap_i64]; have := HS.out.2.1; omega
  have t1 : ((m.sent.length : Int) + 1 == m.draws) = false := beq_eq_false_iff_ne.2 hd.out
  have ZX : Hid (Blk ((((w.alloc (.cells #[.int .i64 m.h, .int .i64 m.cap, .slice A m.l.length c, .int .i64 m.n, .int .i64 m.draws, .slice B m.sent.length d] 45)).alloc (.cells #[.int .i64 3, .int .u64 (i : Int), .int .i64 n, .int .u64 (p1.toNat : Int), .int .u64 (p2.toNat : Int)] 53)).alloc (.cells #[.int .i64 0, .int .i64 0, .slice none 0 0, .int .i64 0, .int .i64 0, .slice none 0 0] 45)).alloc (.cells #[.int .i64 0, .int .i64 0, .int .i64 0, .int .u64 0, .int .u64 0] 55)) w.heap.size 45 #[.int .i64 m.h, .int .i64 m.cap, .slice A m.l.length c, .int .i64 m.n, .int .i64 m.draws, .slice B m.sent.length d]) := mkHid ((((Blk.new _ _ _).alloc _).alloc _).alloc _)
  have ZP : Hid (Blk ((((w.alloc (.cells #[.int .i64 m.h, .int .i64 m.cap, .slice A m.l.length c, .int .i64 m.n, .int .i64 m.draws, .slice B m.sent.length d] 45)).alloc (.cells #[.int .i64 3, .int .u64 (i : Int), .int .i64 n, .int .u64 (p1.toNat : Int), .int .u64 (p2.toNat : Int)] 53)).alloc (.cells #[.int .i64 0, .int .i64 0, .slice none 0 0, .int .i64 0, .int .i64 0, .slice none 0 0] 45)).alloc (.cells #[.int .i64 0, .int .i64 0, .int .i64 0, .int .u64 0, .int .u64 0] 55)) (w.heap.size + 1) 53 #[.int .i64 3, .int .u64 (i : Int), .int .i64 n, .int .u64 (p1.toNat : Int), .int .u64 (p2.toNat : Int)]) := mkHid (((Blk.at _ _ _ (by simp)).alloc _).alloc _)
  have ZZ : Hid (Blk ((((w.alloc (.cells #[.int .i64 m.h, .int .i64 m.cap, .slice A m.l.length c, .int .i64 m.n, .int .i64 m.draws, .slice B m.sent.length d] 45)).alloc (.cells #[.int .i64 3, .int .u64 (i : Int), .int .i64 n, .int .u64 (p1.toNat : Int), .int .u64 (p2.toNat : Int)] 53)).alloc (.cells #[.int .i64 0, .int .i64 0, .slice none 0 0, .int .i64 0, .int .i64 0, .slice none 0 0] 45)).alloc (.cells #[.int .i64 0, .int .i64 0, .int .i64 0, .int .u64 0, .int .u64 0] 55)) (w.heap.size + 1 + 1) 45 #[.int .i64 0, .int .i64 0, .slice none 0 0, .int .i64 0, .int .i64 0, .slice none 0 0]) := mkHid ((Blk.at _ _ _ (by simp)).alloc _)
  have ZA : Hid (Blk ((((w.alloc (.cells #[.int .i64 m.h, .int .i64 m.cap, .slice A m.l.length c, .int .i64 m.n, .int .i64 m.draws, .slice B m.sent.length d] 45)).alloc (.cells #[.int .i64 3, .int .u64 (i : Int), .int .i64 n, .int .u64 (p1.toNat : Int), .int .u64 (p2.toNat : Int)] 53)).alloc (.cells #[.int .i64 0, .int .i64 0, .slice none 0 0, .int .i64 0, .int .i64 0, .slice none 0 0] 45)).alloc (.cells #[.int .i64 0, .int .i64 0, .int .i64 0, .int .u64 0, .int .u64 0] 55)) (w.heap.size + 1 + 1 + 1) 55 #[.int .i64 0, .int .i64 0, .int .i64 0, .int .u64 0, .int .u64 0]) := mkHid (Blk.at _ _ _ (by simp))
  have KB : Hid (Below w.heap.size w ((((w.alloc (.cells #[.int .i64 m.h, .int .i64 m.cap, .slice A m.l.length c, .int .i64 m.n, .int .i64 m.draws, .slice B m.sent.length d] 45)).alloc (.cells #[.int .i64 3, .int .u64 (i : Int), .int .i64 n, .int .u64 (p1.toNat : Int), .int .u64 (p2.toNat : Int)] 53)).alloc (.cells #[.int .i64 0, .int .i64 0, .slice none 0 0, .int .i64 0, .int .i64 0, .slice none 0 0] 45)).alloc (.cells #[.int .i64 0, .int .i64 0, .int .i64 0, .int .u64 0, .int .u64 0] 55))) := mkHid (((((Below.refl _ _).alloc (Nat.le_refl _) (.cells #[.int .i64 m.h, .int .i64 m.cap, .slice A m.l.length c, .int .i64 m.n, .int .i64 m.draws, .slice B m.sent.length d] 45)).alloc (by simp) (.cells #[.int .i64 3, .int .u64 (i : Int), .int .i64 n, .int .u64 (p1.toNat : Int), .int .u64 (p2.toNat : Int)] 53)).alloc (by simp; omega) (.cells #[.int .i64 0, .int .i64 0, .slice none 0 0, .int .i64 0, .int .i64 0, .slice none 0 0] 45)).alloc (by simp; omega) (.cells #[.int .i64 0, .int .i64 0, .int .i64 0, .int .u64 0, .int .u64 0] 55))
  have HM := mkHid (hM.below (((((Below.refl _ _).alloc (Nat.le_refl _) (.cells #[.int .i64 m.h, .int .i64 m.cap, .slice A m.l.length c, .int .i64 m.n, .int .i64 m.draws, .slice B m.sent.length d] 45)).alloc (by simp) (.cells #[.int .i64 3, .int .u64 (i : Int), .int .i64 n, .int .u64 (p1.toNat : Int), .int .u64 (p2.toNat : Int)] 53)).alloc (by simp; omega) (.cells #[.int .i64 0, .int .i64 0, .slice none 0 0, .int .i64 0, .int .i64 0, .slice none 0 0] 45)).alloc (by simp; omega) (.cells #[.int .i64 0, .int .i64 0, .int .i64 0, .int .u64 0, .int .u64 0] 55)))
  clear hM
  go_enter Try.func29, Try.ntmps29
  go_upto_region 1 with fail
  generalize ((((w.alloc (.cells #[.int .i64 m.h, .int .i64 m.cap, .slice A m.l.length c, .int .i64 m.n, .int .i64 m.draws, .slice B m.sent.length d] 45)).alloc (.cells #[.int .i64 3, .int .u64 (i : Int), .int .i64 n, .int .u64 (p1.toNat : Int), .int .u64 (p2.toNat : Int)] 53)).alloc (.cells #[.int .i64 0, .int .i64 0, .slice none 0 0, .int .i64 0, .int .i64 0, .slice none 0 0] 45)).alloc (.cells #[.int .i64 0, .int .i64 0, .int .i64 0, .int .u64 0, .int .u64 0] 55)) = w0 at *
  have lZA : w.heap.size + 1 + 1 + 1 < w0.heap.size := ZA.out.lt
  have cX := ZX.out.six
  have cP := ZP.out.five
  go_wp2_with fail
  refine (mchk e _ _ _ _ _ HM.out).mono ?_
  rintro e w1 ⟨rfl, hb⟩
  replace ZX := mkHid (ZX.out.keep hb)
  replace ZP := mkHid (ZP.out.keep hb)
  replace ZZ := mkHid (ZZ.out.keep hb)
  replace ZA := mkHid (ZA.out.keep hb)
  replace KB := mkHid (KB.out.step hb)
  replace HM := mkHid (HM.out.below hb)
  clear hb
  clear lZA cX cP
  have lZA : w.heap.size + 1 + 1 + 1 < w1.heap.size := ZA.out.lt
  have cX := ZX.out.six
  have cP := ZP.out.five
  go_wp2_with fail
  refine (mown HS.out.1 HS.out.2.1 HS.out.2.2 _ _ _ _ _ HM.out).mono ?_
  rintro e w2 ⟨⟨A1, c1, B1, d1, X1, rfl, ho⟩, hb⟩
  have HO := mkHid (ho.base (b := w.heap.size + 4) (by omega))
  clear ho HM
  replace ZX := mkHid (ZX.out.keep hb)
  replace ZP := mkHid (ZP.out.keep hb)
  replace ZZ := mkHid (ZZ.out.keep hb)
  replace ZA := mkHid (ZA.out.keep hb)
  replace KB := mkHid (KB.out.step hb)
  clear hb
  clear lZA cX cP
  have lZA : w.heap.size + 1 + 1 + 1 < w2.heap.size := ZA.out.lt
  have cX := ZX.out.six
  have cP := ZP.out.five
  have fX0 := ZX.out.frozen 0
  have fX1 := ZX.out.frozen 1
  have fX2 := ZX.out.frozen 2
  have fX3 := ZX.out.frozen 3
  have fX4 := ZX.out.frozen 4
  have fX5 := ZX.out.frozen 5
  go_upto_region 4 with fail
  replace ZX := mkHid (ZX.out.fill6 (b0 := .int .i64 m.h) (b1 := .int .i64 m.cap) (b2 := .slice A1 m.l.length c1) (b3 := .int .i64 m.n) (b4 := .int .i64 m.draws) (b5 := .slice B1 m.sent.length d1))
  replace ZP := mkHid (ZP.out.other6 (g := w.heap.size) (x0 := .int .i64 m.h) (x1 := .int .i64 m.cap) (x2 := .slice A1 m.l.length c1) (x3 := .int .i64 m.n) (x4 := .int .i64 m.draws) (x5 := .slice B1 m.sent.length d1) (by omega))
  replace ZZ := mkHid (ZZ.out.other6 (g := w.heap.size) (x0 := .int .i64 m.h) (x1 := .int .i64 m.cap) (x2 := .slice A1 m.l.length c1) (x3 := .int .i64 m.n) (x4 := .int .i64 m.draws) (x5 := .slice B1 m.sent.length d1) (by omega))
  replace ZA := mkHid (ZA.out.other6 (g := w.heap.size) (x0 := .int .i64 m.h) (x1 := .int .i64 m.cap) (x2 := .slice A1 m.l.length c1) (x3 := .int .i64 m.n) (x4 := .int .i64 m.draws) (x5 := .slice B1 m.sent.length d1) (by omega))
  replace KB := mkHid (below_six KB.out (Nat.le_refl _) (.int .i64 m.h) (.int .i64 m.cap) (.slice A1 m.l.length c1) (.int .i64 m.n) (.int .i64 m.draws) (.slice B1 m.sent.length d1))
  replace HO := mkHid (HO.out.past6 (g := w.heap.size) (by omega) (.int .i64 m.h) (.int .i64 m.cap) (.slice A1 m.l.length c1) (.int .i64 m.n) (.int .i64 m.draws) (.slice B1 m.sent.length d1))
  clear lZA cX cP fX0 fX1 fX2 fX3 fX4 fX5
  generalize ((((((w2.setCell ⟨w.heap.size, 0, none⟩ (.int .i64 m.h)).setCell ⟨w.heap.size, 1, none⟩ (.int .i64 m.cap)).setCell ⟨w.heap.size, 2, none⟩ (.slice A1 m.l.length c1)).setCell ⟨w.heap.size, 3, none⟩ (.int .i64 m.n)).setCell ⟨w.heap.size, 4, none⟩ (.int .i64 m.draws)).setCell ⟨w.heap.size, 5, none⟩ (.slice B1 m.sent.length d1)) = w3 at *
  have lZA : w.heap.size + 1 + 1 + 1 < w3.heap.size := ZA.out.lt
  have cX := ZX.out.six
  have cP := ZP.out.five
  have cA := ZA.out.five
  go_upto_region 13 with fail
  replace ZX : Hid (Blk w3.drew _ _ _) := mkHid ZX.out.drew
  replace ZP : Hid (Blk w3.drew _ _ _) := mkHid ZP.out.drew
  replace ZA : Hid (Blk w3.drew _ _ _) := mkHid ZA.out.drew
  replace ZZ : Hid (Blk w3.drew _ _ _) := mkHid ZZ.out.drew
  replace KB : Hid (Below w.heap.size w w3.drew) := mkHid KB.out.drew
  replace HO := mkHid (HO.out.below (Below.drew (Below.refl _ w3)))
  clear cX cP cA
  have k2 : w3.drew.cell? ⟨w.heap.size, 2, none⟩ = some (.slice A1 m.l.length c1) := ZX.out.cell 2
  have k5 : w3.drew.cell? ⟨w.heap.size, 5, none⟩ = some (.slice B1 m.sent.length d1) := ZX.out.cell 5
  have o3 : w3.drew.cell? ⟨w.heap.size + 1, 3, none⟩ = some (.int .u64 (p1.toNat : Int)) := ZP.out.cell 3
  have o4 : w3.drew.cell? ⟨w.heap.size + 1, 4, none⟩ = some (.int .u64 (p2.toNat : Int)) := ZP.out.cell 4
  have lZ0 : w.heap.size + 1 + 1 + 1 < w3.drew.heap.size := lZA
  clear lZA
  refine wp_region_late (late := fun i => decide (12 ≤ i)) (S := fun w' => w'.cell? ⟨w.heap.size, 2, none⟩ = some (.slice A1 m.l.length c1) ∧ w'.cell? ⟨w.heap.size, 5, none⟩ = some (.slice B1 m.sent.length d1) ∧ w'.cell? ⟨w.heap.size + 1, 3, none⟩ = some (.int .u64 (p1.toNat : Int)) ∧ w'.cell? ⟨w.heap.size + 1, 4, none⟩ = some (.int .u64 (p2.toNat : Int))) (by kernel_rfl) ?_ (fun hHeld => ?_)
  · ((try dsimp only); (try go_split_ands); refine ⟨?_, ?_, ?_, ?_⟩ <;> with_reducible assumption)
  refine Any.take (i := 0) (v := ?_) rfl (by kernel_rfl) (by kernel_rfl) (by kernel_rfl) (by kernel_rfl) (fun _ _ _ h => h) (Or.inl ⟨by rfl, ?_⟩) hHeld ?_
  rotate_left
  · intro w hSw
    (try dsimp only at hSw)
    go_simp
    all_goals with_reducible rfl
  try simp only [List.getElem_toArray, List.getElem_cons_succ, List.getElem_cons_zero, Act.put, List.setIfInBounds_toArray, List.set_cons_zero, List.set_cons_succ]
  refine Any.take (i := 1) (v := ?_) rfl (by kernel_rfl) (by kernel_rfl) (by kernel_rfl) (by kernel_rfl) (fun _ _ _ h => h) (Or.inl ⟨by rfl, ?_⟩) hHeld ?_
  rotate_left
  · intro w hSw
    (try dsimp only at hSw)
    go_simp
    all_goals with_reducible rfl
  try simp only [List.getElem_toArray, List.getElem_cons_succ, List.getElem_cons_zero, Act.put, List.setIfInBounds_toArray, List.set_cons_zero, List.set_cons_succ]
  refine Any.take (i := 2) (v := ?_) rfl (by kernel_rfl) (by kernel_rfl) (by kernel_rfl) (by kernel_rfl) (fun _ _ _ h => h) (Or.inl ⟨by rfl, ?_⟩) hHeld ?_
  rotate_left
  · intro w hSw
    (try dsimp only at hSw)
    go_simp
    all_goals with_reducible rfl
  try simp only [List.getElem_toArray, List.getElem_cons_succ, List.getElem_cons_zero, Act.put, List.setIfInBounds_toArray, List.set_cons_zero, List.set_cons_succ]
  refine Any.take (i := 3) (v := ?_) rfl (by kernel_rfl) (by kernel_rfl) (by kernel_rfl) (by kernel_rfl) (fun _ _ _ h => h) (Or.inl ⟨by rfl, ?_⟩) hHeld ?_
  rotate_left
  · intro w hSw
    (try dsimp only at hSw)
    go_simp
    all_goals with_reducible rfl
  try simp only [List.getElem_toArray, List.getElem_cons_succ, List.getElem_cons_zero, Act.put, List.setIfInBounds_toArray, List.set_cons_zero, List.set_cons_succ]
  refine Any.take (i := 5) (v := ?_) rfl (by kernel_rfl) (by kernel_rfl) (by kernel_rfl) (by kernel_rfl) (fun _ _ _ h => h) (Or.inl ⟨by rfl, ?_⟩) hHeld ?_
  rotate_left
  · intro w hSw
    (try dsimp only at hSw)
    go_simp
    all_goals with_reducible rfl
  try simp only [List.getElem_toArray, List.getElem_cons_succ, List.getElem_cons_zero, Act.put, List.setIfInBounds_toArray, List.set_cons_zero, List.set_cons_succ]
  refine Any.take (i := 6) (v := ?_) rfl (by kernel_rfl) (by kernel_rfl) (by kernel_rfl) (by kernel_rfl) (fun _ _ _ h => h) (Or.inl ⟨by rfl, ?_⟩) hHeld ?_
  rotate_left
  · intro w hSw
    (try dsimp only at hSw)
    go_simp
    all_goals with_reducible rfl
  try simp only [List.getElem_toArray, List.getElem_cons_succ, List.getElem_cons_zero, Act.put, List.setIfInBounds_toArray, List.set_cons_zero, List.set_cons_succ]
  refine Any.take (i := 7) (v := ?_) rfl (by kernel_rfl) (by kernel_rfl) (by kernel_rfl) (by kernel_rfl) (fun _ _ _ h => h) (Or.inl ⟨by rfl, ?_⟩) hHeld ?_
  rotate_left
  · intro w hSw
    (try dsimp only at hSw)
    go_simp
    all_goals with_reducible rfl
  try simp only [List.getElem_toArray, List.getElem_cons_succ, List.getElem_cons_zero, Act.put, List.setIfInBounds_toArray, List.set_cons_zero, List.set_cons_succ]
  refine Any.ready (rs := [4]) (by kernel_rfl) (by simp) ?_
  refine AllAny.cons rfl rfl (fun K hK => ?_) AllAny.nil
  go_simp
  go_at_call 56
  with_reducible refine (clone_any A1 c1 (by have := HS.out.1; omega) _ HO.out.reads).mono ?_
  (try go_split_ands)
  rintro e wa ⟨v1, rfl, ho1, hba⟩
  go_wp2_with fail
  have lZ1 := hba.size
  have NV := mkHid (RowOf.rebase (a := w.heap.size + 4) ho1 (by omega))
  clear ho1
  obtain ⟨A3, c3, rfl⟩ := NV.out.len
  replace ZX := mkHid (ZX.out.keep hba)
  replace ZZ := mkHid (ZZ.out.keep hba)
  replace ZA := mkHid (ZA.out.keep hba)
  replace HO := mkHid (HO.out.below hba)
  replace KB := mkHid (KB.out.step hba)
  replace k2 := keeps hba k2
  replace k5 := keeps hba k5
  replace o3 := keeps hba o3
  replace o4 := keeps hba o4
  clear hba
  refine hK.out _ _ ?_ (fun hHeld => ?_)
  · ((try dsimp only); (try go_split_ands); refine ⟨?_, ?_, ?_, ?_⟩ <;> with_reducible assumption)
  clear hK K
  try simp only [List.getElem_toArray, List.getElem_cons_succ, List.getElem_cons_zero, Act.put, List.setIfInBounds_toArray, List.set_cons_zero, List.set_cons_succ]
  refine Any.take (i := 8) (v := ?_) rfl (by kernel_rfl) (by kernel_rfl) (by kernel_rfl) (by kernel_rfl) (fun _ _ _ h => h) (Or.inl ⟨by rfl, ?_⟩) hHeld ?_
  rotate_left
  · intro w hSw
    (try dsimp only at hSw)
    go_simp
    all_goals with_reducible rfl
  try simp only [List.getElem_toArray, List.getElem_cons_succ, List.getElem_cons_zero, Act.put, List.setIfInBounds_toArray, List.set_cons_zero, List.set_cons_succ]
  refine Any.ready (rs := [9]) (by kernel_rfl) (by simp) ?_
  refine AllAny.cons rfl rfl (fun K hK => ?_) AllAny.nil
  go_simp
  have hb9 : Below wa.heap.size wa (wa.alloc (.cells #[.slice A3 m.l.length c3, .int .i64 ((m.sent.length : Int) + 1), .int .u64 (p1.toNat : Int), .int .u64 (p2.toNat : Int)] 66)) := (Below.refl _ _).alloc (Nat.le_refl _) _
  have ZN : Hid (Blk (wa.alloc (.cells #[.slice A3 m.l.length c3, .int .i64 ((m.sent.length : Int) + 1), .int .u64 (p1.toNat : Int), .int .u64 (p2.toNat : Int)] 66)) wa.heap.size 66 #[.slice A3 m.l.length c3, .int .i64 ((m.sent.length : Int) + 1), .int .u64 (p1.toNat : Int), .int .u64 (p2.toNat : Int)]) := mkHid (Blk.new _ _ _)
  replace ZX := mkHid (ZX.out.keep hb9)
  replace ZZ := mkHid (ZZ.out.keep hb9)
  replace ZA := mkHid (ZA.out.keep hb9)
  replace HO := mkHid (HO.out.below hb9)
  replace NV := mkHid (NV.out.below hb9)
  replace KB := mkHid (KB.out.step hb9)
  replace k2 := keeps hb9 k2
  replace k5 := keeps hb9 k5
  replace o3 := keeps hb9 o3
  replace o4 := keeps hb9 o4
  have lZ2 := hb9.size
  generalize wa.alloc (.cells #[.slice A3 m.l.length c3, .int .i64 ((m.sent.length : Int) + 1), .int .u64 (p1.toNat : Int), .int .u64 (p2.toNat : Int)] 66) = wb at *
  clear hb9
  refine hK.out _ _ ?_ (fun hHeld => ?_)
  · ((try dsimp only); (try go_split_ands); refine ⟨?_, ?_, ?_, ?_⟩ <;> with_reducible assumption)
  clear hK K
  try simp only [List.getElem_toArray, List.getElem_cons_succ, List.getElem_cons_zero, Act.put, List.setIfInBounds_toArray, List.set_cons_zero, List.set_cons_succ]
  refine Any.ready (rs := [10]) (by kernel_rfl) (by simp) ?_
  refine AllAny.cons rfl rfl (fun K hK => ?_) AllAny.nil
  have HAP := sent_append HO.out ⟨A3, c3, ⟨m.l, (m.sent.length : Int) + 1, (p1, p2)⟩⟩ NV.out ⟨wa.heap.size, 0, none⟩ (rowAt_four ZN.out) (by omega) HS.out.2.1 43
  obtain ⟨wc, B3, d3, NL, hr, hNL, ho2, hbc⟩ := HAP
  refine step_append (by rfl) _ _ _ rfl rfl rfl hr ?_
  have HNL := mkHid hNL
  clear hr hNL HO NV ZN
  have HO := mkHid ho2
  clear ho2
  replace ZX := mkHid (ZX.out.below hbc (by omega))
  replace ZZ := mkHid (ZZ.out.below hbc (by omega))
  replace ZA := mkHid (ZA.out.below hbc (by omega))
  replace KB := mkHid (KB.out.trans (hbc.mono (by omega)))
  replace k2 : wc.cell? _ = _ := (hbc.cell (p := ⟨w.heap.size, 2, none⟩) (by show w.heap.size < _; omega)).trans k2
  replace k5 : wc.cell? _ = _ := (hbc.cell (p := ⟨w.heap.size, 5, none⟩) (by show w.heap.size < _; omega)).trans k5
  replace o3 : wc.cell? _ = _ := (hbc.cell (p := ⟨w.heap.size + 1, 3, none⟩) (by show w.heap.size + 1 < _; omega)).trans o3
  replace o4 : wc.cell? _ = _ := (hbc.cell (p := ⟨w.heap.size + 1, 4, none⟩) (by show w.heap.size + 1 < _; omega)).trans o4
  have fz := ZX.out.frozen 5
  have lZA : w.heap.size + 1 + 1 + 1 < wc.heap.size := ZA.out.lt
  clear hbc lZ0 lZ1 lZ2
  refine hK.out _ _ ?_ (fun hHeld => ?_)
  · ((try dsimp only); (try go_split_ands); refine ⟨?_, ?_, ?_, ?_⟩ <;> with_reducible assumption)
  clear hK K
  try simp only [List.getElem_toArray, List.getElem_cons_succ, List.getElem_cons_zero, Act.put, List.setIfInBounds_toArray, List.set_cons_zero, List.set_cons_succ]
  refine Any.take (i := 11) (v := ?_) rfl (by kernel_rfl) (by kernel_rfl) (by kernel_rfl) (by kernel_rfl) (fun _ _ _ h => h) (Or.inl ⟨by rfl, ?_⟩) hHeld ?_
  rotate_left
  · intro w hSw
    (try dsimp only at hSw)
    go_simp
    all_goals with_reducible rfl
  try simp only [List.getElem_toArray, List.getElem_cons_succ, List.getElem_cons_zero, Act.put, List.setIfInBounds_toArray, List.set_cons_zero, List.set_cons_succ]
  refine Any.ready (rs := [12]) (by kernel_rfl) (by simp) ?_
  refine AllAny.lateCons rfl rfl (fun K hK => ?_) AllAny.nil
  go_simp
  refine hK.out _ _ ?_
  clear hK K
  try simp only [List.getElem_toArray, List.getElem_cons_succ, List.getElem_cons_zero, Act.put, List.setIfInBounds_toArray, List.set_cons_zero, List.set_cons_succ]
  refine Any.done (by kernel_rfl) ?_ _
  replace ZX : Hid (Blk (wc.setCell ⟨w.heap.size, 5, none⟩ (.slice B3 NL d3)) w.heap.size 45 #[.int .i64 m.h, .int .i64 m.cap, .slice A1 m.l.length c1, .int .i64 m.n, .int .i64 m.draws, .slice B3 NL d3]) := mkHid (ZX.out.set 5 _)
  replace ZZ := mkHid (ZZ.out.other (m := w.heap.size) (i := 5) (.slice B3 NL d3) (by omega))
  replace ZA := mkHid (ZA.out.other (m := w.heap.size) (i := 5) (.slice B3 NL d3) (by omega))
  replace KB : Hid (Below w.heap.size w (wc.setCell ⟨w.heap.size, 5, none⟩ (.slice B3 NL d3))) := mkHid (KB.out.setCell (Nat.le_refl _) _)
  replace HO := mkHid (HO.out.past (g := w.heap.size) (by omega) 5 (.slice B3 NL d3))
  clear k2 k5 o3 o4 fz
  generalize wc.setCell ⟨w.heap.size, 5, none⟩ (.slice B3 NL d3) = w4 at *
  have lZA' : w.heap.size + 1 + 1 + 1 < w4.heap.size := ZA.out.lt
  clear lZA
  have cA := ZA.out.five
  have fa1 := ZA.out.frozen 1
  have fa2 := ZA.out.frozen 2
  go_upto_region 23 with fail
  clear fa1 fa2
  have lZA := lZA'
  clear lZA'
  have ZP := mkHid trivial
  have cX := ZP
  have cP := ZP
  replace ZX : Hid (Blk ((w4.setCell ⟨w.heap.size + 1 + 1 + 1, 1, none⟩ (.int .i64 ((m.sent.length : Int) + 1))).setCell ⟨w.heap.size + 1 + 1 + 1, 2, none⟩ (.int .i64 ((m.sent.length : Int) + 1))) w.heap.size 45 #[.int .i64 m.h, .int .i64 m.cap, .slice A1 m.l.length c1, .int .i64 m.n, .int .i64 m.draws, .slice B3 NL d3]) := mkHid ((ZX.out.other _ (by omega)).other _ (by omega))
  replace ZZ : Hid (Blk ((w4.setCell ⟨w.heap.size + 1 + 1 + 1, 1, none⟩ (.int .i64 ((m.sent.length : Int) + 1))).setCell ⟨w.heap.size + 1 + 1 + 1, 2, none⟩ (.int .i64 ((m.sent.length : Int) + 1))) (w.heap.size + 1 + 1) 45 #[.int .i64 0, .int .i64 0, .slice none 0 0, .int .i64 0, .int .i64 0, .slice none 0 0]) := mkHid ((ZZ.out.other _ (by omega)).other _ (by omega))
  replace ZA : Hid (Blk ((w4.setCell ⟨w.heap.size + 1 + 1 + 1, 1, none⟩ (.int .i64 ((m.sent.length : Int) + 1))).setCell ⟨w.heap.size + 1 + 1 + 1, 2, none⟩ (.int .i64 ((m.sent.length : Int) + 1))) (w.heap.size + 1 + 1 + 1) 55 #[.int .i64 0, .int .i64 ((m.sent.length : Int) + 1), .int .i64 ((m.sent.length : Int) + 1), .int .u64 0, .int .u64 0]) := mkHid ((ZA.out.set 1 (.int .i64 ((m.sent.length : Int) + 1))).set 2 (.int .i64 ((m.sent.length : Int) + 1)))
  replace KB : Hid (Below w.heap.size w ((w4.setCell ⟨w.heap.size + 1 + 1 + 1, 1, none⟩ (.int .i64 ((m.sent.length : Int) + 1))).setCell ⟨w.heap.size + 1 + 1 + 1, 2, none⟩ (.int .i64 ((m.sent.length : Int) + 1)))) := mkHid ((KB.out.setCell (by show w.heap.size ≤ w.heap.size + 1 + 1 + 1; omega) _).setCell (by show w.heap.size ≤ w.heap.size + 1 + 1 + 1; omega) _)
  replace HO := mkHid ((HO.out.past (g := w.heap.size + 1 + 1 + 1) (by omega) 1 (.int .i64 ((m.sent.length : Int) + 1))).past (g := w.heap.size + 1 + 1 + 1) (by omega) 2 (.int .i64 ((m.sent.length : Int) + 1)))
  generalize ((w4.setCell ⟨w.heap.size + 1 + 1 + 1, 1, none⟩ (.int .i64 ((m.sent.length : Int) + 1))).setCell ⟨w.heap.size + 1 + 1 + 1, 2, none⟩ (.int .i64 ((m.sent.length : Int) + 1))) = w5 at *
  clear lZA cA
  have lZA : w.heap.size + 1 + 1 + 1 < w5.heap.size := ZA.out.lt
  have cA := ZA.out.five
  replace ZX : Hid (Blk w5.drew _ _ _) := mkHid ZX.out.drew
  replace ZA : Hid (Blk w5.drew _ _ _) := mkHid ZA.out.drew
  replace ZZ : Hid (Blk w5.drew _ _ _) := mkHid ZZ.out.drew
  replace KB : Hid (Below w.heap.size w w5.drew) := mkHid KB.out.drew
  replace HO := mkHid (HO.out.below (Below.drew (Below.refl _ w5)))
  clear cX cP cA
  have cZ := ZZ.out.six
  have cA := ZA.out.five
  have gz0 := ZZ.out.frozen 0
  have gz1 := ZZ.out.frozen 1
  have gz2 := ZZ.out.frozen 2
  have gz3 := ZZ.out.frozen 3
  have gz4 := ZZ.out.frozen 4
  have gz5 := ZZ.out.frozen 5
  have ga0 := ZA.out.frozen 0
  have ga1 := ZA.out.frozen 1
  have ga2 := ZA.out.frozen 2
  have ga3 := ZA.out.frozen 3
  have ga4 := ZA.out.frozen 4
  clear ZP
  refine wp_region_late (late := fun i => decide (3 ≤ i)) (S := fun w' => Hid (Blk w' w.heap.size 45 #[.int .i64 m.h, .int .i64 m.cap, .slice A1 m.l.length c1, .int .i64 m.n, .int .i64 m.draws, .slice B3 NL d3]) ∧ Hid (Blk w' (w.heap.size + 1 + 1 + 1) 55 #[.int .i64 0, .int .i64 ((m.sent.length : Int) + 1), .int .i64 ((m.sent.length : Int) + 1), .int .u64 0, .int .u64 0])) (by kernel_rfl) ?_ (fun hHeld => ?_)
  · ((try dsimp only); refine ⟨?_, ?_⟩ <;> first | with_reducible assumption | (with_reducible refine mkHid (Blk.other6 (Hid.out ?_) ?_) <;> first | with_reducible assumption | omega))
  generalize w5.drew = u at *
  refine Any.take (i := 0) (v := ?_) rfl (by kernel_rfl) (by kernel_rfl) (by kernel_rfl) (by kernel_rfl) (fun _ _ _ h => h) (Or.inl ⟨by rfl, ?_⟩) hHeld ?_
  rotate_left
  · intro w hSw
    (try dsimp only at hSw)
    have q := hSw.1.out.six
    clear hSw
    go_simp
    all_goals with_reducible rfl
  try simp only [List.getElem_toArray, List.getElem_cons_succ, List.getElem_cons_zero, Act.put, List.setIfInBounds_toArray, List.set_cons_zero, List.set_cons_succ]
  refine Any.take (i := 1) (v := ?_) rfl (by kernel_rfl) (by kernel_rfl) (by kernel_rfl) (by kernel_rfl) (fun _ _ _ h => h) (Or.inl ⟨by rfl, ?_⟩) hHeld ?_
  rotate_left
  · intro w hSw
    (try dsimp only at hSw)
    have q := hSw.2.out.five
    clear hSw
    go_simp
    all_goals with_reducible rfl
  try simp only [List.getElem_toArray, List.getElem_cons_succ, List.getElem_cons_zero, Act.put, List.setIfInBounds_toArray, List.set_cons_zero, List.set_cons_succ]
  refine Any.ready (rs := [2]) (by kernel_rfl) (by simp) ?_
  refine AllAny.cons rfl rfl (fun K hK => ?_) AllAny.nil
  go_simp
  refine hK.out _ _ ?_ (fun hHeld => ?_)
  · ((try dsimp only); refine ⟨?_, ?_⟩ <;> first | with_reducible assumption | (with_reducible refine mkHid (Blk.other6 (Hid.out ?_) ?_) <;> first | with_reducible assumption | omega))
  clear hK K
  try simp only [List.getElem_toArray, List.getElem_cons_succ, List.getElem_cons_zero, Act.put, List.setIfInBounds_toArray, List.set_cons_zero, List.set_cons_succ]
  refine Any.ready (rs := [3]) (by kernel_rfl) (by simp) ?_
  refine AllAny.lateCons rfl rfl (fun K hK => ?_) AllAny.nil
  go_simp
  refine hK.out _ _ ?_
  clear hK K
  try simp only [List.getElem_toArray, List.getElem_cons_succ, List.getElem_cons_zero, Act.put, List.setIfInBounds_toArray, List.set_cons_zero, List.set_cons_succ]
  refine Any.ready (rs := [4]) (by kernel_rfl) (by simp) ?_
  refine AllAny.lateCons rfl rfl (fun K hK => ?_) AllAny.nil
  go_simp
  refine hK.out _ _ ?_
  clear hK K
  try simp only [List.getElem_toArray, List.getElem_cons_succ, List.getElem_cons_zero, Act.put, List.setIfInBounds_toArray, List.set_cons_zero, List.set_cons_succ]
  refine Any.done (by kernel_rfl) ?_ _
  have qR := ((ZZ.out.fill6 (b0 := .int .i64 m.h) (b1 := .int .i64 m.cap) (b2 := .slice A1 m.l.length c1) (b3 := .int .i64 m.n) (b4 := .int .i64 m.draws) (b5 := .slice B3 NL d3)).other5 (g := w.heap.size + 1 + 1 + 1) (x0 := .int .i64 0) (x1 := .int .i64 ((m.sent.length : Int) + 1)) (x2 := .int .i64 ((m.sent.length : Int) + 1)) (x3 := .int .u64 0) (x4 := .int .u64 0) (by omega)).six
  have qA := ((ZA.out.other6 (g := w.heap.size + 1 + 1) (x0 := .int .i64 m.h) (x1 := .int .i64 m.cap) (x2 := .slice A1 m.l.length c1) (x3 := .int .i64 m.n) (x4 := .int .i64 m.draws) (x5 := .slice B3 NL d3) (by omega)).fill5 (b0 := .int .i64 0) (b1 := .int .i64 ((m.sent.length : Int) + 1)) (b2 := .int .i64 ((m.sent.length : Int) + 1)) (b3 := .int .u64 0) (b4 := .int .u64 0)).five
  go_wp2_with fail
  refine bodyPost_ret (v := .tuple #[.agg #[.int .i64 m.h, .int .i64 m.cap, .slice A1 m.l.length c1, .int .i64 m.n, .int .i64 m.draws, .slice B3 NL d3], .agg #[.int .i64 0, .int .i64 ((m.sent.length : Int) + 1), .int .i64 ((m.sent.length : Int) + 1), .int .u64 0, .int .u64 0], .int .i64 0]) (by simp [results, Try.results29, go_sem, qR, qA]) rfl ⟨_, _, _, _, (X1 ++ [⟨A3, c3, ⟨m.l, (m.sent.length : Int) + 1, (p1, p2)⟩⟩]), (by rw [HNL.out]; rfl), OwnM.base (b' := w.heap.size + 4) ?_ (by omega), below_five (below_six KB.out (by omega) _ _ _ _ _ _) (by omega) _ _ _ _ _⟩
  exact (HO.out.past6 (by omega) _ _ _ _ _ _).past5 (by omega) _ _ _ _ _
end Go.Proofs.Ytmehbonjpmlmfaa
