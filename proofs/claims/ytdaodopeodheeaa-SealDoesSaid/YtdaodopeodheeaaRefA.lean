/- The contracts of the third chapter's answer: turned, round, Mix, Xor, Part. -/
import Derived.Test.YtdaodopeodheeaaKit
import Derived.Deep.RegionHeld3
namespace Go.Proofs.Ytdaodopeodheeaa
open Go.RowKit

set_option maxRecDepth 100000 in
set_option maxHeartbeats 400000 in
theorem turned13 {v : Int} {x y : BitVec 64} (h : Hid (rotl 13 x = y)) (e : v = U x) (w : World) :
    Calls Try.prog 46 #[.int .u64 v, .int .i64 13] w fun e w' => e = .returned (.int .u64 (U y)) ∧ Below w.heap.size w w' := by
  subst e
  rw [← h.out]
  have hlo := U_lo x
  go_enter Try.func46, Try.ntmps46
  go_wp2_with fail
  go_quiet (fail)
  go_wp2_with fail
  go_ret
  exact ⟨ret_int (w_rot x 13 _ _ rfl rfl), below_drewN (Below.refl _ _) _⟩
set_option maxRecDepth 100000 in
set_option maxHeartbeats 400000 in
theorem turned29 {v : Int} {x y : BitVec 64} (h : Hid (rotl 29 x = y)) (e : v = U x) (w : World) :
    Calls Try.prog 46 #[.int .u64 v, .int .i64 29] w fun e w' => e = .returned (.int .u64 (U y)) ∧ Below w.heap.size w w' := by
  subst e
  rw [← h.out]
  have hlo := U_lo x
  go_enter Try.func46, Try.ntmps46
  go_wp2_with fail
  go_quiet (fail)
  go_wp2_with fail
  go_ret
  exact ⟨ret_int (w_rot x 29 _ _ rfl rfl), below_drewN (Below.refl _ _) _⟩

set_option maxRecDepth 100000 in
set_option maxHeartbeats 1000000 in
theorem round_eq {k : Nat} {a b p q : BitVec 64} (h : Hid (rnd k (a, b) = (p, q))) (w : World) :
    Calls Try.prog 44 #[.agg #[.int .u64 (U a), .int .u64 (U b)], .int .u64 (k : Int)] w fun e w' => e = .returned (.agg #[.int .u64 (U p), .int .u64 (U q)]) ∧ Below w.heap.size w w' := by
  have h1 := w_add a b
  obtain ⟨g, hg, h2⟩ : ∃ g : BitVec 64, Hid (BitVec.ofNat 64 k * goldC = g) ∧ IntKind.u64.wrap ((k : Int) * 11400714819323198485) = U g := ⟨_, mkHid rfl, w_gold k⟩
  have h3 := w_add (a + b) g
  obtain ⟨z, hz⟩ : ∃ z, Hid (a + b + g = z) := ⟨_, mkHid rfl⟩
  rw [hz.out] at h3
  obtain ⟨x, hx⟩ : ∃ x, Hid (rotl 13 z = x) := ⟨_, mkHid rfl⟩
  have h4 := w_xor b x
  obtain ⟨y, hy⟩ : ∃ y, Hid (rotl 29 (b ^^^ x) = y) := ⟨_, mkHid rfl⟩
  have hd : (x ^^^ y, y) = (p, q) := by
    have h6 := h.out
    unfold rnd at h6
    dsimp only at h6
    rw [hg.out, hz.out, hx.out, hy.out] at h6
    exact h6
  have h5 : bits BinOp.xor IntKind.u64 (U x) (U y) = U p := by rw [w_xor]; exact congrArg (fun t => U t.1) hd
  obtain rfl : q = y := (congrArg Prod.snd hd).symm
  clear hd
  go_enter Try.func44, Try.ntmps44
  go_wp2_with fail
  refine (turned13 hx rfl _).mono ?_
  rintro e w1 ⟨rfl, hb1⟩
  have bB := Blk.keep (n := w.heap.size) (t := 24) (cs := #[.int .u64 (U a), .int .u64 (U b)]) (by repeat' first | with_reducible refine Blk.drew ?_ | (with_reducible refine Blk.at _ _ _ ?_; (simp <;> fail)) | with_reducible refine Blk.alloc ?_ _) hb1
  have bR := Blk.keep (n := w.heap.size + 1) (t := 24) (cs := #[.int .u64 (0), .int .u64 (0)]) (by repeat' first | with_reducible refine Blk.drew ?_ | (with_reducible refine Blk.at _ _ _ ?_; (simp <;> fail)) | with_reducible refine Blk.alloc ?_ _) hb1
  have hBN := Below.step (w := w) (by repeat' first | with_reducible exact Below.refl _ _ | with_reducible refine Below.drew ?_ | with_reducible refine below_drewN ?_ _ | with_reducible refine Below.setCell ?_ ?_ _ | with_reducible refine Below.alloc ?_ ?_ _ | (dsimp only; omega) | (simp <;> fail) | (simp; omega)) hb1
  clear hb1
  have cB := bB.two
  have HB := mkHid bB
  have lB := bB.lt
  clear bB
  have cR := bR.two
  have HR := mkHid bR
  have lR := bR.lt
  have fR0 := bR.frozen 0
  have fR1 := bR.frozen 1
  clear bR
  have HBel := mkHid hBN
  clear hBN
  go_wp2_with fail
  refine (turned29 hy rfl _).mono ?_
  rintro e w2 ⟨rfl, hb2⟩
  have bB := Blk.keep (n := w.heap.size) (t := 24) (cs := #[.int .u64 (U a), .int .u64 (U b)]) (by repeat' first | with_reducible exact HB.out | with_reducible refine Blk.drew ?_ | (with_reducible refine Blk.at _ _ _ ?_; (simp <;> fail)) | with_reducible refine Blk.alloc ?_ _) hb2
  have bR := Blk.keep (n := w.heap.size + 1) (t := 24) (cs := #[.int .u64 (0), .int .u64 (0)]) (by repeat' first | with_reducible exact HR.out | with_reducible refine Blk.drew ?_ | (with_reducible refine Blk.at _ _ _ ?_; (simp <;> fail)) | with_reducible refine Blk.alloc ?_ _) hb2
  have hBN := Below.step (w := w) (by repeat' first | with_reducible exact HBel.out | with_reducible exact Below.refl _ _ | with_reducible refine Below.drew ?_ | with_reducible refine below_drewN ?_ _ | with_reducible refine Below.setCell ?_ ?_ _ | with_reducible refine Below.alloc ?_ ?_ _ | (dsimp only; omega) | (simp <;> fail) | (have := HBel.out.size; simp; omega)) hb2
  try clear cB
  try clear cR
  clear HB lB HR lR fR0 fR1 HBel hb2
  have cB := bB.two
  have HB := mkHid bB
  have lB := bB.lt
  clear bB
  have cR := bR.two
  have HR := mkHid bR
  have lR := bR.lt
  have fR0 := bR.frozen 0
  have fR1 := bR.frozen 1
  clear bR
  have HBel := mkHid hBN
  clear hBN
  go_wp2_with fail
  have qR : Blk (((w2).setCell ⟨w.heap.size + 1, 0, none⟩ (.int .u64 (U p))).setCell ⟨w.heap.size + 1, 1, none⟩ (.int .u64 (U q))) (w.heap.size + 1) 24 #[.int .u64 (U p), .int .u64 (U q)] := (by repeat' first | with_reducible exact HR.out | (with_reducible refine Blk.at _ _ _ ?_; (simp <;> fail)) | (with_reducible apply Blk.fill2) | (with_reducible apply Blk.fill4a) | (with_reducible apply Blk.fill4b) | with_reducible refine Blk.other ?_ _ ?_ | omega | with_reducible refine Blk.drew ?_ | with_reducible refine Blk.alloc ?_ _)
  have qR' := qR.two
  refine bodyPost_ret (v := .agg #[.int .u64 (U p), .int .u64 (U q)]) (by simp [results, Try.results44, go_sem, qR']) rfl ⟨rfl, ?_⟩
  exact (by repeat' first | with_reducible exact HBel.out | with_reducible exact Below.refl _ _ | with_reducible refine Below.drew ?_ | with_reducible refine below_drewN ?_ _ | with_reducible refine Below.setCell ?_ ?_ _ | with_reducible refine Below.alloc ?_ ?_ _ | (dsimp only; omega) | (simp <;> fail) | (have := HBel.out.size; simp; omega))

set_option maxRecDepth 100000 in
set_option maxHeartbeats 1000000 in
theorem rmix_any (x y : BitVec 64) (w : World) :
    Calls Try.prog 27 #[.agg #[.int .u64 (U x), .int .u64 (U y)]] w fun e w' =>
      e = .returned (.agg #[.int .u64 (U (mixTo 8 (x, y)).1), .int .u64 (U (mixTo 8 (x, y)).2)]) ∧ Below w.heap.size w w' := by
  go_enter Try.func27, Try.ntmps27
  go_wp2_with fail
  go_loopw [4] (fun i wr => ∃ k : Nat, k ≤ 8 ∧ i = .int .i64 (k : Int) ∧ Blk wr w.heap.size 24 #[.int .u64 (U (mixTo k (x, y)).1), .int .u64 (U (mixTo k (x, y)).2)] ∧ Blk wr (w.heap.size + 1) 24 #[.int .u64 0, .int .u64 0] ∧ Below w.heap.size w wr) (fun i _ => 8 - (intOf i).toNat)
  case atStart => exact ⟨0, by omega, rfl, by rw [mixTo_zero]; exact (Blk.new _ _ _).alloc _, Blk.at _ _ _ (by simp), ((Below.refl _ _).alloc (Nat.le_refl _) _).alloc (by simp) _⟩
  case round =>
    obtain ⟨k, hk, rfl, hB, hR, hb⟩ := hrel
    have HS := mkHid (mixTo_succ k (x, y))
    generalize hp : mixTo k (x, y) = pr at *
    have HP := mkHid hp
    clear hp
    obtain ⟨p, q⟩ := pr
    dsimp only at hB
    have cB := hB.two
    have cR := hR.two
    have f0 := hB.frozen 0
    have f1 := hB.frozen 1
    have g0 := hR.frozen 0
    have g1 := hR.frozen 1
    have lB := hB.lt
    have lR := hR.lt
    have HB := mkHid hB
    have HR := mkHid hR
    have Hb := mkHid hb
    clear hB hR hb
    by_cases hlt : k < 8
    · obtain ⟨p2, q2, hr⟩ := pair_ex (rnd k (p, q))
      have HRn := mkHid hr
      rw [hr] at HS
      clear hr
      have hw : IntKind.u64.wrap (k : Int) = (k : Int) := by rw [IntKind.wrap_u64]; omega
      go_wp2_with fail
      refine (round_eq HRn _).mono ?_
      rintro e w1 ⟨rfl, hb1⟩
      have b1 := HB.out.keep hb1
      have r1 := HR.out.keep hb1
      have B1 := mkHid b1
      have R1 := mkHid r1
      have Bel1 := mkHid (Hb.out.step hb1)
      have d0 := b1.two
      have e0 := b1.frozen 0
      have e1 := b1.frozen 1
      clear cB cR f0 f1 g0 g1 b1 r1 hb1
      go_wp2_with fail
      go_roundw
      case rel => exact ⟨k + 1, by omega, by go_num, by rw [HS.out]; exact B1.out.fill2, (R1.out.other _ (by omega)).other _ (by omega), (Bel1.out.setCell (p := ⟨w.heap.size, 0, none⟩) (Nat.le_refl _) _).setCell (p := ⟨w.heap.size, 1, none⟩) (Nat.le_refl _) _⟩
      case measure => simp [intOf]; omega
    · obtain rfl : k = 8 := by omega
      go_wp2_with fail
      have qR := (HR.out.fill2 (u := .int .u64 (U p)) (v := .int .u64 (U q))).two
      refine bodyPost_ret (v := .agg #[.int .u64 (U p), .int .u64 (U q)]) (by simp [results, Try.results27, go_sem, qR]) rfl ⟨by rw [HP.out], ?_⟩
      exact (Hb.out.setCell (p := ⟨w.heap.size + 1, 0, none⟩) (by simp) _).setCell (p := ⟨w.heap.size + 1, 1, none⟩) (by simp) _
theorem rmix_eq {v0 v1 : Int} {x y p q : BitVec 64} (h : Hid (mixTo 8 (x, y) = (p, q))) (e0 : v0 = U x) (e1 : v1 = U y) (w : World) :
    Calls Try.prog 27 #[.agg #[.int .u64 v0, .int .u64 v1]] w fun e w' => e = .returned (.agg #[.int .u64 (U p), .int .u64 (U q)]) ∧ Below w.heap.size w w' := by
  subst e0 e1
  have c := rmix_any x y w
  rw [h.out] at c
  exact c

set_option maxRecDepth 100000 in
set_option maxHeartbeats 1000000 in
theorem rxor_to {v0 v1 u0 u1 : Int} {x0 x1 y0 y1 r0 r1 : BitVec 64} (e0 : v0 = U x0) (e1 : v1 = U x1) (f0 : u0 = U y0) (f1 : u1 = U y1) (h0 : Hid (x0 ^^^ y0 = r0)) (h1 : Hid (x1 ^^^ y1 = r1)) (w : World) :
    Calls Try.prog 28 #[.agg #[.int .u64 v0, .int .u64 v1], .agg #[.int .u64 u0, .int .u64 u1]] w fun e w' => e = .returned (.agg #[.int .u64 (U r0), .int .u64 (U r1)]) ∧ Below w.heap.size w w' := by
  subst e0 e1 f0 f1
  have g0 : bits BinOp.xor IntKind.u64 (U x0) (U y0) = U r0 := by rw [w_xor, h0.out]
  have g1 : bits BinOp.xor IntKind.u64 (U x1) (U y1) = U r1 := by rw [w_xor, h1.out]
  go_enter Try.func28, Try.ntmps28
  go_wp2_with fail
  refine bodyPost_ret (v := .agg #[.int .u64 (U r0), .int .u64 (U r1)]) (by simp [results, Try.results28, go_sem]) rfl ⟨rfl, ?_⟩
  exact (by repeat' first | with_reducible exact Below.refl _ _ | with_reducible refine Below.drew ?_ | with_reducible refine below_drewN ?_ _ | with_reducible refine Below.setCell ?_ ?_ _ | with_reducible refine Below.alloc ?_ ?_ _ | (dsimp only; omega) | (simp <;> fail) | (simp; omega))

set_option maxRecDepth 100000 in
set_option maxHeartbeats 400000 in
theorem rpart_not (v0 v1 : Int) (i : Int) (w : World) (hi : i < 0 ∨ 4 < i) :
    Calls Try.prog 26 #[.agg #[.int .u64 v0, .int .u64 v1], .int .i64 i] w fun e w' =>
      e = .returned (.tuple #[.agg #[.int .u64 0, .int .u64 0], .int .i64 1]) ∧ Below w.heap.size w w' := by
  rcases hi with hi | hi
  · go_enter Try.func26, Try.ntmps26
    go_wp2_with fail
    refine bodyPost_ret (v := .tuple #[.agg #[.int .u64 0, .int .u64 0], .int .i64 1]) (by simp [results, Try.results26, go_sem]) rfl ⟨rfl, ?_⟩
    exact ((Below.refl _ _).alloc (Nat.le_refl _) _).alloc (by simp) _
  · have hi' : ¬ i < 0 := by omega
    go_enter Try.func26, Try.ntmps26
    go_wp2_with fail
    refine bodyPost_ret (v := .tuple #[.agg #[.int .u64 0, .int .u64 0], .int .i64 1]) (by simp [results, Try.results26, go_sem]) rfl ⟨rfl, ?_⟩
    exact ((Below.refl _ _).alloc (Nat.le_refl _) _).alloc (by simp) _

set_option linter.unusedSimpArgs false in
set_option maxRecDepth 100000 in
set_option maxHeartbeats 1000000 in
theorem rpart_eq {x y p q : BitVec 64} {i : Nat} (h : Hid (partB i (x, y) = (p, q))) {n : Int} (hn : n = (i : Int)) (hi : i ≤ 4) (w : World) :
    Calls Try.prog 26 #[.agg #[.int .u64 (U x), .int .u64 (U y)], .int .i64 n] w fun e w' => e = .returned (.tuple #[.agg #[.int .u64 (U p), .int .u64 (U q)], .int .i64 0]) ∧ Below w.heap.size w w' := by
  subst hn
  obtain ⟨m0, m1, hm⟩ := pair_ex (mixTo 8 (x ^^^ BitVec.ofNat 64 (i + 1), y))
  have hd : (m0 ^^^ x, m1 ^^^ y) = (p, q) := by
    have h6 := h.out
    unfold partB xorB at h6
    dsimp only at h6
    rw [hm] at h6
    exact h6
  have P0 : Hid (m0 ^^^ x = p) := mkHid (congrArg Prod.fst hd)
  have P1 : Hid (m1 ^^^ y = q) := mkHid (congrArg Prod.snd hd)
  have hU : U (BitVec.ofNat 64 (i + 1)) = (i : Int) + 1 := by
    unfold U; rw [BitVec.toNat_ofNat, Nat.mod_eq_of_lt (by omega)]; omega
  have e1 : bits BinOp.xor IntKind.u64 (U x) ((i : Int) + 1) = U (x ^^^ BitVec.ofNat 64 (i + 1)) := by rw [← hU, w_xor]
  have e2 : IntKind.i64.wrap ((i : Int) + 1) = (i : Int) + 1 := IntWalk.i64_in _ (by omega)
  have e3 : IntKind.u64.wrap ((i : Int) + 1) = (i : Int) + 1 := by rw [IntKind.wrap_u64]; omega
  have HM := mkHid hm
  clear hm hd hU
  generalize x ^^^ BitVec.ofNat 64 (i + 1) = z at *
  go_enter Try.func26, Try.ntmps26
  go_wp2_with fail
  have bA : Blk ((w.alloc (.cells #[.int .u64 (U x), .int .u64 (U y)] 24)).alloc (.cells #[.int .u64 0, .int .u64 0] 24)).drew w.heap.size 24 #[.int .u64 (U x), .int .u64 (U y)] := ((Blk.new _ _ _).alloc _).drew
  have bR : Blk ((w.alloc (.cells #[.int .u64 (U x), .int .u64 (U y)] 24)).alloc (.cells #[.int .u64 0, .int .u64 0] 24)).drew (w.heap.size + 1) 24 #[.int .u64 0, .int .u64 0] := (Blk.at _ _ _ (by simp)).drew
  have HB0 : Hid (Below w.heap.size w ((w.alloc (.cells #[.int .u64 (U x), .int .u64 (U y)] 24)).alloc (.cells #[.int .u64 0, .int .u64 0] 24)).drew) := mkHid (((Below.refl _ _).alloc (Nat.le_refl _) _).alloc (by simp) _).drew
  have cA := bA.two
  have R0 := mkHid bR
  have A0 := mkHid bA
  clear bA bR
  refine wp_region_held_drew (S := fun w' => w'.cell? ⟨w.heap.size, 0, none⟩ = some (.int .u64 (U x)) ∧ w'.cell? ⟨w.heap.size, 1, none⟩ = some (.int .u64 (U y))) (by kernel_rfl) ?_ (fun hHeld => ?_)
  · ((try dsimp only); (try go_split_ands); refine ⟨?_, ?_⟩ <;> first | assumption | (rw [World.cell?_setCell_other _ _ _ _ (by simp), World.cell?_setCell_other _ _ _ _ (by simp)]; assumption))
  refine wpAnyH_take (i := 0) (v := ?_) rfl (by kernel_rfl) (by kernel_rfl) (by kernel_rfl) (fun _ _ _ h => h) (Or.inl ⟨by rfl, ?_⟩) hHeld ?_
  rotate_left
  · intro w hSw
    (try dsimp only at hSw)
    go_simp
    all_goals with_reducible rfl
  try simp only [List.getElem_toArray, List.getElem_cons_succ, List.getElem_cons_zero, Act.put, List.setIfInBounds_toArray, List.set_cons_zero, List.set_cons_succ]
  refine wpAnyH_take (i := 1) (v := ?_) rfl (by kernel_rfl) (by kernel_rfl) (by kernel_rfl) (fun _ _ _ h => h) (Or.inl ⟨by rfl, ?_⟩) hHeld ?_
  rotate_left
  · intro w hSw
    (try dsimp only at hSw)
    go_simp
    all_goals with_reducible rfl
  try simp only [List.getElem_toArray, List.getElem_cons_succ, List.getElem_cons_zero, Act.put, List.setIfInBounds_toArray, List.set_cons_zero, List.set_cons_succ]
  refine wpAnyH_take (i := 2) (v := ?_) rfl (by kernel_rfl) (by kernel_rfl) (by kernel_rfl) (fun _ _ _ h => h) (Or.inl ⟨by rfl, ?_⟩) hHeld ?_
  rotate_left
  · intro w hSw
    (try dsimp only at hSw)
    go_simp
    all_goals with_reducible rfl
  try simp only [List.getElem_toArray, List.getElem_cons_succ, List.getElem_cons_zero, Act.put, List.setIfInBounds_toArray, List.set_cons_zero, List.set_cons_succ]
  refine wpAnyH_take (i := 3) (v := ?_) rfl (by kernel_rfl) (by kernel_rfl) (by kernel_rfl) (fun _ _ _ h => h) (Or.inl ⟨by rfl, ?_⟩) hHeld ?_
  rotate_left
  · intro w hSw
    (try dsimp only at hSw)
    go_simp
    all_goals with_reducible rfl
  try simp only [List.getElem_toArray, List.getElem_cons_succ, List.getElem_cons_zero, Act.put, List.setIfInBounds_toArray, List.set_cons_zero, List.set_cons_succ]
  refine wpAnyH_take (i := 4) (v := ?_) rfl (by kernel_rfl) (by kernel_rfl) (by kernel_rfl) (fun _ _ _ h => h) (Or.inl ⟨by rfl, ?_⟩) hHeld ?_
  rotate_left
  · intro w hSw
    (try dsimp only at hSw)
    go_simp
    all_goals with_reducible rfl
  try simp only [List.getElem_toArray, List.getElem_cons_succ, List.getElem_cons_zero, Act.put, List.setIfInBounds_toArray, List.set_cons_zero, List.set_cons_succ]
  refine wpAnyH_take (i := 5) (v := ?_) rfl (by kernel_rfl) (by kernel_rfl) (by kernel_rfl) (fun _ _ _ h => h) (Or.inl ⟨by rfl, ?_⟩) hHeld ?_
  rotate_left
  · intro w hSw
    (try dsimp only at hSw)
    go_simp
    all_goals with_reducible rfl
  try simp only [List.getElem_toArray, List.getElem_cons_succ, List.getElem_cons_zero, Act.put, List.setIfInBounds_toArray, List.set_cons_zero, List.set_cons_succ]
  refine wpAnyH_take (i := 6) (v := ?_) rfl (by kernel_rfl) (by kernel_rfl) (by kernel_rfl) (fun _ _ _ h => h) (Or.inl ⟨by rfl, ?_⟩) hHeld ?_
  rotate_left
  · intro w hSw
    (try dsimp only at hSw)
    go_simp
    all_goals with_reducible rfl
  try simp only [List.getElem_toArray, List.getElem_cons_succ, List.getElem_cons_zero, Act.put, List.setIfInBounds_toArray, List.set_cons_zero, List.set_cons_succ]
  refine wpAnyH_take (i := 7) (v := ?_) rfl (by kernel_rfl) (by kernel_rfl) (by kernel_rfl) (fun _ _ _ h => h) (Or.inl ⟨by rfl, ?_⟩) hHeld ?_
  rotate_left
  · intro w hSw
    (try dsimp only at hSw)
    go_simp
    all_goals with_reducible rfl
  try simp only [List.getElem_toArray, List.getElem_cons_succ, List.getElem_cons_zero, Act.put, List.setIfInBounds_toArray, List.set_cons_zero, List.set_cons_succ]
  refine wpAnyH_take (i := 8) (v := ?_) rfl (by kernel_rfl) (by kernel_rfl) (by kernel_rfl) (fun _ _ _ h => h) (Or.inl ⟨by rfl, ?_⟩) hHeld ?_
  rotate_left
  · intro w hSw
    (try dsimp only at hSw)
    go_simp
    all_goals with_reducible rfl
  try simp only [List.getElem_toArray, List.getElem_cons_succ, List.getElem_cons_zero, Act.put, List.setIfInBounds_toArray, List.set_cons_zero, List.set_cons_succ]
  refine wpAnyH_take (i := 10) (v := ?_) rfl (by kernel_rfl) (by kernel_rfl) (by kernel_rfl) (fun _ _ _ h => h) (Or.inl ⟨by rfl, ?_⟩) hHeld ?_
  rotate_left
  · intro w hSw
    (try dsimp only at hSw)
    go_simp
    all_goals with_reducible rfl
  try simp only [List.getElem_toArray, List.getElem_cons_succ, List.getElem_cons_zero, Act.put, List.setIfInBounds_toArray, List.set_cons_zero, List.set_cons_succ]
  refine wpAnyH_ready (rs := [9]) (by kernel_rfl) (by simp) ?_
  refine AllReadyH.cons rfl (fun K hK => ?_) AllReadyH.nil
  go_simp
  go_at_call 27
  with_reducible refine (rmix_eq HM rfl rfl _).mono ?_
  (try go_split_ands)
  rintro e w1 ⟨rfl, hb1⟩
  have A1 := mkHid (A0.out.keep hb1)
  have R1 := mkHid (R0.out.keep hb1)
  have HB1 := mkHid (HB0.out.step hb1)
  have cA1 := A1.out.two
  clear hb1
  go_wp2_with fail
  refine hK.out _ _ ?_ (fun hHeld => ?_)
  · ((try dsimp only); (try go_split_ands); refine ⟨?_, ?_⟩ <;> first | assumption | (rw [World.cell?_setCell_other _ _ _ _ (by simp), World.cell?_setCell_other _ _ _ _ (by simp)]; assumption))
  clear hK K
  try simp only [List.getElem_toArray, List.getElem_cons_succ, List.getElem_cons_zero, Act.put, List.setIfInBounds_toArray, List.set_cons_zero, List.set_cons_succ]
  refine wpAnyH_ready (rs := [11]) (by kernel_rfl) (by simp) ?_
  refine AllReadyH.cons rfl (fun K hK => ?_) AllReadyH.nil
  go_simp
  go_at_call 28
  with_reducible refine (rxor_to rfl rfl rfl rfl P0 P1 _).mono ?_
  (try go_split_ands)
  rintro e w2 ⟨rfl, hb2⟩
  have A2 := mkHid (A1.out.keep hb2)
  have R2 := mkHid (R1.out.keep hb2)
  have HB2 := mkHid (HB1.out.step hb2)
  have cA2 := A2.out.two
  have cR2 := R2.out.two
  have fR20 := R2.out.frozen 0
  have fR21 := R2.out.frozen 1
  clear hb2
  go_wp2_with fail
  refine hK.out _ _ ?_ (fun hHeld => ?_)
  · ((try dsimp only); (try go_split_ands); refine ⟨?_, ?_⟩ <;> first | assumption | (rw [World.cell?_setCell_other _ _ _ _ (by simp), World.cell?_setCell_other _ _ _ _ (by simp)]; assumption))
  clear hK K
  try simp only [List.getElem_toArray, List.getElem_cons_succ, List.getElem_cons_zero, Act.put, List.setIfInBounds_toArray, List.set_cons_zero, List.set_cons_succ]
  refine wpAnyH_ready (rs := [12]) (by kernel_rfl) (by simp) ?_
  refine AllReadyH.cons rfl (fun K hK => ?_) AllReadyH.nil
  go_simp
  refine hK.out _ _ ?_ (fun hHeld => ?_)
  · ((try dsimp only); (try go_split_ands); refine ⟨?_, ?_⟩ <;> first | assumption | (rw [World.cell?_setCell_other _ _ _ _ (by simp), World.cell?_setCell_other _ _ _ _ (by simp)]; assumption))
  clear hK K
  try simp only [List.getElem_toArray, List.getElem_cons_succ, List.getElem_cons_zero, Act.put, List.setIfInBounds_toArray, List.set_cons_zero, List.set_cons_succ]
  refine wpAnyH_take (i := 13) (v := ?_) rfl (by kernel_rfl) (by kernel_rfl) (by kernel_rfl) (fun _ _ _ h => h) (Or.inl ⟨by rfl, ?_⟩) hHeld ?_
  rotate_left
  · intro w hSw
    (try dsimp only at hSw)
    go_simp
    all_goals with_reducible rfl
  try simp only [List.getElem_toArray, List.getElem_cons_succ, List.getElem_cons_zero, Act.put, List.setIfInBounds_toArray, List.set_cons_zero, List.set_cons_succ]
  refine wpAnyH_done (by kernel_rfl) ?_ _
  go_wp2_with fail
  have qR := (R2.out.fill2 (u := .int .u64 (U p)) (v := .int .u64 (U q))).two
  refine bodyPost_ret (v := .tuple #[.agg #[.int .u64 (U p), .int .u64 (U q)], .int .i64 0]) (by simp [results, Try.results26, go_sem, qR]) rfl ⟨rfl, ?_⟩
  exact (HB2.out.setCell (p := ⟨w.heap.size + 1, 0, none⟩) (by simp) _).setCell (p := ⟨w.heap.size + 1, 1, none⟩) (by simp) _
end Go.Proofs.Ytdaodopeodheeaa
