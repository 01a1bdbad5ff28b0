/- The contracts of the fourth chapter's answer: Unwrap. -/
import Derived.Test.YtdaodopeodheeaaRefT
namespace Go.Proofs.Ytdaodopeodheeaa
open Go.RowKit

set_option linter.unusedSimpArgs false in
set_option maxRecDepth 100000 in
set_option maxHeartbeats 4000000 in
theorem runwrap_yes {k0 k1 c0 c1 t0 t1 b0 b1 : BitVec 64} (hb : Hid (hideB (k0, k1) (c0, c1) = (b0, b1))) (h : Hid (tagB (k0, k1) (c0, c1) = (t0, t1))) (w : World) :
    Calls Try.prog 34 #[.agg #[.int .u64 (U k0), .int .u64 (U k1)], .agg #[.int .u64 (U c0), .int .u64 (U c1), .int .u64 (U t0), .int .u64 (U t1)]] w fun e w' => e = .returned (.tuple #[.agg #[.int .u64 (U b0), .int .u64 (U b1)], .int .i64 0]) ∧ Below w.heap.size w w' := by
  have hq := eq_blocks
  obtain ⟨m0, m1, hm⟩ := pair_ex (partB 3 (k0, k1))
  have h2 := hb.out
  unfold hideB xorB at h2
  rw [hm] at h2
  have K1 := mkHid hm
  have E0 : Hid (c0 ^^^ m0 = b0) := mkHid (congrArg Prod.fst h2)
  have E1 : Hid (c1 ^^^ m1 = b1) := mkHid (congrArg Prod.snd h2)
  clear hm h2
  have KB : Hid (Below w.heap.size w (((w.alloc (.cells #[.int .u64 (U k0), .int .u64 (U k1)] 24)).alloc (.cells #[.int .u64 (U c0), .int .u64 (U c1), .int .u64 (U t0), .int .u64 (U t1)] 43)).alloc (.cells #[.int .u64 0, .int .u64 0] 24)).drew) := mkHid ((((Below.refl _ _).alloc (Nat.le_refl _) _).alloc (by simp) _).alloc (by simp; omega) _).drew
  have ZK : Hid (Blk (((w.alloc (.cells #[.int .u64 (U k0), .int .u64 (U k1)] 24)).alloc (.cells #[.int .u64 (U c0), .int .u64 (U c1), .int .u64 (U t0), .int .u64 (U t1)] 43)).alloc (.cells #[.int .u64 0, .int .u64 0] 24)).drew w.heap.size 24 #[.int .u64 (U k0), .int .u64 (U k1)]) := mkHid (((Blk.new _ _ _).alloc _).alloc _).drew
  have ZS : Hid (Blk (((w.alloc (.cells #[.int .u64 (U k0), .int .u64 (U k1)] 24)).alloc (.cells #[.int .u64 (U c0), .int .u64 (U c1), .int .u64 (U t0), .int .u64 (U t1)] 43)).alloc (.cells #[.int .u64 0, .int .u64 0] 24)).drew (w.heap.size + 1) 43 #[.int .u64 (U c0), .int .u64 (U c1), .int .u64 (U t0), .int .u64 (U t1)]) := mkHid ((Blk.at _ _ _ (by simp)).alloc _).drew
  have ZR : Hid (Blk (((w.alloc (.cells #[.int .u64 (U k0), .int .u64 (U k1)] 24)).alloc (.cells #[.int .u64 (U c0), .int .u64 (U c1), .int .u64 (U t0), .int .u64 (U t1)] 43)).alloc (.cells #[.int .u64 0, .int .u64 0] 24)).drew (w.heap.size + 1 + 1) 24 #[.int .u64 0, .int .u64 0]) := mkHid (Blk.at _ _ _ (by simp)).drew
  have ⟨f0, f1⟩ := ZK.out.two
  have ⟨f2, f3, f4, f5⟩ := ZS.out.four
  have ⟨f6, f7⟩ := ZR.out.two
  go_enter Try.func34, Try.ntmps34
  go_wp2_with fail
  refine wp_region_held_drew (S := fun w' => w'.cell? ⟨w.heap.size, 0, none⟩ = some (.int .u64 (U k0)) ∧ w'.cell? ⟨w.heap.size, 1, none⟩ = some (.int .u64 (U k1)) ∧ w'.cell? ⟨(w.heap.size + 1), 0, none⟩ = some (.int .u64 (U c0)) ∧ w'.cell? ⟨(w.heap.size + 1), 1, none⟩ = some (.int .u64 (U c1)) ∧ w'.cell? ⟨(w.heap.size + 1), 2, none⟩ = some (.int .u64 (U t0)) ∧ w'.cell? ⟨(w.heap.size + 1), 3, none⟩ = some (.int .u64 (U t1)) ∧ w'.cell? ⟨(w.heap.size + 1 + 1), 0, none⟩ = some (.int .u64 (0)) ∧ w'.cell? ⟨(w.heap.size + 1 + 1), 1, none⟩ = some (.int .u64 (0))) (by kernel_rfl) ?_ (fun hHeld => ?_)
  · ((try dsimp only); (try go_split_ands); refine ⟨?_, ?_, ?_, ?_, ?_, ?_, ?_, ?_⟩ <;> assumption)
  refine wpAnyH_take (i := 0) (v := ?_) rfl (by kernel_rfl) (by kernel_rfl) (by kernel_rfl) (fun _ _ _ h => h) (Or.inl ⟨by rfl, ?_⟩) hHeld ?_
  rotate_left
  · intro w hSw
    (try dsimp only at hSw)
    go_simp
    all_goals with_reducible rfl
  try simp only [List.getElem_toArray, List.getElem_cons_succ, List.getElem_cons_zero, Act.put, List.setIfInBounds_toArray, List.set_cons_zero, List.set_cons_succ]
  refine wpAnyH_take (i := 1) (v := ?_) rfl (by kernel_rfl) (by kernel_rfl) (by kernel_rfl) (fun _ _ _ h => h) (Or.inl ⟨by rfl, ?_⟩) hHeld ?_
  rotate_left
  · intro w hSw
    (try dsimp only at hSw)
    go_simp
    all_goals with_reducible rfl
  try simp only [List.getElem_toArray, List.getElem_cons_succ, List.getElem_cons_zero, Act.put, List.setIfInBounds_toArray, List.set_cons_zero, List.set_cons_succ]
  refine wpAnyH_take (i := 2) (v := ?_) rfl (by kernel_rfl) (by kernel_rfl) (by kernel_rfl) (fun _ _ _ h => h) (Or.inl ⟨by rfl, ?_⟩) hHeld ?_
  rotate_left
  · intro w hSw
    (try dsimp only at hSw)
    go_simp
    all_goals with_reducible rfl
  try simp only [List.getElem_toArray, List.getElem_cons_succ, List.getElem_cons_zero, Act.put, List.setIfInBounds_toArray, List.set_cons_zero, List.set_cons_succ]
  refine wpAnyH_take (i := 3) (v := ?_) rfl (by kernel_rfl) (by kernel_rfl) (by kernel_rfl) (fun _ _ _ h => h) (Or.inl ⟨by rfl, ?_⟩) hHeld ?_
  rotate_left
  · intro w hSw
    (try dsimp only at hSw)
    go_simp
    all_goals with_reducible rfl
  try simp only [List.getElem_toArray, List.getElem_cons_succ, List.getElem_cons_zero, Act.put, List.setIfInBounds_toArray, List.set_cons_zero, List.set_cons_succ]
  refine wpAnyH_take (i := 4) (v := ?_) rfl (by kernel_rfl) (by kernel_rfl) (by kernel_rfl) (fun _ _ _ h => h) (Or.inl ⟨by rfl, ?_⟩) hHeld ?_
  rotate_left
  · intro w hSw
    (try dsimp only at hSw)
    go_simp
    all_goals with_reducible rfl
  try simp only [List.getElem_toArray, List.getElem_cons_succ, List.getElem_cons_zero, Act.put, List.setIfInBounds_toArray, List.set_cons_zero, List.set_cons_succ]
  refine wpAnyH_ready (rs := [5]) (by kernel_rfl) (by simp) ?_
  refine AllReadyH.cons rfl (fun K hK => ?_) AllReadyH.nil
  go_simp
  go_at_call 38
  with_reducible refine (rtag_eq h _).mono ?_
  (try go_split_ands)
  rintro e wn ⟨rfl, hbn⟩
  replace f0 := keeps hbn f0
  replace f1 := keeps hbn f1
  replace f2 := keeps hbn f2
  replace f3 := keeps hbn f3
  replace f4 := keeps hbn f4
  replace f5 := keeps hbn f5
  replace f6 := keeps hbn f6
  replace f7 := keeps hbn f7
  replace KB := mkHid (KB.out.step hbn)
  replace ZK := mkHid (ZK.out.keep hbn)
  replace ZS := mkHid (ZS.out.keep hbn)
  replace ZR := mkHid (ZR.out.keep hbn)
  have p0 := ZR.out.frozen 0
  have p1 := ZR.out.frozen 1
  have lR := ZR.out.lt
  clear hbn
  go_wp2_with fail
  refine hK.out _ _ ?_ (fun hHeld => ?_)
  · ((try dsimp only); (try go_split_ands); refine ⟨?_, ?_, ?_, ?_, ?_, ?_, ?_, ?_⟩ <;> assumption)
  clear hK K
  try simp only [List.getElem_toArray, List.getElem_cons_succ, List.getElem_cons_zero, Act.put, List.setIfInBounds_toArray, List.set_cons_zero, List.set_cons_succ]
  refine wpAnyH_take (i := 6) (v := ?_) rfl (by kernel_rfl) (by kernel_rfl) (by kernel_rfl) (fun _ _ _ h => h) (Or.inl ⟨by rfl, ?_⟩) hHeld ?_
  rotate_left
  · intro w hSw
    (try dsimp only at hSw)
    go_simp
    all_goals with_reducible rfl
  try simp only [List.getElem_toArray, List.getElem_cons_succ, List.getElem_cons_zero, Act.put, List.setIfInBounds_toArray, List.set_cons_zero, List.set_cons_succ]
  refine wpAnyH_done (by kernel_rfl) ?_ _
  go_wp2_with fail
  refine (rpart_eq K1 (i := 3) rfl (by omega) _).mono ?_
  rintro e w5 ⟨rfl, hb5⟩
  replace f0 := keeps hb5 f0
  replace f1 := keeps hb5 f1
  replace f2 := keeps hb5 f2
  replace f3 := keeps hb5 f3
  replace f4 := keeps hb5 f4
  replace f5 := keeps hb5 f5
  replace f6 := keeps hb5 f6
  replace f7 := keeps hb5 f7
  replace KB := mkHid (KB.out.step hb5)
  replace ZS := mkHid (ZS.out.keep hb5)
  replace ZR := mkHid (ZR.out.keep hb5)
  have lS := ZS.out.lt
  replace lR := ZR.out.lt
  replace p0 := ZR.out.frozen 0
  replace p1 := ZR.out.frozen 1
  clear hb5
  go_wp2_with fail
  refine (rxor_to rfl rfl rfl rfl E0 E1 _).mono ?_
  rintro e w6 ⟨rfl, hb6⟩
  have ZT := (ZR.out.alloc (.cells #[.int .u64 (U m0), .int .u64 (U m1)] 24)).keep hb6
  have KT := mkHid ((KB.out.alloc KB.out.size (.cells #[.int .u64 (U m0), .int .u64 (U m1)] 24)).step hb6)
  clear hb6 f0 f1 f2 f3 f4 f5 f6 f7 p0 p1 lR ZR KB
  have ⟨f6, f7⟩ := ZT.two
  have p0 := ZT.frozen 0
  have p1 := ZT.frozen 1
  have lR := ZT.lt
  go_wp2_with fail
  have hR0 : (((w6).setCell ⟨w.heap.size + 1 + 1, 0, none⟩ (.int .u64 (U b0))).setCell ⟨w.heap.size + 1 + 1, 1, none⟩ (.int .u64 (U b1))).cell? ⟨w.heap.size + 1 + 1, 0, none⟩ = some (.int .u64 (U b0)) := fill_cell0 (u0 := .int .u64 0) (u1 := .int .u64 0) f6 f7
  have hR1 : (((w6).setCell ⟨w.heap.size + 1 + 1, 0, none⟩ (.int .u64 (U b0))).setCell ⟨w.heap.size + 1 + 1, 1, none⟩ (.int .u64 (U b1))).cell? ⟨w.heap.size + 1 + 1, 1, none⟩ = some (.int .u64 (U b1)) := fill_cell1 (u0 := .int .u64 0) (u1 := .int .u64 0) f6 f7
  refine bodyPost_ret (v := .tuple #[.agg #[.int .u64 (U b0), .int .u64 (U b1)], .int .i64 0]) (by simp [results, Try.results34, go_sem, hR0, hR1]) rfl ⟨rfl, ?_⟩
  exact ((KT.out.setCell (by dsimp only; omega) _).setCell (by dsimp only; omega) _)

set_option linter.unusedSimpArgs false in
set_option maxRecDepth 100000 in
set_option maxHeartbeats 4000000 in
theorem runwrap_no {k0 k1 c0 c1 t0 t1 r0 r1 : BitVec 64} (h : Hid (tagB (k0, k1) (c0, c1) = (r0, r1))) (hne : (U t0 == U r0 && U t1 == U r1) = false) (w : World) :
    Calls Try.prog 34 #[.agg #[.int .u64 (U k0), .int .u64 (U k1)], .agg #[.int .u64 (U c0), .int .u64 (U c1), .int .u64 (U t0), .int .u64 (U t1)]] w fun e w' => e = .returned (.tuple #[.agg #[.int .u64 0, .int .u64 0], .int .i64 7]) ∧ Below w.heap.size w w' := by
  have hq := eq_blocks
  have KB : Hid (Below w.heap.size w (((w.alloc (.cells #[.int .u64 (U k0), .int .u64 (U k1)] 24)).alloc (.cells #[.int .u64 (U c0), .int .u64 (U c1), .int .u64 (U t0), .int .u64 (U t1)] 43)).alloc (.cells #[.int .u64 0, .int .u64 0] 24)).drew) := mkHid ((((Below.refl _ _).alloc (Nat.le_refl _) _).alloc (by simp) _).alloc (by simp; omega) _).drew
  have ZK : Hid (Blk (((w.alloc (.cells #[.int .u64 (U k0), .int .u64 (U k1)] 24)).alloc (.cells #[.int .u64 (U c0), .int .u64 (U c1), .int .u64 (U t0), .int .u64 (U t1)] 43)).alloc (.cells #[.int .u64 0, .int .u64 0] 24)).drew w.heap.size 24 #[.int .u64 (U k0), .int .u64 (U k1)]) := mkHid (((Blk.new _ _ _).alloc _).alloc _).drew
  have ZS : Hid (Blk (((w.alloc (.cells #[.int .u64 (U k0), .int .u64 (U k1)] 24)).alloc (.cells #[.int .u64 (U c0), .int .u64 (U c1), .int .u64 (U t0), .int .u64 (U t1)] 43)).alloc (.cells #[.int .u64 0, .int .u64 0] 24)).drew (w.heap.size + 1) 43 #[.int .u64 (U c0), .int .u64 (U c1), .int .u64 (U t0), .int .u64 (U t1)]) := mkHid ((Blk.at _ _ _ (by simp)).alloc _).drew
  have ZR : Hid (Blk (((w.alloc (.cells #[.int .u64 (U k0), .int .u64 (U k1)] 24)).alloc (.cells #[.int .u64 (U c0), .int .u64 (U c1), .int .u64 (U t0), .int .u64 (U t1)] 43)).alloc (.cells #[.int .u64 0, .int .u64 0] 24)).drew (w.heap.size + 1 + 1) 24 #[.int .u64 0, .int .u64 0]) := mkHid (Blk.at _ _ _ (by simp)).drew
  have ⟨f0, f1⟩ := ZK.out.two
  have ⟨f2, f3, f4, f5⟩ := ZS.out.four
  have ⟨f6, f7⟩ := ZR.out.two
  go_enter Try.func34, Try.ntmps34
  go_wp2_with fail
  refine wp_region_held_drew (S := fun w' => w'.cell? ⟨w.heap.size, 0, none⟩ = some (.int .u64 (U k0)) ∧ w'.cell? ⟨w.heap.size, 1, none⟩ = some (.int .u64 (U k1)) ∧ w'.cell? ⟨(w.heap.size + 1), 0, none⟩ = some (.int .u64 (U c0)) ∧ w'.cell? ⟨(w.heap.size + 1), 1, none⟩ = some (.int .u64 (U c1)) ∧ w'.cell? ⟨(w.heap.size + 1), 2, none⟩ = some (.int .u64 (U t0)) ∧ w'.cell? ⟨(w.heap.size + 1), 3, none⟩ = some (.int .u64 (U t1)) ∧ w'.cell? ⟨(w.heap.size + 1 + 1), 0, none⟩ = some (.int .u64 (0)) ∧ w'.cell? ⟨(w.heap.size + 1 + 1), 1, none⟩ = some (.int .u64 (0))) (by kernel_rfl) ?_ (fun hHeld => ?_)
  · ((try dsimp only); (try go_split_ands); refine ⟨?_, ?_, ?_, ?_, ?_, ?_, ?_, ?_⟩ <;> assumption)
  refine wpAnyH_take (i := 0) (v := ?_) rfl (by kernel_rfl) (by kernel_rfl) (by kernel_rfl) (fun _ _ _ h => h) (Or.inl ⟨by rfl, ?_⟩) hHeld ?_
  rotate_left
  · intro w hSw
    (try dsimp only at hSw)
    go_simp
    all_goals with_reducible rfl
  try simp only [List.getElem_toArray, List.getElem_cons_succ, List.getElem_cons_zero, Act.put, List.setIfInBounds_toArray, List.set_cons_zero, List.set_cons_succ]
  refine wpAnyH_take (i := 1) (v := ?_) rfl (by kernel_rfl) (by kernel_rfl) (by kernel_rfl) (fun _ _ _ h => h) (Or.inl ⟨by rfl, ?_⟩) hHeld ?_
  rotate_left
  · intro w hSw
    (try dsimp only at hSw)
    go_simp
    all_goals with_reducible rfl
  try simp only [List.getElem_toArray, List.getElem_cons_succ, List.getElem_cons_zero, Act.put, List.setIfInBounds_toArray, List.set_cons_zero, List.set_cons_succ]
  refine wpAnyH_take (i := 2) (v := ?_) rfl (by kernel_rfl) (by kernel_rfl) (by kernel_rfl) (fun _ _ _ h => h) (Or.inl ⟨by rfl, ?_⟩) hHeld ?_
  rotate_left
  · intro w hSw
    (try dsimp only at hSw)
    go_simp
    all_goals with_reducible rfl
  try simp only [List.getElem_toArray, List.getElem_cons_succ, List.getElem_cons_zero, Act.put, List.setIfInBounds_toArray, List.set_cons_zero, List.set_cons_succ]
  refine wpAnyH_take (i := 3) (v := ?_) rfl (by kernel_rfl) (by kernel_rfl) (by kernel_rfl) (fun _ _ _ h => h) (Or.inl ⟨by rfl, ?_⟩) hHeld ?_
  rotate_left
  · intro w hSw
    (try dsimp only at hSw)
    go_simp
    all_goals with_reducible rfl
  try simp only [List.getElem_toArray, List.getElem_cons_succ, List.getElem_cons_zero, Act.put, List.setIfInBounds_toArray, List.set_cons_zero, List.set_cons_succ]
  refine wpAnyH_take (i := 4) (v := ?_) rfl (by kernel_rfl) (by kernel_rfl) (by kernel_rfl) (fun _ _ _ h => h) (Or.inl ⟨by rfl, ?_⟩) hHeld ?_
  rotate_left
  · intro w hSw
    (try dsimp only at hSw)
    go_simp
    all_goals with_reducible rfl
  try simp only [List.getElem_toArray, List.getElem_cons_succ, List.getElem_cons_zero, Act.put, List.setIfInBounds_toArray, List.set_cons_zero, List.set_cons_succ]
  refine wpAnyH_ready (rs := [5]) (by kernel_rfl) (by simp) ?_
  refine AllReadyH.cons rfl (fun K hK => ?_) AllReadyH.nil
  go_simp
  go_at_call 38
  with_reducible refine (rtag_eq h _).mono ?_
  (try go_split_ands)
  rintro e wn ⟨rfl, hbn⟩
  replace f0 := keeps hbn f0
  replace f1 := keeps hbn f1
  replace f2 := keeps hbn f2
  replace f3 := keeps hbn f3
  replace f4 := keeps hbn f4
  replace f5 := keeps hbn f5
  replace f6 := keeps hbn f6
  replace f7 := keeps hbn f7
  replace KB := mkHid (KB.out.step hbn)
  replace ZK := mkHid (ZK.out.keep hbn)
  replace ZS := mkHid (ZS.out.keep hbn)
  replace ZR := mkHid (ZR.out.keep hbn)
  have p0 := ZR.out.frozen 0
  have p1 := ZR.out.frozen 1
  have lR := ZR.out.lt
  clear hbn
  go_wp2_with fail
  refine hK.out _ _ ?_ (fun hHeld => ?_)
  · ((try dsimp only); (try go_split_ands); refine ⟨?_, ?_, ?_, ?_, ?_, ?_, ?_, ?_⟩ <;> assumption)
  clear hK K
  try simp only [List.getElem_toArray, List.getElem_cons_succ, List.getElem_cons_zero, Act.put, List.setIfInBounds_toArray, List.set_cons_zero, List.set_cons_succ]
  refine wpAnyH_take (i := 6) (v := ?_) rfl (by kernel_rfl) (by kernel_rfl) (by kernel_rfl) (fun _ _ _ h => h) (Or.inl ⟨by rfl, ?_⟩) hHeld ?_
  rotate_left
  · intro w hSw
    (try dsimp only at hSw)
    go_simp
    all_goals with_reducible rfl
  try simp only [List.getElem_toArray, List.getElem_cons_succ, List.getElem_cons_zero, Act.put, List.setIfInBounds_toArray, List.set_cons_zero, List.set_cons_succ]
  refine wpAnyH_done (by kernel_rfl) ?_ _
  go_wp2_with fail
  have hR0 : (((wn).setCell ⟨w.heap.size + 1 + 1, 0, none⟩ (.int .u64 (0))).setCell ⟨w.heap.size + 1 + 1, 1, none⟩ (.int .u64 (0))).cell? ⟨w.heap.size + 1 + 1, 0, none⟩ = some (.int .u64 (0)) := fill_cell0 (u0 := .int .u64 0) (u1 := .int .u64 0) f6 f7
  have hR1 : (((wn).setCell ⟨w.heap.size + 1 + 1, 0, none⟩ (.int .u64 (0))).setCell ⟨w.heap.size + 1 + 1, 1, none⟩ (.int .u64 (0))).cell? ⟨w.heap.size + 1 + 1, 1, none⟩ = some (.int .u64 (0)) := fill_cell1 (u0 := .int .u64 0) (u1 := .int .u64 0) f6 f7
  refine bodyPost_ret (v := .tuple #[.agg #[.int .u64 0, .int .u64 0], .int .i64 7]) (by simp [results, Try.results34, go_sem, hR0, hR1]) rfl ⟨rfl, ?_⟩
  exact ((KB.out.setCell (by dsimp only; omega) _).setCell (by dsimp only; omega) _)
end Go.Proofs.Ytdaodopeodheeaa
