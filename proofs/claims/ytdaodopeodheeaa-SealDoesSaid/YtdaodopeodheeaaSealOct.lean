/- The contract of seal: octets written. -/
import Derived.Test.YtdaodopeodheeaaSealO
import Derived.Test.YtdaodopeodheeaaOwn
import Derived.Deep.RegionHeld3
namespace Go.Proofs.Ytdaodopeodheeaa
open Go.RowKit

theorem cellG {w w' : World} {n o : Nat} {v : Value} (h : w.grownBy w' none) (c : w.cell? ⟨n, o, none⟩ = some v) : w'.cell? ⟨n, o, none⟩ = some v := by
  have hl := World.block_lt_of_cell? w _ c
  have hb : w'.heap[n]? = w.heap[n]? := h.block n hl (by simp)
  exact (World.cell?_of_block (w := w) hb).trans c

set_option linter.unusedSimpArgs false in
set_option maxRecDepth 100000 in
set_option maxHeartbeats 4000000 in
theorem sealoct_any {c0 c1 t0 t1 : BitVec 64} (w : World) :
    Calls Try.prog 39 #[.agg #[.int .u64 (U c0), .int .u64 (U c1), .int .u64 (U t0), .int .u64 (U t1)]] w fun e w' =>
      ∃ g cp, 32 ≤ cp ∧ Bytes w' (some ⟨g, 0, none⟩) (octs (c0, c1) ++ octs (t0, t1)) ∧ e = .returned (.slice (some ⟨g, 0, none⟩) 32 cp) ∧ Below w.heap.size w w' := by
  obtain ⟨i0, hi, hz0, hz1, hz2⟩ := info_parts info_u8
  go_enter Try.func39, Try.ntmps39
  go_wp2_with fail
  have HB0 : Hid (Below w.heap.size w (w.alloc (.cells #[.int .u64 (U c0), .int .u64 (U c1), .int .u64 (U t0), .int .u64 (U t1)] 43)).drew) := mkHid ((Below.refl _ _).alloc (Nat.le_refl _) _).drew
  have cR := (Blk.new w 43 #[.int .u64 (U c0), .int .u64 (U c1), .int .u64 (U t0), .int .u64 (U t1)]).drew.four
  refine wp_region_held_drew (S := fun w' => w'.cell? ⟨w.heap.size, 0, none⟩ = some (.int .u64 (U c0)) ∧ w'.cell? ⟨w.heap.size, 1, none⟩ = some (.int .u64 (U c1)) ∧ w'.cell? ⟨w.heap.size, 2, none⟩ = some (.int .u64 (U t0)) ∧ w'.cell? ⟨w.heap.size, 3, none⟩ = some (.int .u64 (U t1))) (by kernel_rfl) ?_ (fun hHeld => ?_)
  · ((try dsimp only); (try go_split_ands); refine ⟨?_, ?_, ?_, ?_⟩ <;> assumption)
  refine wpAnyH_take (i := 0) (v := ?_) rfl (by kernel_rfl) (by kernel_rfl) (by kernel_rfl) (fun _ _ _ h => h) (Or.inl ⟨by rfl, ?_⟩) hHeld ?_
  rotate_left
  · intro w hSw
    (try dsimp only at hSw)
    go_simp
    all_goals with_reducible rfl
  try simp only [List.getElem_toArray, List.getElem_cons_succ, List.getElem_cons_zero, Act.put, List.setIfInBounds_toArray, List.set_cons_zero, List.set_cons_succ]
  refine wpAnyH_take (i := 1) (v := ?_) rfl (by kernel_rfl) (by kernel_rfl) (by kernel_rfl) (fun _ _ _ h => h) (Or.inl ⟨by rfl, ?_⟩) hHeld ?_
  rotate_left
  · intro w hSw
    (try dsimp only at hSw)
    go_simp
    all_goals with_reducible rfl
  try simp only [List.getElem_toArray, List.getElem_cons_succ, List.getElem_cons_zero, Act.put, List.setIfInBounds_toArray, List.set_cons_zero, List.set_cons_succ]
  refine wpAnyH_take (i := 3) (v := ?_) rfl (by kernel_rfl) (by kernel_rfl) (by kernel_rfl) (fun _ _ _ h => h) (Or.inl ⟨by rfl, ?_⟩) hHeld ?_
  rotate_left
  · intro w hSw
    (try dsimp only at hSw)
    go_simp
    all_goals with_reducible rfl
  try simp only [List.getElem_toArray, List.getElem_cons_succ, List.getElem_cons_zero, Act.put, List.setIfInBounds_toArray, List.set_cons_zero, List.set_cons_succ]
  refine wpAnyH_take (i := 4) (v := ?_) rfl (by kernel_rfl) (by kernel_rfl) (by kernel_rfl) (fun _ _ _ h => h) (Or.inl ⟨by rfl, ?_⟩) hHeld ?_
  rotate_left
  · intro w hSw
    (try dsimp only at hSw)
    go_simp
    all_goals with_reducible rfl
  try simp only [List.getElem_toArray, List.getElem_cons_succ, List.getElem_cons_zero, Act.put, List.setIfInBounds_toArray, List.set_cons_zero, List.set_cons_succ]
  refine wpAnyH_ready (rs := [2]) (by kernel_rfl) (by simp) ?_
  refine AllReadyH.cons rfl (fun K hK => ?_) AllReadyH.nil
  go_simp
  go_at_call 22
  with_reducible refine (octets_post (x := c0) (y := c1) rfl rfl _).mono ?_
  (try go_split_ands)
  rintro e w1 ⟨g1, hO1, rfl, hb1⟩
  have fc10 := keeps hb1 (p := ⟨w.heap.size, 0, none⟩) (v := .int .u64 (U c0)) (by assumption)
  have fc11 := keeps hb1 (p := ⟨w.heap.size, 1, none⟩) (v := .int .u64 (U c1)) (by assumption)
  have fc12 := keeps hb1 (p := ⟨w.heap.size, 2, none⟩) (v := .int .u64 (U t0)) (by assumption)
  have fc13 := keeps hb1 (p := ⟨w.heap.size, 3, none⟩) (v := .int .u64 (U t1)) (by assumption)
  have HB1 := mkHid (HB0.out.step hb1)
  have H1 := mkHid hO1
  have hs1 := hb1.size
  clear hO1 hb1
  go_wp2_with fail
  refine hK.out _ _ ?_ (fun hHeld => ?_)
  · ((try dsimp only); (try go_split_ands); refine ⟨?_, ?_, ?_, ?_⟩ <;> assumption)
  clear hK K
  try simp only [List.getElem_toArray, List.getElem_cons_succ, List.getElem_cons_zero, Act.put, List.setIfInBounds_toArray, List.set_cons_zero, List.set_cons_succ]
  refine wpAnyH_ready (rs := [5]) (by kernel_rfl) (by simp) ?_
  refine AllReadyH.cons rfl (fun K hK => ?_) AllReadyH.nil
  go_simp
  go_at_call 22
  with_reducible refine (octets_post (x := t0) (y := t1) rfl rfl _).mono ?_
  (try go_split_ands)
  rintro e w2 ⟨g2, hO2, rfl, hb2⟩
  have fc20 := keeps hb2 (p := ⟨w.heap.size, 0, none⟩) (v := .int .u64 (U c0)) (by assumption)
  have fc21 := keeps hb2 (p := ⟨w.heap.size, 1, none⟩) (v := .int .u64 (U c1)) (by assumption)
  have fc22 := keeps hb2 (p := ⟨w.heap.size, 2, none⟩) (v := .int .u64 (U t0)) (by assumption)
  have fc23 := keeps hb2 (p := ⟨w.heap.size, 3, none⟩) (v := .int .u64 (U t1)) (by assumption)
  have HB2 := mkHid (HB1.out.step hb2)
  have H1b := mkHid (H1.out.keep hb2)
  have H2 := mkHid hO2
  clear hO2 hb2
  go_wp2_with fail
  refine hK.out _ _ ?_ (fun hHeld => ?_)
  · ((try dsimp only); (try go_split_ands); refine ⟨?_, ?_, ?_, ?_⟩ <;> assumption)
  clear hK K
  try simp only [List.getElem_toArray, List.getElem_cons_succ, List.getElem_cons_zero, Act.put, List.setIfInBounds_toArray, List.set_cons_zero, List.set_cons_succ]
  refine wpAnyH_ready (rs := [6]) (by kernel_rfl) (by simp) ?_
  refine AllReadyH.cons rfl (fun K hK => ?_) AllReadyH.nil
  refine step_append_grows rfl (.tmp 5) (.tmp 8) 25 rfl 5 i0 (.int .u8 0) 1 1 Try.underlying25 hi hz0 hz1 hz2 rfl (by decide) (some ⟨g1, 0, none⟩) 16 16 ((octs (c0, c1)).map fun x => Value.int .u8 (B x)) rfl (by intro h; cases h) (by rw [List.length_map, octs_length]) (fun b hb => by cases hb; exact (Bytes.of_blk H1b.out).news (by rw [octs_length]; omega) (Below.refl _ _)) ⟨g2, 0, none⟩ 16 16 ((octs (t0, t1)).map fun x => Value.int .u8 (B x)) rfl (by rw [List.length_map, octs_length]) ((Bytes.of_blk H2.out).news (by rw [octs_length]; omega) (Below.refl _ _)) (by intro u hu; simp at hu; obtain ⟨x, _, rfl⟩ := hu; rfl) (by omega) (by unfold maxLen; omega) (by omega) ?_
  intro v3 w3 hown hgrow
  obtain ⟨g, cp, rfl, hcp, _⟩ := ownsRow_pos hown (by omega)
  rw [← List.map_append] at hown
  have H3 := mkHid (Bytes.of_row hown)
  have HB3 := mkHid (HB2.out.grown hgrow HB2.out.size (fun k e => by cases e))
  have fc30 := cellG hgrow fc20
  have fc31 := cellG hgrow fc21
  have fc32 := cellG hgrow fc22
  have fc33 := cellG hgrow fc23
  clear hown hgrow
  refine hK.out _ _ ?_ (fun hHeld => ?_)
  · ((try dsimp only); (try go_split_ands); refine ⟨?_, ?_, ?_, ?_⟩ <;> assumption)
  clear hK K
  try simp only [List.getElem_toArray, List.getElem_cons_succ, List.getElem_cons_zero, Act.put, List.setIfInBounds_toArray, List.set_cons_zero, List.set_cons_succ]
  refine wpAnyH_take (i := 7) (v := ?_) rfl (by kernel_rfl) (by kernel_rfl) (by kernel_rfl) (fun _ _ _ h => h) (Or.inl ⟨by rfl, ?_⟩) hHeld ?_
  rotate_left
  · intro w hSw
    (try dsimp only at hSw)
    go_simp
    all_goals with_reducible rfl
  try simp only [List.getElem_toArray, List.getElem_cons_succ, List.getElem_cons_zero, Act.put, List.setIfInBounds_toArray, List.set_cons_zero, List.set_cons_succ]
  refine wpAnyH_done (by kernel_rfl) ?_ _
  go_wp2_with fail
  go_ret
  exact ⟨g, cp, hcp, H3.out, rfl, HB3.out⟩
end Go.Proofs.Ytdaodopeodheeaa
