/- The contracts of the fourth chapter's answer: Octets, Of. -/
import Derived.Test.YtdaodopeodheeaaRefT
import Derived.Test.YtdaodopeodheeaaSealOct
namespace Go.Proofs.Ytdaodopeodheeaa
open Go.RowKit

theorem own_below {w w' : World} {B e size n : Nat} {v : Value} {xs : List Value} (h : w.ownsRow B e size v n xs) (hb : Below w.heap.size w w') : w'.ownsRow B e size v n xs := by
  refine ⟨h.1, ?_⟩
  rcases h.2 with hn | ⟨g, cap, cur, rfl, hg, hgg, rest⟩
  · exact .inl hn
  · exact .inr ⟨g, cap, cur, rfl, hg, by rw [hb.block g (Array.getElem?_eq_some_iff.1 hgg).1]; exact hgg, rest⟩
theorem cellO {w w' : World} {n o : Nat} {v : Value} {b : Option Nat} (h : w.grownBy w' b) (c : w.cell? ⟨n, o, none⟩ = some v) (hn : some n ≠ b) : w'.cell? ⟨n, o, none⟩ = some v := by
  have hl := World.block_lt_of_cell? w _ c
  have hb : w'.heap[n]? = w.heap[n]? := h.block n hl hn
  exact (World.cell?_of_block (w := w) hb).trans c
theorem step_append_own {P : Program} {ops : Array Oper} {o : Oper} {a : Act} {w : World} {K : Act → World → Prop} {Q : Exit → Act → World → Prop} {E : Prop}
    (hg : o.guard = none) (s x : Operand) (t : TypeId) (hop : o.op = Op.call { callee := Callee.builtin Builtin.append, args := #[s, x], argTypes := #[t, t] })
    (base : Nat) (e : TypeId) (i : TypeInfo) (z : Value) (size bytes : Nat) (h1 : P.underlying t = some (.slice e)) (h2 : P.info? e = some i) (h3 : i.zero = some z) (h4 : i.size = size) (h5 : i.bytes = bytes) (h6 : z.cells.size = size) (h7 : 0 < size)
    (v : Value) (k : Nat) (xs : List Value) (hs : a.eval s = v) (hown : w.ownsRow base e size v k xs)
    (ad : Addr) (m c : Nat) (news : List Value) (hx : a.eval x = .slice (some ad) m c) (hn : news.length = m * size) (hc : ∀ j u, news[j]? = some u → w.cell? (ad.add j) = some u) (h1c : ∀ u ∈ news, u.oneCell' = true)
    (b1 : k + m ≤ maxLen) (b2 : (k + m) * bytes ≤ 140737488355328) (b3 : base ≤ w.heap.size)
    (hK : ∀ v' w', w'.ownsRow base e size v' (k + m) (xs ++ news) → w.grownBy w' v.ownBlock → (v' = .slice none 0 0 ↔ v = .slice none 0 0 ∧ m = 0) → K (a.put o.dst v') w') :
    if Region.wanted o (yielded ops a.tmps) = true then Oper.wp P o a w K Q else E := by
  have hw : Region.wanted o (yielded ops a.tmps) = true := by simp [Region.wanted, hg]
  rw [if_pos hw]
  obtain ⟨v', w', hrun, r1, r2, r3⟩ := run_append_own (P := P) w base t o.type e i z size bytes h1 h2 h3 h4 h5 h6 h7 v k xs hown ad m c news hn hc h1c b1 b2 b3
  unfold Oper.wp
  simp [execOp, hop, resolve, invoke, builtin, hs, hx, hrun, Result.andThen]
  exact hK v' w' r1 r2 r3

set_option linter.unusedSimpArgs false in
set_option maxRecDepth 100000 in
set_option maxHeartbeats 4000000 in
theorem rsealoct_any {c0 c1 t0 t1 : BitVec 64} (w : World) :
    Calls Try.prog 40 #[.agg #[.int .u64 (U c0), .int .u64 (U c1), .int .u64 (U t0), .int .u64 (U t1)]] w fun e w' =>
      ∃ g cp, 32 ≤ cp ∧ Bytes w' (some ⟨g, 0, none⟩) (octs (c0, c1) ++ octs (t0, t1)) ∧ e = .returned (.slice (some ⟨g, 0, none⟩) 32 cp) ∧ Below w.heap.size w w' := by
  obtain ⟨i0, hi, hz0, hz1, hz2⟩ := info_parts info_u8
  go_enter Try.func40, Try.ntmps40
  go_wp2_with fail
  have HB0 : Hid (Below w.heap.size w (w.alloc (.cells #[.int .u64 (U c0), .int .u64 (U c1), .int .u64 (U t0), .int .u64 (U t1)] 43)).drew) := mkHid ((Below.refl _ _).alloc (Nat.le_refl _) _).drew
  have ⟨f0, f1, f2, f3⟩ := (Blk.new w 43 #[.int .u64 (U c0), .int .u64 (U c1), .int .u64 (U t0), .int .u64 (U t1)]).drew.four
  refine wp_region_held_drew (S := fun w' => w'.cell? ⟨w.heap.size, 0, none⟩ = some (.int .u64 (U c0)) ∧ w'.cell? ⟨w.heap.size, 1, none⟩ = some (.int .u64 (U c1)) ∧ w'.cell? ⟨w.heap.size, 2, none⟩ = some (.int .u64 (U t0)) ∧ w'.cell? ⟨w.heap.size, 3, none⟩ = some (.int .u64 (U t1))) (by kernel_rfl) ?_ (fun hHeld => ?_)
  · ((try dsimp only); (try go_split_ands); refine ⟨?_, ?_, ?_, ?_⟩ <;> assumption)
  refine wpAnyH_take (i := 0) (v := ?_) rfl (by kernel_rfl) (by kernel_rfl) (by kernel_rfl) (fun _ _ _ h => h) (Or.inl ⟨by rfl, ?_⟩) hHeld ?_
  rotate_left
  · intro w hSw
    (try dsimp only at hSw)
    go_simp
    all_goals with_reducible rfl
  try simp only [List.getElem_toArray, List.getElem_cons_succ, List.getElem_cons_zero, Act.put, List.setIfInBounds_toArray, List.set_cons_zero, List.set_cons_succ]
  refine wpAnyH_take (i := 1) (v := ?_) rfl (by kernel_rfl) (by kernel_rfl) (by kernel_rfl) (fun _ _ _ h => h) (Or.inl ⟨by rfl, ?_⟩) hHeld ?_
  rotate_left
  · intro w hSw
    (try dsimp only at hSw)
    go_simp
    all_goals with_reducible rfl
  try simp only [List.getElem_toArray, List.getElem_cons_succ, List.getElem_cons_zero, Act.put, List.setIfInBounds_toArray, List.set_cons_zero, List.set_cons_succ]
  refine wpAnyH_take (i := 3) (v := ?_) rfl (by kernel_rfl) (by kernel_rfl) (by kernel_rfl) (fun _ _ _ h => h) (Or.inl ⟨by rfl, ?_⟩) hHeld ?_
  rotate_left
  · intro w hSw
    (try dsimp only at hSw)
    go_simp
    all_goals with_reducible rfl
  try simp only [List.getElem_toArray, List.getElem_cons_succ, List.getElem_cons_zero, Act.put, List.setIfInBounds_toArray, List.set_cons_zero, List.set_cons_succ]
  refine wpAnyH_take (i := 4) (v := ?_) rfl (by kernel_rfl) (by kernel_rfl) (by kernel_rfl) (fun _ _ _ h => h) (Or.inl ⟨by rfl, ?_⟩) hHeld ?_
  rotate_left
  · intro w hSw
    (try dsimp only at hSw)
    go_simp
    all_goals with_reducible rfl
  try simp only [List.getElem_toArray, List.getElem_cons_succ, List.getElem_cons_zero, Act.put, List.setIfInBounds_toArray, List.set_cons_zero, List.set_cons_succ]
  refine wpAnyH_ready (rs := [2]) (by kernel_rfl) (by simp) ?_
  refine AllReadyH.cons rfl (fun K hK => ?_) AllReadyH.nil
  go_simp
  go_at_call 29
  with_reducible refine (rocts_any c0 c1 _).mono ?_
  (try go_split_ands)
  rintro e w1 ⟨g1, cp1, hc1, hx1, rfl, hR1, _, hb1⟩
  replace f0 := keeps hb1 f0
  replace f1 := keeps hb1 f1
  replace f2 := keeps hb1 f2
  replace f3 := keeps hb1 f3
  replace HB0 := mkHid (HB0.out.step hb1)
  have H1 := mkHid hR1
  have hs1 := hb1.size
  clear hR1 hb1
  go_wp2_with fail
  refine hK.out _ _ ?_ (fun hHeld => ?_)
  · ((try dsimp only); (try go_split_ands); refine ⟨?_, ?_, ?_, ?_⟩ <;> assumption)
  clear hK K
  try simp only [List.getElem_toArray, List.getElem_cons_succ, List.getElem_cons_zero, Act.put, List.setIfInBounds_toArray, List.set_cons_zero, List.set_cons_succ]
  refine wpAnyH_ready (rs := [5]) (by kernel_rfl) (by simp) ?_
  refine AllReadyH.cons rfl (fun K hK => ?_) AllReadyH.nil
  go_simp
  go_at_call 29
  with_reducible refine (rocts_any t0 t1 _).mono ?_
  (try go_split_ands)
  rintro e w2 ⟨g2, cp2, hc2, hx2, rfl, _, hY2, hb2⟩
  replace f0 := keeps hb2 f0
  replace f1 := keeps hb2 f1
  replace f2 := keeps hb2 f2
  replace f3 := keeps hb2 f3
  replace HB0 := mkHid (HB0.out.step hb2)
  replace H1 := mkHid (own_below H1.out hb2)
  have H2 := mkHid hY2
  have hs2 := hb2.size
  clear hY2 hb2
  go_wp2_with fail
  refine hK.out _ _ ?_ (fun hHeld => ?_)
  · ((try dsimp only); (try go_split_ands); refine ⟨?_, ?_, ?_, ?_⟩ <;> assumption)
  clear hK K
  try simp only [List.getElem_toArray, List.getElem_cons_succ, List.getElem_cons_zero, Act.put, List.setIfInBounds_toArray, List.set_cons_zero, List.set_cons_succ]
  refine wpAnyH_ready (rs := [6]) (by kernel_rfl) (by simp) ?_
  refine AllReadyH.cons rfl (fun K hK => ?_) AllReadyH.nil
  have OWN : World.ownsRow w2 (w.heap.size + 1) 5 1 (.slice (some ⟨g1, 0, none⟩) 16 cp1) 16 ((octs (c0, c1)).map fun x => Value.int .u8 (B x)) := by
    have h := H1.out
    unfold RowB at h
    rw [octs_length] at h
    simpa [byteCells] using h
  have HSZ : w.heap.size + 1 ≤ w2.heap.size := by simp at hs1; omega
  refine step_append_own rfl (.tmp 5) (.tmp 8) 25 rfl (w.heap.size + 1) 5 i0 (.int .u8 0) 1 1 Try.underlying25 hi hz0 hz1 hz2 rfl (by decide) (.slice (some ⟨g1, 0, none⟩) 16 cp1) 16 ((octs (c0, c1)).map fun x => Value.int .u8 (B x)) rfl OWN ⟨g2, 0, none⟩ 16 cp2 ((octs (t0, t1)).map fun x => Value.int .u8 (B x)) rfl (by rw [List.length_map, octs_length]) (H2.out.news (by rw [octs_length]; omega) (Below.refl _ _)) (by intro u hu; simp at hu; obtain ⟨x, _, rfl⟩ := hu; rfl) (by unfold maxLen; omega) (by omega) HSZ ?_
  intro v3 w3 hown hgrow _
  obtain ⟨g, cp, rfl, hcp, _⟩ := ownsRow_pos hown (by omega)
  rw [← List.map_append] at hown
  have H3 := mkHid (Bytes.of_row hown)
  have hne : ∀ n, n < w.heap.size + 1 → some n ≠ (Value.slice (some ⟨g1, 0, none⟩) 16 cp1).ownBlock := fun n hn e => absurd (World.ownsRow.lt OWN n e.symm).1 (by omega)
  have HB3 := mkHid (HB0.out.grown hgrow HB0.out.size (fun k e => by have := (World.ownsRow.lt OWN k e).1; omega))
  replace f0 := cellO hgrow f0 (hne _ (by omega))
  replace f1 := cellO hgrow f1 (hne _ (by omega))
  replace f2 := cellO hgrow f2 (hne _ (by omega))
  replace f3 := cellO hgrow f3 (hne _ (by omega))
  clear hown hgrow
  refine hK.out _ _ ?_ (fun hHeld => ?_)
  · ((try dsimp only); (try go_split_ands); refine ⟨?_, ?_, ?_, ?_⟩ <;> assumption)
  clear hK K
  try simp only [List.getElem_toArray, List.getElem_cons_succ, List.getElem_cons_zero, Act.put, List.setIfInBounds_toArray, List.set_cons_zero, List.set_cons_succ]
  refine wpAnyH_take (i := 7) (v := ?_) rfl (by kernel_rfl) (by kernel_rfl) (by kernel_rfl) (fun _ _ _ h => h) (Or.inl ⟨by rfl, ?_⟩) hHeld ?_
  rotate_left
  · intro w hSw
    (try dsimp only at hSw)
    go_simp
    all_goals with_reducible rfl
  try simp only [List.getElem_toArray, List.getElem_cons_succ, List.getElem_cons_zero, Act.put, List.setIfInBounds_toArray, List.set_cons_zero, List.set_cons_succ]
  refine wpAnyH_done (by kernel_rfl) ?_ _
  go_wp2_with fail
  go_ret
  exact ⟨g, cp, hcp, H3.out, rfl, HB3.out⟩
end Go.Proofs.Ytdaodopeodheeaa
