/- slices.Insert and slices.Delete at uint64, of a row of the call's own. -/
import Derived.Test.YtmehbonjpmlmfaaRowSet
import Derived.Shelf.Spec.SlicesInsertGrow
import Derived.Deep.RegionLaw
namespace Go.Proofs.Ytmehbonjpmlmfaa
open Go.RowKit Go.Lib Go.Shelf

theorem size_u64 : (Try.prog.info? 30).map (·.size) = some 1 := by kernel_rfl
theorem sizeOf_u64 : ∀ w, (Go.sizeOf 30).run Try.prog w = .ok 1 w := by
  obtain ⟨i0, hi, hz0, hz1, hz2⟩ := info_parts info_u64
  intro w
  simp [Go.sizeOf, typeInfo, hi, hz1]
set_option maxHeartbeats 4000000 in
set_option maxRecDepth 100000 in
/-- in the middle, and there is room -/
theorem insert_shift (b off n c i vb voff m vc : Nat) (cs vs : List Value) (w : World) (hi : i < n) (hm : 0 < m) (hroom : n + m ≤ c) (hc63 : c ≤ 9223372036854775807) (hvb : vb ≠ b)
    (hcl : cs.length = n) (hvl : vs.length = m)
    (hcs : ∀ j v, cs[j]? = some v → w.cell? ⟨b, off + j, none⟩ = some v) (hsp : ∀ j, j < n + m → (w.cell? ⟨b, off + j, none⟩).isSome = true) (hfz : ∀ j, j < n + m → w.frozen? ⟨b, off + j, none⟩ = false)
    (hvs : ∀ j v, vs[j]? = some v → w.cell? ⟨vb, voff + j, none⟩ = some v) (h1c : ∀ v ∈ cs, v.oneCell' = true) (h1v : ∀ v ∈ vs, v.oneCell' = true)
    (tA tB : TypeId) (kA kB : Nat) (hsa : w.shape? vb = some (tA, kA)) (hsb : w.shape? b = some (tB, kB)) (hkB : kB ≠ 0) (hfa : w.frozen? ⟨vb, voff, none⟩ = false) (hfe : w.frozen? ⟨vb, kA, none⟩ = false) :
    Calls Try.prog 68 #[.slice (some ⟨b, off, none⟩) n c, .int .i64 i, .slice (some ⟨vb, voff, none⟩) m vc] w fun e w' =>
      e = .returned (.slice (some ⟨b, off, none⟩) (n + m) c) ∧ w' = (w.drew.setCells b (off + (i + m)) (cs.drop i)).setCells b (off + i) vs := by
  have hz1 : ¬ ((m : Int) = 0) := by omega
  have hz2 : ¬ ((i : Int) = (n : Int)) := by omega
  have hov : ∀ lb cb, (callFunc 75 #[.slice (some ⟨vb, voff, none⟩) m vc, .slice (some ⟨b, off + (i + m), none⟩) lb cb]).run Try.prog w = .ok (.value (.bool false)) w := fun lb cb => by
    rw [run_callFunc_extern Try.func75 (by kernel_rfl) (by kernel_rfl) (by kernel_rfl) (e := Extern.SlicesOverlaps.overlaps #[22, 22] #[4]) (by kernel_rfl),
      Lib.run_overlaps_apart w 22 4 30 Try.underlying22 1 sizeOf_u64 ⟨vb, voff, none⟩ ⟨b, off + (i + m), none⟩ m vc lb cb hvb tA tB kA kB hsa hsb hkB hfa hfe]
    rfl
  have hdl : (cs.drop i).length = n - i := by rw [List.length_drop, hcl]
  have mixed : Try.prog.follows .mixedOrders = true := by kernel_rfl
  have hw1 : IntKind.i64.wrap ((i : Int) + (m : Int)) = (i : Int) + (m : Int) := by rw [IntKind.wrap_i64]; omega
  have hb1 : (0 : Int) ≤ (i : Int) + (m : Int) := by omega
  have hin : i ≤ n := by omega
  have htn : ((i : Int) + (m : Int)).toNat = i + m := by omega
  have hb2 : ¬ (c = i + m) := by omega
  have hb3 : (i : Int) ≤ (n : Int) + (m : Int) := by omega
  have hb4 : ¬ (c = i) := by omega
  have hcp1 : ∀ ty dc sc, (Builtin.copy_ #[22, 22] ty #[.slice (some ⟨b, off + (i + m), none⟩) (n + m - (i + m)) dc, .slice (some ⟨b, off + i, none⟩) (n + m - i) sc]).run Try.prog w.drew = .ok (goInt (cs.drop i).length) (w.drew.setCells b (off + (i + m)) (cs.drop i)) := fun ty dc sc =>
    run_copy_cells w.drew _ _ ty 30 b (off + (i + m)) (n + m - (i + m)) dc ⟨b, off + i, none⟩ (n + m - i) sc (cs.drop i) Try.underlying22 size_u64 (by rw [hdl]; simp only [Nat.min_def]; split <;> omega)
      (fun j v hj => by rw [Addr.add_lit, Nat.add_assoc]; exact hcs (i + j) v (by rwa [List.getElem?_drop] at hj))
      (fun j hj => by rw [Nat.add_assoc]; exact hsp _ (by omega)) (fun j hj => by rw [Nat.add_assoc]; exact hfz _ (by omega)) (fun v hv => h1c v (List.mem_of_mem_drop hv))
  obtain ⟨W1, hW1⟩ : ∃ W1, W1 = w.drew.setCells b (off + (i + m)) (cs.drop i) := ⟨_, rfl⟩
  have hsp1 : ∀ k, k < n + m → (W1.cell? ⟨b, off + k, none⟩).isSome = true := fun k hk => by
    rw [hW1]
    exact isSome_setCells b _ _ _ (fun j hj => by rw [Nat.add_assoc]; exact hsp _ (by omega)) _ (hsp k hk)
  have hcp2 : ∀ (W : World), (∀ x, W.cell? x = W1.cell? x) → (∀ x, W.frozen? x = W1.frozen? x) → ∀ ty dc, (Builtin.copy_ #[22, 22] ty #[.slice (some ⟨b, off + i, none⟩) (n + m - i) dc, .slice (some ⟨vb, voff, none⟩) m vc]).run Try.prog W = .ok (goInt vs.length) (W.setCells b (off + i) vs) := fun W hWc hWf ty dc =>
    run_copy_cells W _ _ ty 30 b (off + i) (n + m - i) dc ⟨vb, voff, none⟩ m vc vs Try.underlying22 size_u64 (by rw [hvl]; simp only [Nat.min_def]; split <;> omega)
      (fun j v hj => by
        rw [Addr.add_lit, hWc, hW1, World.cell?_setCells_out b _ _ _ _ (fun h _ => absurd h hvb)]
        exact hvs j v hj)
      (fun j hj => by rw [hWc, Nat.add_assoc]; exact hsp1 _ (by omega)) (fun j hj => by rw [hWf, hW1, World.frozen?_setCells, Nat.add_assoc]; exact hfz _ (by omega)) h1v
  rw [← hW1] at hcp1
  go_enter Try.func68, Try.ntmps68
  go_wp2_with (simp only [hov])
  go_region_law_o (refine step_copy_runI rfl _ _ 22 22 rfl _ _ (by simp [Act.eval, Act.put]) (by simp [Act.eval, Act.put]) (hcp1 _ _ _) ?_)
  go_wp2_with (at_builtin; refine wpList_copy_runI _ rfl _ _ 22 22 rfl _ _ rfl rfl (hcp2 _ (fun _ => rfl) (fun _ => rfl) _ _) ?_)
  go_ret
  first | exact ⟨rfl, rfl⟩ | exact ⟨rfl, by rw [hW1]⟩
set_option maxHeartbeats 4000000 in
set_option maxRecDepth 100000 in
/-- in the middle, and there is no room: a new row -/
theorem insert_grow (b off n c i vb voff m vc : Nat) (cs vs : List Value) (w : World) (hi : i < n) (hm : 0 < m) (hnc : n ≤ c) (hroom : c < n + m) (hbig : (n + m) * 8 ≤ 140737488355328)
    (hcl : cs.length = n) (hvl : vs.length = m)
    (hcs : ∀ j v, cs[j]? = some v → w.cell? ⟨b, off + j, none⟩ = some v)
    (hvs : ∀ j v, vs[j]? = some v → w.cell? ⟨vb, voff + j, none⟩ = some v) (h1c : ∀ v ∈ cs, v.oneCell' = true) (h1v : ∀ v ∈ vs, v.oneCell' = true) :
    Calls Try.prog 68 #[.slice (some ⟨b, off, none⟩) n c, .int .i64 i, .slice (some ⟨vb, voff, none⟩) m vc] w fun e w' =>
      e = .returned (.slice (some ⟨w.heap.size, 0, none⟩) (n + m) (grownCap w (n + m) c 30)) ∧
      w' = (((w.alloc (.cells ((cs.take i).toArray ++ Builtin.zeroCells (Value.int .u64 0).cells (n + m - i) ++ Builtin.zeroCells (Value.int .u64 0).cells (grownCap w (n + m) c 30 - (n + m))) 30)).drew.setCells w.heap.size i vs).drew).setCells w.heap.size (i + m) (cs.drop i) := by
  have mixed : Try.prog.follows .mixedOrders = true := by kernel_rfl
  obtain ⟨i0, hi0, hz0, hzs, hzb⟩ := info_parts info_u64
  have hz1 : ¬ ((m : Int) = 0) := by omega
  have hz2 : ¬ ((i : Int) = (n : Int)) := by omega
  have hz3 : (c : Int) < (n : Int) + (m : Int) := by omega
  have hbw : b < w.heap.size := World.block_lt_of_cell? w _ (hcs 0 _ (List.getElem?_eq_getElem (by omega)))
  have hvw : vb < w.heap.size := World.block_lt_of_cell? w _ (hvs 0 _ (List.getElem?_eq_getElem (by omega)))
  have hkk : (n : Int) + (m : Int) - (i : Int) = ((n + m - i : Nat) : Int) := by omega
  have hik : i + (n + m - i) = n + m := by omega
  have hold : (Builtin.firstCells i0.size i (.slice (some ⟨b, off, none⟩) i c)).run Try.prog w.drew = .ok (cs.take i).toArray w.drew := by
    rw [hzs]
    exact run_firstCells_some w.drew 1 i ⟨b, off, none⟩ i c (cs.take i) (by rw [List.length_take]; omega) (fun j v hj => by
      rw [Addr.add_lit]
      rw [List.getElem?_take] at hj
      split at hj
      · exact hcs j v hj
      · cases hj)
  have hrz : ∀ ty, (Builtin.append_ #[22, 3] ty #[.slice (some ⟨b, off, none⟩) i c, .int .i64 ((n : Int) + (m : Int) - (i : Int))]).run Try.prog w =
      .ok (.slice (some ⟨w.heap.size, 0, none⟩) (n + m) (grownCap w (n + m) c 30)) (w.drew.alloc (.cells ((cs.take i).toArray ++ Builtin.zeroCells (Value.int .u64 0).cells (n + m - i) ++ Builtin.zeroCells (Value.int .u64 0).cells (grownCap w (n + m) c 30 - (n + m))) 30)) := fun ty => by
    have h := Lib.run_append_grow_zeros w 22 3 ty 30 i0 _ .i64 .i64 Try.underlying22 Try.underlying3 hi0 hz0 (some ⟨b, off, none⟩) i c (cs.take i) hold (n + m - i) (by omega) (by omega) (by omega) (by omega) (by rw [hzb]; omega) (by rw [hzb, hik]; exact growslice_fits hroom hbig)
    rw [hik] at h
    rw [hkk]
    exact h
  obtain ⟨G, hG⟩ : ∃ G, G = grownCap w (n + m) c 30 := ⟨_, rfl⟩
  obtain ⟨ROW, hROW⟩ : ∃ ROW : Array Value, ROW = (cs.take i).toArray ++ Builtin.zeroCells (Value.int .u64 0).cells (n + m - i) ++ Builtin.zeroCells (Value.int .u64 0).cells (G - (n + m)) := ⟨_, rfl⟩
  rw [← hG] at hrz ⊢
  rw [← hROW] at hrz ⊢
  have hRl : n + m ≤ ROW.size := by
    rw [hROW]
    simp [Builtin.zeroCells, Value.cells]
    omega
  obtain ⟨W1, hW1⟩ : ∃ W1, W1 = w.drew.alloc (.cells ROW 30) := ⟨_, rfl⟩
  rw [← hW1] at hrz
  have hN : ∀ j, j < n + m → (W1.cell? ⟨w.heap.size, j, none⟩).isSome = true := fun j hj => by
    rw [hW1, World.cell?_alloc_at (w := w.drew) ROW _ w.heap.size j rfl, Array.getElem?_eq_getElem (by omega)]; rfl
  have hNf : ∀ j, W1.frozen? ⟨w.heap.size, j, none⟩ = false := fun j => by rw [hW1]; exact World.frozen?_alloc_at (w := w.drew) ROW _ w.heap.size j rfl
  have hOb : ∀ j v, w.cell? ⟨b, j, none⟩ = some v → W1.cell? ⟨b, j, none⟩ = some v := fun j v h => by rw [hW1, World.cell?_alloc_past (w := w.drew) _ b j hbw]; exact h
  have hOv : ∀ j v, w.cell? ⟨vb, j, none⟩ = some v → W1.cell? ⟨vb, j, none⟩ = some v := fun j v h => by rw [hW1, World.cell?_alloc_past (w := w.drew) _ vb j hvw]; exact h
  have hcpA : ∀ (W : World), (∀ x, W.cell? x = W1.cell? x) → (∀ x, W.frozen? x = W1.frozen? x) → ∀ ty dc, (Builtin.copy_ #[22, 22] ty #[.slice (some ⟨w.heap.size, i, none⟩) (n + m - i) dc, .slice (some ⟨vb, voff, none⟩) m vc]).run Try.prog W = .ok (goInt vs.length) (W.setCells w.heap.size i vs) := fun W hWc hWf ty dc =>
    run_copy_cells W _ _ ty 30 w.heap.size i (n + m - i) dc ⟨vb, voff, none⟩ m vc vs Try.underlying22 size_u64 (by rw [hvl]; simp only [Nat.min_def]; split <;> omega)
      (fun j v hj => by rw [Addr.add_lit, hWc]; exact hOv _ v (hvs j v hj))
      (fun j hj => by rw [hWc]; exact hN _ (by omega)) (fun j hj => by rw [hWf]; exact hNf _) h1v
  have hGn : n + m ≤ G := by rw [hG]; exact grownCap_ge w _ _ _
  have hG63 : G ≤ 9223372036854775807 := by
    have := grownCap_le_maxLen w (n + m) c 30 (by unfold maxLen; omega)
    rw [← hG] at this
    unfold maxLen at this
    omega
  have hGi : ¬ (G = i) := by omega
  have hGim : ¬ (G = i + m) := by omega
  have hci : ¬ (c = i) := by omega
  have hbN : b ≠ w.heap.size := by omega
  have hdl : (cs.drop i).length = n - i := by rw [List.length_drop, hcl]
  have hcpB : ∀ (W : World), (∀ x, W.cell? x = (W1.setCells w.heap.size i vs).cell? x) → (∀ x, W.frozen? x = (W1.setCells w.heap.size i vs).frozen? x) → ∀ ty dc sc, (Builtin.copy_ #[22, 22] ty #[.slice (some ⟨w.heap.size, i + m, none⟩) (n + m - (i + m)) dc, .slice (some ⟨b, off + i, none⟩) (n - i) sc]).run Try.prog W = .ok (goInt (cs.drop i).length) (W.setCells w.heap.size (i + m) (cs.drop i)) := fun W hWc hWf ty dc sc =>
    run_copy_cells W _ _ ty 30 w.heap.size (i + m) (n + m - (i + m)) dc ⟨b, off + i, none⟩ (n - i) sc (cs.drop i) Try.underlying22 size_u64 (by rw [hdl]; simp only [Nat.min_def]; split <;> omega)
      (fun j v hj => by
        rw [Addr.add_lit, hWc, World.cell?_setCells_out _ _ _ _ _ (fun h _ => absurd h hbN), Nat.add_assoc]
        exact hOb _ v (hcs (i + j) v (by rwa [List.getElem?_drop] at hj)))
      (fun j hj => by rw [hWc]; exact isSome_setCells _ _ _ _ (fun t ht => hN _ (by omega)) _ (hN _ (by omega)))
      (fun j hj => by rw [hWf, World.frozen?_setCells]; exact hNf _) (fun v hv => h1c v (List.mem_of_mem_drop hv))
  subst hW1
  have hE1 : ∀ x, ((w.alloc (.cells ROW 30)).drew).cell? x = (w.drew.alloc (.cells ROW 30)).cell? x := fun x => rfl
  have hE2 : ∀ x, ((w.alloc (.cells ROW 30)).drew).frozen? x = (w.drew.alloc (.cells ROW 30)).frozen? x := fun x => rfl
  have hF1 : ∀ x, (((w.alloc (.cells ROW 30)).drew.setCells w.heap.size i vs).drew).cell? x = ((w.drew.alloc (.cells ROW 30)).setCells w.heap.size i vs).cell? x := fun x => rfl
  have hF2 : ∀ x, (((w.alloc (.cells ROW 30)).drew.setCells w.heap.size i vs).drew).frozen? x = ((w.drew.alloc (.cells ROW 30)).setCells w.heap.size i vs).frozen? x := fun x => rfl
  have hw1 : IntKind.i64.wrap ((i : Int) + (m : Int)) = (i : Int) + (m : Int) := by rw [IntKind.wrap_i64]; omega
  have hb1 : (0 : Int) ≤ (i : Int) + (m : Int) := by omega
  have hin : i ≤ n := by omega
  have htn : ((i : Int) + (m : Int)).toNat = i + m := by omega
  have hb3 : (i : Int) ≤ (n : Int) := by omega
  clear hkk hik hold hROW hG hRl
  go_enter Try.func68, Try.ntmps68
  go_wp2_with (first
    | (at_builtin; refine Lib.wpList_append_run _ rfl _ _ _ _ rfl _ _ rfl rfl _ _ (hrz _) ?_)
    | (at_builtin; refine wpList_copy_runI _ rfl _ _ 22 22 rfl _ _ rfl rfl (hcpA _ hE1 hE2 _ _) ?_)
    | (at_builtin; refine wpList_copy_runI _ rfl _ _ 22 22 rfl _ _ rfl rfl (hcpB _ (fun _ => rfl) (fun _ => rfl) _ _ _) ?_))
  go_region_law_o (refine step_copy_runI rfl _ _ 22 22 rfl (.slice (some ⟨w.heap.size, i + m, none⟩) (n + m - (i + m)) (G - (i + m))) (.slice (some ⟨b, off + i, none⟩) (n - i) (c - i)) (by simp [Act.eval, Act.put]) (by simp [Act.eval, Act.put]) (hcpB _ hF1 hF2 3 (G - (i + m)) (c - i)) ?_)
  go_wp2
  go_ret
  exact ⟨rfl, rfl⟩
set_option maxHeartbeats 4000000 in
set_option maxRecDepth 100000 in
/-- at the end, of a row of its own, nil or not -/
theorem insert_end_m (base : Nat) (v : Value) (s : List Nat) (n vb m : Nat) (xs : List Nat) (w : World) (hn : s.length = n) (hs : n ≤ 1048576) (hm0 : 0 < m) (hm : m ≤ 1048576) (hx : xs.length = m) (hbase : base ≤ w.heap.size) (hown : w.ownsRow base 30 1 v n (natCells s)) (hvs : ∀ j u, (natCells xs)[j]? = some u → w.cell? ⟨vb, 0 + j, none⟩ = some u) :
    Calls Try.prog 68 #[v, .int .i64 (n : Int), .slice (some ⟨vb, 0, none⟩) m m] w fun e w' =>
      ∃ v', e = .returned v' ∧ w'.ownsRow base 30 1 v' (n + m) (natCells (s ++ xs)) ∧ Below base w w' := by
  obtain ⟨i0, hi, hz0, hz1, hz2⟩ := info_parts info_u64
  have HN := mkHid (fun (wc : World) (hb : Below w.heap.size w wc) => fun (j : Nat) (u : Value) (hu : (natCells xs)[j]? = some u) => show wc.cell? ((⟨vb, 0, none⟩ : Addr).add j) = some u from by rw [Addr.add_lit]; exact keeps hb (hvs j u hu))
  have HO := mkHid hown
  have HG : Hid (∀ (W : World) (v' : Value), W.ownsRow base 30 1 v' (n + m) (natCells s ++ natCells xs) → W.ownsRow base 30 1 v' (n + m) (natCells (s ++ xs))) := mkHid fun W v' h => by rw [natCells_append]; exact h
  have HK := mkHid hown.lt
  have hxl : (natCells xs).length = m * 1 := by rw [natCells_length, hx, Nat.mul_one]
  have hz1' : ¬ ((m : Int) = 0) := by omega
  clear hvs
  rcases hown.2 with ⟨rfl, h0⟩ | ⟨g, cap, cur, rfl, hbg, hg, hnc, hcm, hcs, _⟩
  · subst h0
    clear hown
    go_enter Try.func68, Try.ntmps68
    go_wp2_with (at_builtin; refine wpList_append_own _ rfl _ _ 22 rfl base 30 i0 (.int .u64 0) 1 8 Try.underlying22 hi hz0 hz1 hz2 rfl (by decide) _ _ _ rfl HO.out ⟨vb, 0, none⟩ m m (natCells xs) rfl hxl (HN.out _ (Below.refl _ _)) (natCells_one _) (by unfold maxLen; omega) (by omega) hbase ?_)
    intro v' w1 hown' hgrow hnil
    go_wp2
    go_ret
    exact ⟨v', rfl, HG.out _ _ (by rw [Nat.zero_add]; exact hown'), (Below.refl base w).grown hgrow hbase fun k e => (HK.out k e).1⟩
  · have hcm' : cap ≤ 9223372036854775807 := by unfold maxLen at hcm; omega
    have hn63 : (n : Int) ≤ cap := by omega
    clear hown hg hcs
    go_enter Try.func68, Try.ntmps68
    go_wp2_with (at_builtin; refine wpList_append_own _ rfl _ _ 22 rfl base 30 i0 (.int .u64 0) 1 8 Try.underlying22 hi hz0 hz1 hz2 rfl (by decide) _ _ _ rfl HO.out ⟨vb, 0, none⟩ m m (natCells xs) rfl hxl (HN.out _ (Below.refl _ _)) (natCells_one _) (by unfold maxLen; omega) (by omega) hbase ?_)
    all_goals intro v' w1 hown' hgrow hnil
    all_goals go_wp2
    all_goals go_ret
    all_goals exact ⟨v', rfl, HG.out _ _ hown', (Below.refl base w).grown hgrow hbase fun k e => (HK.out k e).1⟩
/-- of a row of its own: one number put in -/
theorem insert_own (base : Nat) (v : Value) (s : List Nat) (i vb x : Nat) (w : World) (hs : s.length ≤ 1048576) (hi : i ≤ s.length) (hbase : base ≤ w.heap.size) (hown : w.ownsRow base 30 1 v s.length (natCells s)) (hne : ∀ g, v.ownBlock = some g → vb ≠ g) (hvb : w.heap[vb]? = some (.cells #[.int .u64 (x : Int)] 30 (0, 0))) :
    Calls Try.prog 68 #[v, .int .i64 (i : Int), .slice (some ⟨vb, 0, none⟩) 1 1] w fun e w' =>
      ∃ v', e = .returned v' ∧ w'.ownsRow base 30 1 v' (s.length + 1) (natCells (ins s i x)) ∧ Below base w w' := by
  have hvs : ∀ j u, (natCells [x])[j]? = some u → w.cell? ⟨vb, 0 + j, none⟩ = some u := by
    intro j u hu
    match j, hu with
    | 0, hu => cases hu; rw [cell_of_row w vb (0 + 0) _ _ (0, 0) hvb]; rfl
  by_cases he : i = s.length
  · subst he
    have e : ins s s.length x = s ++ [x] := by unfold ins; rw [List.take_length, List.drop_length]
    rw [e]
    exact insert_end_m base v s s.length vb 1 [x] w rfl hs (by decide) (by decide) rfl hbase hown hvs
  · rcases hown.2 with ⟨rfl, h0⟩ | ⟨g, cap, cur, rfl, hbg, hg, hnc, hcm, hcs, _⟩
    · omega
    · have ne := hne g rfl
      have hcm' : cap ≤ 9223372036854775807 := by unfold maxLen at hcm; omega
      rw [Nat.mul_one] at hcs
      have hcell : ∀ j u, (natCells s)[j]? = some u → w.cell? ⟨g, 0 + j, none⟩ = some u := fun j u hu => by
        have := hown.cells rfl j u hu
        rwa [Addr.add_lit] at this
      by_cases hroom : s.length + 1 ≤ cap
      · refine (insert_shift g 0 s.length cap i vb 0 1 1 (natCells s) (natCells [x]) w (by omega) (by decide) hroom hcm' ne (natCells_length s) rfl hcell
          (fun j hj => by rw [Nat.zero_add, cell_of_row w g j cur _ (0, 0) hg, Array.getElem?_eq_getElem (by omega)]; rfl) (fun j _ => by rw [Nat.zero_add]; exact frozen_of_row w g j cur _ hg) hvs (natCells_one s) (natCells_one _)
          30 30 1 cap (by unfold World.shape?; rw [hvb]; rfl) (by unfold World.shape?; rw [hg, ← hcs]) (by omega) (frozen_of_row w vb 0 _ _ hvb) (frozen_of_row w vb 1 _ _ hvb)).mono ?_
        rintro e w' ⟨rfl, hw'⟩
        rw [Nat.zero_add, Nat.zero_add, natCells_drop] at hw'
        obtain ⟨h1, h2⟩ := own_ins (w := w.drew) (s := s) (i := i) hbg hg hcs hroom hcm (by omega) (fun j hj => by
          have := hcell j _ (natCells_get s j (by omega))
          rwa [Nat.zero_add] at this) hw'
        exact ⟨_, rfl, h1, h2 w (Below.refl _ _).drew⟩
      · refine (insert_grow g 0 s.length cap i vb 0 1 1 (natCells s) (natCells [x]) w (by omega) (by decide) hnc (by omega) (by omega) (natCells_length s) rfl hcell hvs (natCells_one s) (natCells_one _)).mono ?_
        rintro e w' ⟨rfl, hw'⟩
        have hG1 := grownCap_ge w (s.length + 1) cap 30
        have hG2 := grownCap_le_maxLen w (s.length + 1) cap 30 (by unfold maxLen; omega)
        generalize grownCap w (s.length + 1) cap 30 = G at *
        rw [natCells_drop] at hw'
        obtain ⟨h1, h2⟩ := own_ins2 (w := (w.alloc (.cells (((natCells s).take i).toArray ++ Builtin.zeroCells (Value.int .u64 0).cells (s.length + 1 - i) ++ Builtin.zeroCells (Value.int .u64 0).cells (G - (s.length + 1))) 30)).drew) (s := s) (i := i) (base := base) (c := G) hbase (heap_alloc_new w _) (by
            simp only [Array.size_append, List.size_toArray, List.length_take, size_zeroCells, natCells_length]
            show min i s.length + (s.length + 1 - i) * 1 + (G - (s.length + 1)) * 1 = G
            omega) hG1 hG2 (by omega) (fun j hj => by
          show (w.alloc _).cell? _ = _
          rw [World.cell?_alloc_at _ _ w.heap.size j rfl, Array.append_assoc, Array.getElem?_append_left (by simp [natCells_length]; omega)]
          simp only [List.getElem?_toArray, List.getElem?_take, if_pos hj]
          exact natCells_get s j (by omega)) hw'
        exact ⟨_, rfl, h1, h2 w (((Below.refl _ _).alloc hbase _).drew)⟩

set_option maxHeartbeats 4000000 in
set_option maxRecDepth 1000000 in
/-- slices.Delete of one element -/
theorem delete_one (b n cap i : Nat) (cs : List Value) (w : World) (hi : i < n) (hcl : cs.length = n) (hcap : n ≤ cap) (_hm : cap ≤ 9223372036854775807) (hcs : ∀ j v, cs[j]? = some v → w.cell? ⟨b, j, none⟩ = some v)
    (hfz : ∀ j, j < n → w.frozen? ⟨b, j, none⟩ = false) (h1c : ∀ v ∈ cs, v.oneCell' = true) :
    Calls Try.prog 69 #[.slice (some ⟨b, 0, none⟩) n cap, .int .i64 (i : Int), .int .i64 ((i + 1 : Nat) : Int)] w fun e w' =>
      e = .returned (.slice (some ⟨b, 0, none⟩) (n - 1) cap) ∧ w' = (w.drew.setCells b i (cs.drop (i + 1))).setCells b (n - 1) [.int .u64 0] := by
  have mixed : Try.prog.follows .mixedOrders = true := by kernel_rfl
  obtain ⟨i0, hi0, hz0, hz1, hz2⟩ := info_parts info_u64
  have v0 : ∀ w, (zeroValue 30).run Try.prog w = .ok (.int .u64 0) w := fun w => by kernel_rfl
  obtain ⟨j, hj⟩ : ∃ j, j = i + 1 := ⟨_, rfl⟩
  rw [← hj]
  obtain ⟨news, hnews⟩ : ∃ news, news = cs.drop j := ⟨_, rfl⟩
  have hlen : news.length = n - j := by rw [hnews, List.length_drop, hcl]
  have hsome : ∀ k, k < n → (w.cell? ⟨b, k, none⟩).isSome = true := fun k hk => by rw [hcs k _ (List.getElem?_eq_getElem (by omega))]; rfl
  obtain ⟨A, hA, hsrc⟩ : ∃ A : Addr, (if cap = j then some (⟨b, 0, none⟩ : Addr) else some ⟨b, j, none⟩) = some A ∧ Hid (∀ t u, news[t]? = some u → w.drew.cell? (A.add t) = some u) := by
    by_cases h : cap = j
    · refine ⟨⟨b, 0, none⟩, by simp [h], mkHid fun t u hu => ?_⟩
      have h0 : news.length = 0 := by rw [hlen]; omega
      rw [List.length_eq_zero_iff.1 h0] at hu
      simp at hu
    · refine ⟨⟨b, j, none⟩, by simp [h], mkHid fun t u hu => ?_⟩
      rw [hnews, List.getElem?_drop] at hu
      rw [Addr.add_lit]
      exact hcs _ u hu
  have s1 : Hid (news.length = (n - j) * 1) := mkHid (by rw [Nat.mul_one]; exact hlen)
  have s2 : Hid (∀ u ∈ news, u.oneCell' = true) := mkHid (fun u hu => h1c u (List.mem_of_mem_drop (by rw [← hnews]; exact hu)))
  have s3 : Hid (∀ t, t < news.length → (w.drew.cell? ⟨b, 0 + i * 1 + t, none⟩).isSome = true ∧ w.drew.frozen? ⟨b, 0 + i * 1 + t, none⟩ = false) := mkHid (fun t ht => by
    rw [hlen] at ht
    rw [Nat.mul_one, Nat.zero_add]
    exact ⟨hsome _ (by omega), hfz _ (by omega)⟩)
  obtain ⟨W1, hW1⟩ : ∃ W1, W1 = w.drew.setCells b (0 + i * 1) news := ⟨_, rfl⟩
  have hS1 : ∀ k, k < n → (W1.cell? ⟨b, k, none⟩).isSome = true ∧ W1.frozen? ⟨b, k, none⟩ = false := fun k hk => by
    rw [hW1]
    exact ⟨isSome_setCells b _ _ _ (fun t ht => (s3.out t ht).1) k (hsome k hk), by rw [World.frozen?_setCells]; exact hfz k hk⟩
  have hcl' : ∀ ty, (Builtin.clear_ #[22] ty #[.slice (some ⟨b, i + (n - j), none⟩) (n - (i + (n - j))) (cap - (i + (n - j)))]).run Try.prog W1 = .ok (.tuple #[]) (W1.setCells b (i + (n - j)) (List.replicate (n - (i + (n - j))) (.int .u64 0))) :=
    fun ty => Lib.run_clear_slice W1 _ _ ty _ Try.underlying22 v0 rfl rfl b (i + (n - j)) _ _ (by omega) (fun t ht => (hS1 _ (by omega)).1) (fun t ht => (hS1 _ (by omega)).2)
  have hW : Hid (W1 = w.drew.setCells b (0 + i * 1) news) := mkHid hW1
  have hic : i ≤ cap := by omega
  have hjc : j ≤ cap := by omega
  have hijn : ¬ ((i : Int) = (j : Int)) := by omega
  have hjn : j ≤ n := by omega
  have hij : i ≤ j := by omega
  have HE : Hid (n - 1 = i + (n - j) ∧ n - (i + (n - j)) = 1 ∧ news = cs.drop j) := mkHid ⟨by omega, by omega, hnews⟩
  clear hW1 hnews hlen hj hS1 hsome hfz hcs hi
  go_enter Try.func69, Try.ntmps69
  go_wp2_with fail
  go_region_law_o (refine step_append_room rfl (.tmp 22) (.tmp 25) 22 rfl 30 i0 1 Try.underlying22 hi0 hz1 b 0 i cap (by simp [Act.eval, Act.put]) A (n - j) (cap - j) news (by simp [Act.eval, Act.put]) s1.out hsrc.out s2.out (by omega) s3.out ?_; rw [← hW.out])
  go_wp2
  go_ret
  obtain ⟨e1, e2, e3⟩ := HE.out
  exact ⟨by rw [e1]; rfl, by rw [hW.out, e1, e2, ← e3, Nat.zero_add, Nat.mul_one]; rfl⟩

/-- of a row of its own: one number taken out -/
theorem delete_own (base : Nat) (v : Value) (s : List Nat) (i : Nat) (w : World) (hi : i < s.length) (hown : w.ownsRow base 30 1 v s.length (natCells s)) :
    Calls Try.prog 69 #[v, .int .i64 (i : Int), .int .i64 ((i + 1 : Nat) : Int)] w fun e w' =>
      ∃ v', e = .returned v' ∧ w'.ownsRow base 30 1 v' (s.length - 1) (natCells (del s i)) ∧ Below base w w' := by
  rcases hown.2 with ⟨rfl, h0⟩ | ⟨g, cap, cur, rfl, hbg, hg, hnc, hcm, hcs, _⟩
  · omega
  · have hcm' : cap ≤ 9223372036854775807 := by unfold maxLen at hcm; omega
    rw [Nat.mul_one] at hcs
    have hcell : ∀ j u, (natCells s)[j]? = some u → w.cell? ⟨g, j, none⟩ = some u := fun j u hu => by
      have := hown.cells rfl j u hu
      rwa [Addr.add_lit, Nat.zero_add] at this
    refine (delete_one g s.length cap i (natCells s) w hi (natCells_length s) hnc hcm' hcell (fun j _ => frozen_of_row w g j cur _ hg) (natCells_one s)).mono ?_
    rintro e w' ⟨rfl, hw'⟩
    rw [natCells_drop] at hw'
    obtain ⟨h1, h2⟩ := own_del (w := w.drew) (s := s) (i := i) hbg hg hcs hnc hcm hi (fun j hj => hcell j _ (natCells_get s j (by omega))) _ hw'
    exact ⟨_, rfl, h1, h2 w (Below.refl _ _).drew⟩
end Go.Proofs.Ytmehbonjpmlmfaa
