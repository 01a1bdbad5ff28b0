/- 'ModelDoes' is true for every input, part 2 of its proof: words, contracts and plain laws. No condition. -/
import Derived.Test.YtmehbonjpmlmfaaMModelDoes1
import Derived.Deep.DeepCutAuto
import Derived.Deep.CutBlock
namespace Go.Proofs.Ytmehbonjpmlmfaa
open Go.RowKit

theorem rows_apart {w : World} {b1 b2 : Nat} {e1 e2 : TypeId} {s1 s2 n1 n2 : Nat} {v1 v2 : Value} {x1 x2 : List Value} (h1 : w.ownsRow b1 e1 s1 v1 n1 x1) (h2 : w.ownsRow b2 e2 s2 v2 n2 x2) (he : e1 ≠ e2) : v1.ownBlock = none ∨ v1.ownBlock ≠ v2.ownBlock := by
  rcases h1.2 with ⟨rfl, _⟩ | ⟨g1, c1, cur1, rfl, _, q1, _⟩
  · exact .inl rfl
  · refine .inr fun e => ?_
    rcases h2.2 with ⟨rfl, _⟩ | ⟨g2, c2, cur2, rfl, _, q2, _⟩
    · cases e
    · simp only [Value.ownBlock, Option.some.injEq] at e
      subst e
      rw [q1] at q2
      cases q2
      exact he rfl
/-- a model's memory, all of it the call's own -/
structure OwnM (w : World) (base : Nat) (A : Option Addr) (c : Nat) (B : Option Addr) (d : Nat) (X : List SX) (m : ModD) : Prop where
  row : RowOf w base (.slice A m.l.length c) m.l
  sents : w.ownsRow base 66 4 (.slice B m.sent.length d) m.sent.length (sentCells X)
  eq : X.map (·.s) = m.sent
  each : ∀ x ∈ X, RowOf w base (.slice x.a x.s.out.length x.c) x.s.out
theorem OwnM.below {w w1 : World} {base : Nat} {A B : Option Addr} {c d : Nat} {X : List SX} {m : ModD} (h : OwnM w base A c B d X m) (hb : Below w.heap.size w w1) : OwnM w1 base A c B d X m :=
  ⟨h.row.below hb, World.ownsRow.kept (row := none) h.sents ⟨hb.os, hb.tape, hb.output, hb.size, fun k hk _ => hb.block k hk⟩ (by cases (Value.slice B m.sent.length d).ownBlock <;> simp), h.eq, fun x hx => (h.each x hx).below hb⟩
theorem OwnM.base {w : World} {b b' : Nat} {A B : Option Addr} {c d : Nat} {X : List SX} {m : ModD} (h : OwnM w b' A c B d X m) (hb : b ≤ b') : OwnM w b A c B d X m :=
  ⟨h.row.rebase hb, h.sents.base hb, h.eq, fun x hx => (h.each x hx).rebase hb⟩
/-- a store into an older block -/
theorem OwnM.past {w : World} {base g : Nat} {A B : Option Addr} {c d : Nat} {X : List SX} {m : ModD} (h : OwnM w base A c B d X m) (hg : g < base) (j : Nat) (u : Value) : OwnM (w.setCell ⟨g, j, none⟩ u) base A c B d X m :=
  ⟨h.row.past hg j u, World.ownsRow.kept (row := some g) h.sents ⟨rfl, rfl, rfl, by simp, fun k _ hk => heap_setCell_other w ⟨g, j, none⟩ k u (fun e => hk (by simp [e]))⟩ (.inr fun e => by have := (World.ownsRow.lt h.sents g e).1; omega), h.eq, fun x hx => (h.each x hx).past hg j u⟩
theorem own_past {w : World} {base g : Nat} {e : TypeId} {size n : Nat} {v : Value} {cs : List Value} (h : w.ownsRow base e size v n cs) (hg : g < base) (j : Nat) (u : Value) : (w.setCell ⟨g, j, none⟩ u).ownsRow base e size v n cs :=
  World.ownsRow.kept (row := some g) h ⟨rfl, rfl, rfl, by simp, fun k _ hk => heap_setCell_other w ⟨g, j, none⟩ k u (fun e => hk (by simp [e]))⟩ (.inr fun e => by have := (World.ownsRow.lt h g e).1; omega)
theorem row_stored {w : World} {b1 b2 g n d : Nat} {v : Value} {s : List Nat} {cs : List Value} (h : RowOf w b1 v s) (hs : w.ownsRow b2 66 4 (.slice (some ⟨g, 0, none⟩) n d) n cs) (j : Nat) (u : Value) : RowOf (w.setCell ⟨g, j, none⟩ u) b1 v s :=
  World.ownsRow.kept (row := some g) h ⟨rfl, rfl, rfl, by simp, fun k _ hk => heap_setCell_other w ⟨g, j, none⟩ k u (fun e => hk (by simp [e]))⟩ (rows_apart h hs (by decide))
theorem own_keep {w w1 : World} {base : Nat} {e : TypeId} {size n : Nat} {v : Value} {cs : List Value} (h : w.ownsRow base e size v n cs) (hb : Below w.heap.size w w1) : w1.ownsRow base e size v n cs :=
  World.ownsRow.kept (row := none) h ⟨hb.os, hb.tape, hb.output, hb.size, fun k hk _ => hb.block k hk⟩ (by cases v.ownBlock <;> simp)
theorem SXok.of_row {w : World} {base : Nat} {x : SX} (h : RowOf w base (.slice x.a x.s.out.length x.c) x.s.out) : SXok w x := by
  obtain ⟨A, c, e, h1, h2, h3, h4⟩ := Reads.of_row' h
  obtain ⟨e1, _, e2⟩ := Value.slice.inj e
  subst e1 e2
  exact ⟨h1, h2, h3, h4⟩
theorem OwnM.mem {w : World} {base : Nat} {A B : Option Addr} {c d : Nat} {X : List SX} {m : ModD} (h : OwnM w base A c B d X m) (hs : m.sent.length < 4611686018427387904 ∧ m.l.length < 4611686018427387904) : MemM w A c B d m := by
  obtain ⟨A', c', e, h1, h2, h3, h4⟩ := Reads.of_row' h.row
  obtain ⟨e1, _, e2⟩ := Value.slice.inj e
  subst e1 e2
  obtain ⟨B', d', e', k1, k2, k3, k4, k5⟩ := RowAt.of_own h.sents
  obtain ⟨e1, _, e2⟩ := Value.slice.inj e'
  subst e1 e2
  have q := SentIn.ofRows k3 (fun g e => by obtain ⟨b, rfl, _⟩ := k5 g e; rfl) fun x hx => SXok.of_row (h.each x hx)
  rw [h.eq] at q
  exact ⟨h1, h2, h3, h4, k1, k2, q, k4, hs⟩
theorem sentCells_set {Y Z : List SX} {x : SX} {a : Option Addr} {c : Nat} : (sentCells (Y ++ x :: Z)).set (Y.length * 4) (.slice a x.s.out.length c) = sentCells (Y ++ ⟨a, c, x.s⟩ :: Z) := by
  have e : ∀ y : SX, sentCells (Y ++ y :: Z) = sentCells Y ++ (sxCells y ++ sentCells Z) := fun y => by rw [sentCells_append]; rfl
  rw [e, e, List.set_append_right _ _ (by rw [sentCells_length]; exact Nat.le_refl _), sentCells_length, Nat.sub_self]
  rfl
theorem drop_cons {X : List SX} {i : Nat} (hi : i < X.length) : X.drop i = X[i] :: X.drop (i + 1) := List.drop_eq_getElem_cons hi

set_option linter.unusedSimpArgs false in
set_option maxRecDepth 100000 in
set_option maxHeartbeats 4000000 in
theorem mown {m : ModD} (l1 : m.l.length ≤ 1024) (l2 : m.sent.length ≤ 4096) (l3 : ∀ s ∈ m.sent, s.out.length ≤ 1024)  (A : Option Addr) (c : Nat) (B : Option Addr) (d : Nat) (w : World) (hM : MemM w A c B d m) :
    Calls Try.prog 52 #[.agg #[.int .i64 m.h, .int .i64 m.cap, .slice A m.l.length c, .int .i64 m.n, .int .i64 m.draws, .slice B m.sent.length d]] w fun e w' => (∃ A' c' B' d' X, e = .returned (.agg #[.int .i64 m.h, .int .i64 m.cap, .slice A' m.l.length c', .int .i64 m.n, .int .i64 m.draws, .slice B' m.sent.length d']) ∧ OwnM w' w.heap.size A' c' B' d' X m) ∧ Below w.heap.size w w' := by
  skip
  obtain ⟨X0, x1, x2, x3⟩ := hM.sents.toRows
  have HX1 := mkHid x1
  have HXL : Hid (X0.length = m.sent.length) := mkHid (by rw [← x1, List.length_map])
  have HL3 := mkHid l3
  have ZX : Hid (Blk ((w.alloc (.cells #[.int .i64 m.h, .int .i64 m.cap, .slice A m.l.length c, .int .i64 m.n, .int .i64 m.draws, .slice B m.sent.length d] 45)).alloc (.cells #[.int .i64 0, .int .i64 0, .slice none 0 0, .int .i64 0, .int .i64 0, .slice none 0 0] 45)) w.heap.size 45 #[.int .i64 m.h, .int .i64 m.cap, .slice A m.l.length c, .int .i64 m.n, .int .i64 m.draws, .slice B m.sent.length d]) := mkHid ((Blk.new _ _ _).alloc _)
  have ZZ : Hid (Blk ((w.alloc (.cells #[.int .i64 m.h, .int .i64 m.cap, .slice A m.l.length c, .int .i64 m.n, .int .i64 m.draws, .slice B m.sent.length d] 45)).alloc (.cells #[.int .i64 0, .int .i64 0, .slice none 0 0, .int .i64 0, .int .i64 0, .slice none 0 0] 45)) (w.heap.size + 1) 45 #[.int .i64 0, .int .i64 0, .slice none 0 0, .int .i64 0, .int .i64 0, .slice none 0 0]) := mkHid (Blk.at _ _ _ (by simp))
  have KB : Hid (Below w.heap.size w ((w.alloc (.cells #[.int .i64 m.h, .int .i64 m.cap, .slice A m.l.length c, .int .i64 m.n, .int .i64 m.draws, .slice B m.sent.length d] 45)).alloc (.cells #[.int .i64 0, .int .i64 0, .slice none 0 0, .int .i64 0, .int .i64 0, .slice none 0 0] 45))) := mkHid (((Below.refl _ _).alloc (Nat.le_refl _) (.cells #[.int .i64 m.h, .int .i64 m.cap, .slice A m.l.length c, .int .i64 m.n, .int .i64 m.draws, .slice B m.sent.length d] 45)).alloc (by simp) (.cells #[.int .i64 0, .int .i64 0, .slice none 0 0, .int .i64 0, .int .i64 0, .slice none 0 0] 45))
  have HA := mkHid (hM.reads.below (((Below.refl _ _).alloc (Nat.le_refl _) (.cells #[.int .i64 m.h, .int .i64 m.cap, .slice A m.l.length c, .int .i64 m.n, .int .i64 m.draws, .slice B m.sent.length d] 45)).alloc (by simp) (.cells #[.int .i64 0, .int .i64 0, .slice none 0 0, .int .i64 0, .int .i64 0, .slice none 0 0] 45)))
  have HR := mkHid (x3.below (((Below.refl _ _).alloc (Nat.le_refl _) (.cells #[.int .i64 m.h, .int .i64 m.cap, .slice A m.l.length c, .int .i64 m.n, .int .i64 m.draws, .slice B m.sent.length d] 45)).alloc (by simp) (.cells #[.int .i64 0, .int .i64 0, .slice none 0 0, .int .i64 0, .int .i64 0, .slice none 0 0] 45)))
  have HOK : Hid (∀ x ∈ X0, SXok w x) := mkHid x2
  clear hM x1 x2 x3 l3
  have cZX := ZX.out.six
  have fZX0 := ZX.out.frozen 0
  have fZX1 := ZX.out.frozen 1
  have fZX2 := ZX.out.frozen 2
  have fZX3 := ZX.out.frozen 3
  have fZX4 := ZX.out.frozen 4
  have fZX5 := ZX.out.frozen 5
  have lZX := ZX.out.lt
  have cZZ := ZZ.out.six
  have lZZ := ZZ.out.lt
  go_enter Try.func52, Try.ntmps52
  go_upto_region 1 with fail
  go_cut [1] (fun s1 wc => s1 = .pointer (some ⟨w.heap.size, 0, none⟩) ∧ ∃ (A' : Option Addr) (c' : Nat) (B' : Option Addr) (d' : Nat), Hid (Blk wc w.heap.size 45 #[.int .i64 m.h, .int .i64 m.cap, .slice A' m.l.length c', .int .i64 m.n, .int .i64 m.draws, .slice B' m.sent.length d']) ∧ Hid (Blk wc (w.heap.size + 1) 45 #[.int .i64 0, .int .i64 0, .slice none 0 0, .int .i64 0, .int .i64 0, .slice none 0 0]) ∧ Hid (RowOf wc (w.heap.size + 2) (.slice A' m.l.length c') m.l) ∧ Hid (wc.ownsRow (w.heap.size + 2) 66 4 (.slice B' m.sent.length d') m.sent.length (sentCells X0)) ∧ Hid (Below w.heap.size w wc))
  case first =>
    generalize hW1 : ((w.alloc (.cells #[.int .i64 m.h, .int .i64 m.cap, .slice A m.l.length c, .int .i64 m.n, .int .i64 m.draws, .slice B m.sent.length d] 45)).alloc (.cells #[.int .i64 0, .int .i64 0, .slice none 0 0, .int .i64 0, .int .i64 0, .slice none 0 0] 45)) = w1 at *
    clear hW1
    clear cZX fZX0 fZX1 fZX2 fZX3 fZX4 fZX5 lZX cZZ lZZ
    have KD : Hid (Below w.heap.size w w1.drew) := mkHid KB.out.drew
    replace ZX := mkHid ZX.out.drew
    replace ZZ := mkHid ZZ.out.drew
    replace HA : Hid (Reads w1.drew A m.l) := HA
    replace HR : Hid (RowAt w1.drew B (sentCells X0)) := HR
    have sz : w.heap.size + 1 < w1.heap.size := ZZ.out.lt
    have k2 : w1.drew.cell? ⟨w.heap.size, 2, none⟩ = some (.slice A m.l.length c) := ZX.out.cell 2
    have k5 : w1.drew.cell? ⟨w.heap.size, 5, none⟩ = some (.slice B m.sent.length d) := ZX.out.cell 5
    clear KB
    refine wp_region_late (late := fun i => decide (7 ≤ i)) (S := fun w' => w'.cell? ⟨w.heap.size, 2, none⟩ = some (.slice A m.l.length c) ∧ w'.cell? ⟨w.heap.size, 5, none⟩ = some (.slice B m.sent.length d)) (by kernel_rfl) ?_ (fun hHeld => ?_)
    · ((try dsimp only); (try go_split_ands); refine ⟨?_, ?_⟩ <;> with_reducible assumption)
    refine Any.take (i := 0) (v := ?_) rfl (by kernel_rfl) (by kernel_rfl) (by kernel_rfl) (by kernel_rfl) (fun _ _ _ h => h) (Or.inl ⟨by rfl, ?_⟩) hHeld ?_
    rotate_left
    · intro w hSw
      (try dsimp only at hSw)
      go_simp
      all_goals with_reducible rfl
    try simp only [List.getElem_toArray, List.getElem_cons_succ, List.getElem_cons_zero, Act.put, List.setIfInBounds_toArray, List.set_cons_zero, List.set_cons_succ]
    refine Any.take (i := 1) (v := ?_) rfl (by kernel_rfl) (by kernel_rfl) (by kernel_rfl) (by kernel_rfl) (fun _ _ _ h => h) (Or.inl ⟨by rfl, ?_⟩) hHeld ?_
    rotate_left
    · intro w hSw
      (try dsimp only at hSw)
      go_simp
      all_goals with_reducible rfl
    try simp only [List.getElem_toArray, List.getElem_cons_succ, List.getElem_cons_zero, Act.put, List.setIfInBounds_toArray, List.set_cons_zero, List.set_cons_succ]
    refine Any.take (i := 3) (v := ?_) rfl (by kernel_rfl) (by kernel_rfl) (by kernel_rfl) (by kernel_rfl) (fun _ _ _ h => h) (Or.inl ⟨by rfl, ?_⟩) hHeld ?_
    rotate_left
    · intro w hSw
      (try dsimp only at hSw)
      go_simp
      all_goals with_reducible rfl
    try simp only [List.getElem_toArray, List.getElem_cons_succ, List.getElem_cons_zero, Act.put, List.setIfInBounds_toArray, List.set_cons_zero, List.set_cons_succ]
    refine Any.take (i := 4) (v := ?_) rfl (by kernel_rfl) (by kernel_rfl) (by kernel_rfl) (by kernel_rfl) (fun _ _ _ h => h) (Or.inl ⟨by rfl, ?_⟩) hHeld ?_
    rotate_left
    · intro w hSw
      (try dsimp only at hSw)
      go_simp
      all_goals with_reducible rfl
    try simp only [List.getElem_toArray, List.getElem_cons_succ, List.getElem_cons_zero, Act.put, List.setIfInBounds_toArray, List.set_cons_zero, List.set_cons_succ]
    refine Any.ready (rs := [2]) (by kernel_rfl) (by simp) ?_
    refine AllAny.cons rfl rfl (fun K hK => ?_) AllAny.nil
    go_simp
    go_at_call 56
    with_reducible refine (clone_any A c (by omega) _ HA.out).mono ?_
    (try go_split_ands)
    rintro e wa ⟨v1, rfl, ho1, hba⟩
    go_wp2_with fail
    have sa := hba.size
    have RV := mkHid (RowOf.rebase (a := w.heap.size + 2) ho1 (by show w.heap.size + 2 ≤ w1.heap.size; omega))
    clear ho1
    obtain ⟨A1, c1, rfl⟩ := RV.out.len
    replace KD := mkHid (KD.out.step hba)
    replace ZX := mkHid (ZX.out.keep hba)
    replace ZZ := mkHid (ZZ.out.keep hba)
    replace HR := mkHid (HR.out.below hba)
    replace k2 := keeps hba k2
    replace k5 := keeps hba k5
    clear hba
    refine hK.out _ _ ?_ (fun hHeld => ?_)
    · ((try dsimp only); (try go_split_ands); refine ⟨?_, ?_⟩ <;> with_reducible assumption)
    clear hK K
    try simp only [List.getElem_toArray, List.getElem_cons_succ, List.getElem_cons_zero, Act.put, List.setIfInBounds_toArray, List.set_cons_zero, List.set_cons_succ]
    refine Any.take (i := 6) (v := ?_) rfl (by kernel_rfl) (by kernel_rfl) (by kernel_rfl) (by kernel_rfl) (fun _ _ _ h => h) (Or.inl ⟨by rfl, ?_⟩) hHeld ?_
    rotate_left
    · intro w hSw
      (try dsimp only at hSw)
      go_simp
      all_goals with_reducible rfl
    try simp only [List.getElem_toArray, List.getElem_cons_succ, List.getElem_cons_zero, Act.put, List.setIfInBounds_toArray, List.set_cons_zero, List.set_cons_succ]
    refine Any.ready (rs := [5]) (by kernel_rfl) (by simp) ?_
    refine AllAny.cons rfl rfl (fun K hK => ?_) AllAny.nil
    go_simp
    go_at_call 67
    with_reducible refine (csent_any B m.sent.length d (sentCells X0) (by rw [sentCells_length, HXL.out]) (by omega) (sentCells_one X0) _ HR.out).mono ?_
    (try go_split_ands)
    rintro e wb ⟨v2, rfl, ho2, hbb⟩
    go_wp2_with fail
    replace RV := mkHid (RV.out.below hbb)
    have SV := mkHid (ho2.base (b := w.heap.size + 2) (by simp at sa; omega))
    clear ho2
    obtain ⟨B1, d1, rfl, _, _, _⟩ := RowAt.of_own SV.out
    replace KD := mkHid (KD.out.step hbb)
    replace ZX := mkHid (ZX.out.keep hbb)
    replace ZZ := mkHid (ZZ.out.keep hbb)
    replace k2 := keeps hbb k2
    replace k5 := keeps hbb k5
    have fz2 := ZX.out.frozen 2
    have fz5 := ZX.out.frozen 5
    clear hbb
    refine hK.out _ _ ?_ (fun hHeld => ?_)
    · ((try dsimp only); (try go_split_ands); refine ⟨?_, ?_⟩ <;> with_reducible assumption)
    clear hK K
    try simp only [List.getElem_toArray, List.getElem_cons_succ, List.getElem_cons_zero, Act.put, List.setIfInBounds_toArray, List.set_cons_zero, List.set_cons_succ]
    refine Any.ready (rs := [7]) (by kernel_rfl) (by simp) ?_
    refine AllAny.lateCons rfl rfl (fun K hK => ?_) AllAny.nil
    go_simp
    refine hK.out _ _ ?_
    clear hK K
    try simp only [List.getElem_toArray, List.getElem_cons_succ, List.getElem_cons_zero, Act.put, List.setIfInBounds_toArray, List.set_cons_zero, List.set_cons_succ]
    refine Any.ready (rs := [8]) (by kernel_rfl) (by simp) ?_
    refine AllAny.lateCons rfl rfl (fun K hK => ?_) AllAny.nil
    go_simp
    refine hK.out _ _ ?_
    clear hK K
    try simp only [List.getElem_toArray, List.getElem_cons_succ, List.getElem_cons_zero, Act.put, List.setIfInBounds_toArray, List.set_cons_zero, List.set_cons_succ]
    refine Any.ready (rs := [9]) (by kernel_rfl) (by simp) ?_
    refine AllAny.lateCons rfl rfl (fun K hK => ?_) AllAny.nil
    go_simp
    refine hK.out _ _ ?_
    clear hK K
    try simp only [List.getElem_toArray, List.getElem_cons_succ, List.getElem_cons_zero, Act.put, List.setIfInBounds_toArray, List.set_cons_zero, List.set_cons_succ]
    refine Any.done (by kernel_rfl) ?_ _
    go_wp2_with fail
    go_meet
    refine ⟨rfl, A1, c1, B1, d1, mkHid ((ZX.out.set 2 _).set 5 _), mkHid ((ZZ.out.other _ (by omega)).other _ (by omega)), mkHid ((RV.out.past (by omega) 2 _).past (by omega) 5 _), mkHid (own_past (own_past SV.out (by omega) 2 _) (by omega) 5 _), mkHid ((KD.out.setCell (Nat.le_refl _) _).setCell (Nat.le_refl _) _)⟩
  case rest =>
    obtain ⟨rfl, A1, c1, B1, d1, ZX1, ZZ1, RV, SV, KD⟩ := hcut
    clear cZX fZX0 fZX1 fZX2 fZX3 fZX4 fZX5 lZX cZZ lZZ ZX ZZ KB HA HR
    have cX := ZX1.out.six
    have hsz : w.heap.size + 1 < wc.heap.size := ZZ1.out.lt
    go_wp2_with fail
    clear cX hsz
    go_loopw [16] (fun j wr => ∃ (i : Nat) (Y : List SX), i ≤ m.sent.length ∧ j = .int .i64 (i : Int) ∧ Y.length = i ∧ Hid (Y.map (·.s) = m.sent.take i) ∧ Hid (∀ y ∈ Y, RowOf wr (w.heap.size + 2) (.slice y.a y.s.out.length y.c) y.s.out) ∧ Hid (Blk wr w.heap.size 45 #[.int .i64 m.h, .int .i64 m.cap, .slice A1 m.l.length c1, .int .i64 m.n, .int .i64 m.draws, .slice B1 m.sent.length d1]) ∧ Hid (Blk wr (w.heap.size + 1) 45 #[.int .i64 0, .int .i64 0, .slice none 0 0, .int .i64 0, .int .i64 0, .slice none 0 0]) ∧ Hid (RowOf wr (w.heap.size + 2) (.slice A1 m.l.length c1) m.l) ∧ Hid (wr.ownsRow (w.heap.size + 2) 66 4 (.slice B1 m.sent.length d1) m.sent.length (sentCells (Y ++ X0.drop i))) ∧ Hid (Below w.heap.size w wr)) (fun j _ => m.sent.length - (intOf j).toNat)
    case atStart => exact ⟨0, [], by omega, rfl, rfl, mkHid rfl, mkHid (fun y hy => by simp at hy), ZX1, ZZ1, RV, SV, KD⟩
    case round =>
      clear ZX1 ZZ1 RV SV KD
      obtain ⟨i, Y, hi, rfl, hY, HY, HR, ZX, ZZ, RV, SV, KD⟩ := hrel
      by_cases hlt : i < m.sent.length
      · skip
        have hlx : i < X0.length := by rw [HXL.out]; exact hlt
        have hst : Hid (X0[i].s = m.sent[i]) := mkHid (by have := congrArg (fun l => l[i]?) HX1.out; simp only [List.getElem?_map] at this; rw [List.getElem?_eq_getElem hlx, List.getElem?_eq_getElem hlt] at this; exact Option.some.inj this)
        have hl3 := HL3.out m.sent[i] (List.getElem_mem hlt)
        rw [← hst.out] at hl3
        obtain ⟨x, hx⟩ : ∃ x, x = X0[i] := ⟨_, rfl⟩
        rw [← hx] at hl3 hst
        replace SV := SV.out
        rw [drop_cons hlx, ← hx] at SV
        have hok := HOK.out x (by rw [hx]; exact List.getElem_mem hlx)
        have HRd := mkHid (hok.reads.below KD.out)
        obtain ⟨g0, dd, rfl, hg0⟩ : ∃ g dd, B1 = some ⟨g, 0, none⟩ ∧ w.heap.size + 2 ≤ g := by
          rcases SV.2 with ⟨q, _⟩ | ⟨g, cap, cur, q, q2, _⟩
          · obtain ⟨_, q, _⟩ := Value.slice.inj q
            omega
          · obtain ⟨q, _, _⟩ := Value.slice.inj q
            exact ⟨g, cap, q, q2⟩
        have hyl : (Y ++ x :: X0.drop (i + 1)).length = m.sent.length := by simp [hY, HXL.out]; omega
        have hiy : i < (Y ++ x :: X0.drop (i + 1)).length := by rw [hyl]; exact hlt
        have hgi : (Y ++ x :: X0.drop (i + 1))[i] = x := by rw [List.getElem_append_right (by omega)]; simp [hY]
        have q0 := sentCells_get _ i hiy 0 (by omega)
        have q1 := sentCells_get _ i hiy 1 (by omega)
        have q2 := sentCells_get _ i hiy 2 (by omega)
        have q3 := sentCells_get _ i hiy 3 (by omega)
        rw [hgi] at q0 q1 q2 q3
        simp only [sxCells, List.getElem?_cons_succ, List.getElem?_cons_zero, Nat.add_zero] at q0 q1 q2 q3
        have e0 := (SV.cellAt (i * 4) (by omega)).trans q0
        have e1 := (SV.cellAt (i * 4 + 1) (by omega)).trans q1
        have e2 := (SV.cellAt (i * 4 + 2) (by omega)).trans q2
        have e3 := (SV.cellAt (i * 4 + 3) (by omega)).trans q3
        have HS := mkHid SV
        have HST := mkHid hst
        have HQ0 := mkHid q0
        clear SV q0 q1 q2 q3 hgi hiy hyl hok hst HOK HX1 HL3
        have hgb : g0 < wr.heap.size := World.block_lt_of_cell? wr _ e0
        have cX := ZX.out.six
        have hsz : w.heap.size + 1 < wr.heap.size := ZZ.out.lt
        obtain ⟨xa, xc, ⟨xo, xd, xp1, xp2⟩⟩ := x
        dsimp only at hl3 HRd e0 e1 e2 e3
        go_upto_region 5 with fail
        have hlb : wr.heap.size < (wr.alloc (.cells #[.slice xa xo.length xc, .int .i64 (xd : Int), .int .u64 (xp1.toNat : Int), .int .u64 (xp2.toNat : Int)] 66)).heap.size := by simp
        have c0 : (wr.alloc (.cells #[.slice xa xo.length xc, .int .i64 (xd : Int), .int .u64 (xp1.toNat : Int), .int .u64 (xp2.toNat : Int)] 66)).cell? ⟨wr.heap.size, 0, none⟩ = some (.slice xa xo.length xc) := by simp
        have hb0 : Below wr.heap.size wr (wr.alloc (.cells #[.slice xa xo.length xc, .int .i64 (xd : Int), .int .u64 (xp1.toNat : Int), .int .u64 (xp2.toNat : Int)] 66)) := (Below.refl _ _).alloc (Nat.le_refl _) _
        generalize wr.alloc (.cells #[.slice xa xo.length xc, .int .i64 (xd : Int), .int .u64 (xp1.toNat : Int), .int .u64 (xp2.toNat : Int)] 66) = w2 at *
        have hb1 : Below wr.heap.size wr w2.drew := hb0.drew
        clear cX e0 e1 e2 e3 hb0
        replace HR : Hid (∀ y ∈ Y, RowOf w2.drew (w.heap.size + 2) (.slice y.a y.s.out.length y.c) y.s.out) := mkHid fun y hy => (HR.out y hy).below hb1
        replace ZX := mkHid (ZX.out.keep hb1)
        replace ZZ := mkHid (ZZ.out.keep hb1)
        replace RV := mkHid (RV.out.below hb1)
        replace HS := mkHid (own_keep HS.out hb1)
        replace KD := mkHid (KD.out.step hb1)
        replace HRd := mkHid (HRd.out.below hb1)
        replace c0 : w2.drew.cell? ⟨wr.heap.size, 0, none⟩ = some (.slice xa xo.length xc) := c0
        clear hb1
        have k5 : w2.drew.cell? ⟨w.heap.size, 5, none⟩ = some (.slice (some ⟨g0, 0, none⟩) m.sent.length d1) := ZX.out.cell 5
        refine wp_region_late (late := fun i => decide (8 ≤ i)) (S := fun w' => w'.cell? ⟨w.heap.size, 5, none⟩ = some (.slice (some ⟨g0, 0, none⟩) m.sent.length d1) ∧ w'.cell? ⟨wr.heap.size, 0, none⟩ = some (.slice xa xo.length xc)) (by kernel_rfl) ?_ (fun hHeld => ?_)
        · ((try dsimp only); (try go_split_ands); refine ⟨?_, ?_⟩ <;> with_reducible assumption)
        refine Any.take (i := 0) (v := ?_) rfl (by kernel_rfl) (by kernel_rfl) (by kernel_rfl) (by kernel_rfl) (fun _ _ _ h => h) (Or.inl ⟨by rfl, ?_⟩) hHeld ?_
        rotate_left
        · intro w hSw
          (try dsimp only at hSw)
          go_simp
          all_goals with_reducible rfl
        try simp only [List.getElem_toArray, List.getElem_cons_succ, List.getElem_cons_zero, Act.put, List.setIfInBounds_toArray, List.set_cons_zero, List.set_cons_succ]
        refine Any.take (i := 1) (v := ?_) rfl (by kernel_rfl) (by kernel_rfl) (by kernel_rfl) (by kernel_rfl) (fun _ _ _ h => h) (Or.inl ⟨by rfl, ?_⟩) hHeld ?_
        rotate_left
        · intro w hSw
          (try dsimp only at hSw)
          go_simp
          all_goals with_reducible rfl
        try simp only [List.getElem_toArray, List.getElem_cons_succ, List.getElem_cons_zero, Act.put, List.setIfInBounds_toArray, List.set_cons_zero, List.set_cons_succ]
        refine Any.take (i := 2) (v := ?_) rfl (by kernel_rfl) (by kernel_rfl) (by kernel_rfl) (by kernel_rfl) (fun _ _ _ h => h) (Or.inl ⟨by rfl, ?_⟩) hHeld ?_
        rotate_left
        · intro w hSw
          (try dsimp only at hSw)
          go_simp
          all_goals with_reducible rfl
        try simp only [List.getElem_toArray, List.getElem_cons_succ, List.getElem_cons_zero, Act.put, List.setIfInBounds_toArray, List.set_cons_zero, List.set_cons_succ]
        refine Any.take (i := 3) (v := ?_) rfl (by kernel_rfl) (by kernel_rfl) (by kernel_rfl) (by kernel_rfl) (fun _ _ _ h => h) (Or.inl ⟨by rfl, ?_⟩) hHeld ?_
        rotate_left
        · intro w hSw
          (try dsimp only at hSw)
          go_simp
          all_goals with_reducible rfl
        try simp only [List.getElem_toArray, List.getElem_cons_succ, List.getElem_cons_zero, Act.put, List.setIfInBounds_toArray, List.set_cons_zero, List.set_cons_succ]
        refine Any.take (i := 4) (v := ?_) rfl (by kernel_rfl) (by kernel_rfl) (by kernel_rfl) (by kernel_rfl) (fun _ _ _ h => h) (Or.inl ⟨by rfl, ?_⟩) hHeld ?_
        rotate_left
        · intro w hSw
          (try dsimp only at hSw)
          go_simp
          all_goals with_reducible rfl
        try simp only [List.getElem_toArray, List.getElem_cons_succ, List.getElem_cons_zero, Act.put, List.setIfInBounds_toArray, List.set_cons_zero, List.set_cons_succ]
        refine Any.ready (rs := [5]) (by kernel_rfl) (by simp) ?_
        refine AllAny.cons rfl rfl (fun K hK => ?_) AllAny.nil
        go_simp
        go_at_call 56
        with_reducible refine (clone_any xa xc (by omega) _ HRd.out).mono ?_
        (try go_split_ands)
        rintro e wa ⟨v1, rfl, ho1, hba⟩
        go_wp2_with fail
        have sa := hba.size
        have NV := mkHid (RowOf.rebase (a := w.heap.size + 2) ho1 (by show w.heap.size + 2 ≤ w2.heap.size; omega))
        clear ho1
        obtain ⟨A2, c2, rfl⟩ := NV.out.len
        replace HR : Hid (∀ y ∈ Y, RowOf wa (w.heap.size + 2) (.slice y.a y.s.out.length y.c) y.s.out) := mkHid fun y hy => (HR.out y hy).below hba
        replace ZX := mkHid (ZX.out.keep hba)
        replace ZZ := mkHid (ZZ.out.keep hba)
        replace RV := mkHid (RV.out.below hba)
        replace HS := mkHid (own_keep HS.out hba)
        replace KD := mkHid (KD.out.step hba)
        replace k5 := keeps hba k5
        replace c0 := keeps hba c0
        have fz := HS.out.frozenAt (i * 4)
        have ez := (HS.out.cellAt (i * 4) (by omega)).trans HQ0.out
        clear hba HRd
        refine hK.out _ _ ?_ (fun hHeld => ?_)
        · ((try dsimp only); (try go_split_ands); refine ⟨?_, ?_⟩ <;> with_reducible assumption)
        clear hK K
        try simp only [List.getElem_toArray, List.getElem_cons_succ, List.getElem_cons_zero, Act.put, List.setIfInBounds_toArray, List.set_cons_zero, List.set_cons_succ]
        refine Any.ready (rs := [6]) (by kernel_rfl) (by simp) ?_
        refine AllAny.cons rfl rfl (fun K hK => ?_) AllAny.nil
        go_simp
        refine hK.out _ _ ?_ (fun hHeld => ?_)
        · ((try dsimp only); (try go_split_ands); refine ⟨?_, ?_⟩ <;> with_reducible assumption)
        clear hK K
        try simp only [List.getElem_toArray, List.getElem_cons_succ, List.getElem_cons_zero, Act.put, List.setIfInBounds_toArray, List.set_cons_zero, List.set_cons_succ]
        refine Any.take (i := 7) (v := ?_) rfl (by kernel_rfl) (by kernel_rfl) (by kernel_rfl) (by kernel_rfl) (fun _ _ _ h => h) (Or.inl ⟨by rfl, ?_⟩) hHeld ?_
        rotate_left
        · intro w hSw
          (try dsimp only at hSw)
          go_simp
          all_goals with_reducible rfl
        try simp only [List.getElem_toArray, List.getElem_cons_succ, List.getElem_cons_zero, Act.put, List.setIfInBounds_toArray, List.set_cons_zero, List.set_cons_succ]
        refine Any.ready (rs := [8]) (by kernel_rfl) (by simp) ?_
        refine AllAny.lateCons rfl rfl (fun K hK => ?_) AllAny.nil
        go_simp
        refine hK.out _ _ ?_
        clear hK K
        try simp only [List.getElem_toArray, List.getElem_cons_succ, List.getElem_cons_zero, Act.put, List.setIfInBounds_toArray, List.set_cons_zero, List.set_cons_succ]
        refine Any.done (by kernel_rfl) ?_ _
        go_wp2_with fail
        go_roundw
        case rel =>
          have q := (HS.out.stored (i * 4) (.slice A2 xo.length c2)).1
          rw [show i * 4 = Y.length * 4 by rw [hY]] at q
          rw [sentCells_set (x := ⟨xa, xc, ⟨xo, xd, (xp1, xp2)⟩⟩), hY] at q
          refine ⟨i + 1, Y ++ [⟨A2, c2, ⟨xo, xd, (xp1, xp2)⟩⟩], by omega, by go_num, by simp [hY], mkHid ?_, mkHid ?_, mkHid (ZX.out.other _ (by omega)), mkHid (ZZ.out.other _ (by omega)), mkHid (row_stored RV.out HS.out _ _), mkHid ?_, mkHid (KD.out.setCell (by show w.heap.size ≤ g0; omega) _)⟩
          · rw [List.map_append, HY.out, List.take_add_one, List.getElem?_eq_getElem hlt, ← HST.out]; rfl
          · intro y hy
            rcases List.mem_append.1 hy with hy | hy
            · exact row_stored (HR.out y hy) HS.out _ _
            · rw [List.mem_singleton] at hy
              subst hy
              exact row_stored NV.out HS.out _ _
          · rw [List.append_assoc]; exact q
        case measure => simp [intOf]; omega
      · skip
        have hin : i = m.sent.length := by omega
        have hd : X0.drop i = [] := List.drop_eq_nil_of_le (by rw [HXL.out]; omega)
        rw [hd, List.append_nil] at SV
        rw [hin, List.take_length] at HY
        subst hin
        have cX := ZX.out.six
        have cZ := ZZ.out.six
        have fz0 := ZZ.out.frozen 0
        have fz1 := ZZ.out.frozen 1
        have fz2 := ZZ.out.frozen 2
        have fz3 := ZZ.out.frozen 3
        have fz4 := ZZ.out.frozen 4
        have fz5 := ZZ.out.frozen 5
        have hsz : w.heap.size + 1 < wr.heap.size := ZZ.out.lt
        go_wp2_with fail
        have qR := (ZZ.out.fill6 (b0 := .int .i64 m.h) (b1 := .int .i64 m.cap) (b2 := .slice A1 m.l.length c1) (b3 := .int .i64 m.n) (b4 := .int .i64 m.draws) (b5 := .slice B1 m.sent.length d1)).six
        have KO : OwnM wr (w.heap.size + 2) A1 c1 B1 d1 Y m := ⟨RV.out, SV.out, HY.out, HR.out⟩
        refine bodyPost_ret (v := .agg #[.int .i64 m.h, .int .i64 m.cap, .slice A1 m.l.length c1, .int .i64 m.n, .int .i64 m.draws, .slice B1 m.sent.length d1]) (by simp [results, Try.results52, go_sem, qR]) rfl ⟨⟨A1, c1, B1, d1, Y, rfl, OwnM.base (b' := w.heap.size + 2) ?_ (by omega)⟩, ?_⟩
        · exact (((((KO.past (by omega) 0 _).past (by omega) 1 _).past (by omega) 2 _).past (by omega) 3 _).past (by omega) 4 _).past (by omega) 5 _
        · exact below_six KD.out (by omega) _ _ _ _ _ _
end Go.Proofs.Ytmehbonjpmlmfaa

namespace Go.Proofs.Ytmehbonjpmlmfaa
open Go.RowKit

theorem RowOf.past_own {w : World} {base g : Nat} {v : Value} {S : List Nat} (h : RowOf w base v S) (hg : g < base) (j : Nat) (u : Value) : RowOf (w.setCell ⟨g, j, none⟩ u) base v S := h.past hg j u
theorem below_grown {w w1 : World} {g : Option Nat} (h : Below w.heap.size w w1) : w.grownBy w1 g := ⟨h.os, h.tape, h.output, h.size, fun k hk _ => h.block k hk⟩
theorem grown_two {w w1 : World} {g j k : Nat} {u v : Value} (h : w.grownBy w1 (some g)) : w.grownBy ((w1.setCell ⟨g, j, none⟩ u).setCell ⟨g, k, none⟩ v) (some g) :=
  ⟨h.os, h.tape, h.output, by simpa using h.size, fun q hq hne => by
    rw [heap_setCell_other _ ⟨g, k, none⟩ q v (fun e => hne (by simp [e])), heap_setCell_other _ ⟨g, j, none⟩ q u (fun e => hne (by simp [e]))]
    exact h.block q hq hne⟩

set_option linter.unusedSimpArgs false in
set_option maxRecDepth 100000 in
set_option maxHeartbeats 4000000 in
theorem cw_err_true {m : ModD} {i : Nat} {L : List Nat} {r : Int} (f : Hid (withAll m.h m.l i = (L, r))) (r0 : r ≠ 0) (r6 : r ≠ 6) (gm : Nat) (A : Option Addr) (c : Nat) (B : Option Addr) (d : Nat) (w : World) (hZ : Blk w gm 45 #[.int .i64 m.h, .int .i64 m.cap, .slice A m.l.length c, .int .i64 m.n, .int .i64 m.draws, .slice B m.sent.length d]) (hA : Reads w A m.l) :
    Calls Try.prog 53 #[.pointer (some ⟨gm, 0, none⟩), .int .u64 (i : Int), .func (.func 54) #[] #[], .bool true] w fun e w' => e = .returned (.int .i64 r) ∧ Below w.heap.size w w' := by
  have t0 : (r != (0 : Int)) = true := bne_iff_ne.2 r0
  have t1 : (r != (6 : Int)) = true := bne_iff_ne.2 r6
  clear r0 r6
  have ZX : Hid (Blk w.drew gm 45 #[.int .i64 m.h, .int .i64 m.cap, .slice A m.l.length c, .int .i64 m.n, .int .i64 m.draws, .slice B m.sent.length d]) := mkHid hZ
  have HA : Hid (Reads w.drew A m.l) := mkHid hA
  have KB : Hid (Below w.heap.size w w.drew) := mkHid (Below.refl _ _).drew
  have KX : Hid (gm < w.heap.size) := mkHid hZ.lt
  clear hZ hA
  go_enter Try.func53, Try.ntmps53
  go_upto_region 1 with fail
  have k0 : w.drew.cell? ⟨gm, 0, none⟩ = some (.int .i64 m.h) := ZX.out.cell 0
  have k2 : w.drew.cell? ⟨gm, 2, none⟩ = some (.slice A m.l.length c) := ZX.out.cell 2
  refine wp_region_late (late := fun _ => false) (S := fun w' => w'.cell? ⟨gm, 0, none⟩ = some (.int .i64 m.h) ∧ w'.cell? ⟨gm, 2, none⟩ = some (.slice A m.l.length c)) (by kernel_rfl) ?_ (fun hHeld => ?_)
  · ((try dsimp only); (try go_split_ands); refine ⟨?_, ?_⟩ <;> with_reducible assumption)
  refine Any.take (i := 0) (v := ?_) rfl (by kernel_rfl) (by kernel_rfl) (by kernel_rfl) (by kernel_rfl) (fun _ _ _ h => h) (Or.inl ⟨by rfl, ?_⟩) hHeld ?_
  rotate_left
  · intro w hSw
    (try dsimp only at hSw)
    go_simp
    all_goals with_reducible rfl
  try simp only [List.getElem_toArray, List.getElem_cons_succ, List.getElem_cons_zero, Act.put, List.setIfInBounds_toArray, List.set_cons_zero, List.set_cons_succ]
  refine Any.take (i := 1) (v := ?_) rfl (by kernel_rfl) (by kernel_rfl) (by kernel_rfl) (by kernel_rfl) (fun _ _ _ h => h) (Or.inl ⟨by rfl, ?_⟩) hHeld ?_
  rotate_left
  · intro w hSw
    (try dsimp only at hSw)
    go_simp
    all_goals with_reducible rfl
  try simp only [List.getElem_toArray, List.getElem_cons_succ, List.getElem_cons_zero, Act.put, List.setIfInBounds_toArray, List.set_cons_zero, List.set_cons_succ]
  refine Any.take (i := 2) (v := ?_) rfl (by kernel_rfl) (by kernel_rfl) (by kernel_rfl) (by kernel_rfl) (fun _ _ _ h => h) (Or.inl ⟨by rfl, ?_⟩) hHeld ?_
  rotate_left
  · intro w hSw
    (try dsimp only at hSw)
    go_simp
    all_goals with_reducible rfl
  try simp only [List.getElem_toArray, List.getElem_cons_succ, List.getElem_cons_zero, Act.put, List.setIfInBounds_toArray, List.set_cons_zero, List.set_cons_succ]
  refine Any.take (i := 3) (v := ?_) rfl (by kernel_rfl) (by kernel_rfl) (by kernel_rfl) (by kernel_rfl) (fun _ _ _ h => h) (Or.inl ⟨by rfl, ?_⟩) hHeld ?_
  rotate_left
  · intro w hSw
    (try dsimp only at hSw)
    go_simp
    all_goals with_reducible rfl
  try simp only [List.getElem_toArray, List.getElem_cons_succ, List.getElem_cons_zero, Act.put, List.setIfInBounds_toArray, List.set_cons_zero, List.set_cons_succ]
  refine Any.take (i := 4) (v := ?_) rfl (by kernel_rfl) (by kernel_rfl) (by kernel_rfl) (by kernel_rfl) (fun _ _ _ h => h) (Or.inl ⟨by rfl, ?_⟩) hHeld ?_
  rotate_left
  · intro w hSw
    (try dsimp only at hSw)
    go_simp
    all_goals with_reducible rfl
  try simp only [List.getElem_toArray, List.getElem_cons_succ, List.getElem_cons_zero, Act.put, List.setIfInBounds_toArray, List.set_cons_zero, List.set_cons_succ]
  refine Any.take (i := 5) (v := ?_) rfl (by kernel_rfl) (by kernel_rfl) (by kernel_rfl) (by kernel_rfl) (fun _ _ _ h => h) (Or.inl ⟨by rfl, ?_⟩) hHeld ?_
  rotate_left
  · intro w hSw
    (try dsimp only at hSw)
    go_simp
    all_goals with_reducible rfl
  try simp only [List.getElem_toArray, List.getElem_cons_succ, List.getElem_cons_zero, Act.put, List.setIfInBounds_toArray, List.set_cons_zero, List.set_cons_succ]
  refine Any.take (i := 6) (v := ?_) rfl (by kernel_rfl) (by kernel_rfl) (by kernel_rfl) (by kernel_rfl) (fun _ _ _ h => h) (Or.inl ⟨by rfl, ?_⟩) hHeld ?_
  rotate_left
  · intro w hSw
    (try dsimp only at hSw)
    go_simp
    all_goals with_reducible rfl
  try simp only [List.getElem_toArray, List.getElem_cons_succ, List.getElem_cons_zero, Act.put, List.setIfInBounds_toArray, List.set_cons_zero, List.set_cons_succ]
  refine Any.take (i := 7) (v := ?_) rfl (by kernel_rfl) (by kernel_rfl) (by kernel_rfl) (by kernel_rfl) (fun _ _ _ h => h) (Or.inl ⟨by rfl, ?_⟩) hHeld ?_
  rotate_left
  · intro w hSw
    (try dsimp only at hSw)
    go_simp
    all_goals with_reducible rfl
  try simp only [List.getElem_toArray, List.getElem_cons_succ, List.getElem_cons_zero, Act.put, List.setIfInBounds_toArray, List.set_cons_zero, List.set_cons_succ]
  refine Any.take (i := 8) (v := ?_) rfl (by kernel_rfl) (by kernel_rfl) (by kernel_rfl) (by kernel_rfl) (fun _ _ _ h => h) (Or.inl ⟨by rfl, ?_⟩) hHeld ?_
  rotate_left
  · intro w hSw
    (try dsimp only at hSw)
    go_simp
    all_goals with_reducible rfl
  try simp only [List.getElem_toArray, List.getElem_cons_succ, List.getElem_cons_zero, Act.put, List.setIfInBounds_toArray, List.set_cons_zero, List.set_cons_succ]
  refine Any.take (i := 9) (v := ?_) rfl (by kernel_rfl) (by kernel_rfl) (by kernel_rfl) (by kernel_rfl) (fun _ _ _ h => h) (Or.inl ⟨by rfl, ?_⟩) hHeld ?_
  rotate_left
  · intro w hSw
    (try dsimp only at hSw)
    go_simp
    all_goals with_reducible rfl
  try simp only [List.getElem_toArray, List.getElem_cons_succ, List.getElem_cons_zero, Act.put, List.setIfInBounds_toArray, List.set_cons_zero, List.set_cons_succ]
  refine Any.ready (rs := [10]) (by kernel_rfl) (by simp) ?_
  refine AllAny.cons rfl rfl (fun K hK => ?_) AllAny.nil
  go_simp
  go_at_call 54
  with_reducible refine (with_all m.h m.l i f _ _ _ HA.out).mono ?_
  (try go_split_ands)
  rintro e wa ⟨v1, rfl, ho1, hba⟩
  go_wp2_with fail
  have RV := mkHid (RowOf.rebase (a := w.heap.size) ho1 (Nat.le_refl _))
  clear ho1
  obtain ⟨A1, c1, rfl⟩ := RV.out.len
  replace ZX := mkHid (ZX.out.keep hba)
  replace KB := mkHid (KB.out.step hba)
  replace k0 := keeps hba k0
  replace k2 := keeps hba k2
  have k3 : wa.cell? ⟨gm, 3, none⟩ = some (.int .i64 m.n) := ZX.out.cell 3
  have f2 := ZX.out.frozen 2
  have f3 := ZX.out.frozen 3
  clear hba HA
  refine hK.out _ _ ?_ (fun hHeld => ?_)
  · ((try dsimp only); (try go_split_ands); refine ⟨?_, ?_⟩ <;> with_reducible assumption)
  clear hK K
  try simp only [List.getElem_toArray, List.getElem_cons_succ, List.getElem_cons_zero, Act.put, List.setIfInBounds_toArray, List.set_cons_zero, List.set_cons_succ]
  refine Any.take (i := 11) (v := ?_) rfl (by kernel_rfl) (by kernel_rfl) (by kernel_rfl) (by kernel_rfl) (fun _ _ _ h => h) (Or.inl ⟨by rfl, ?_⟩) hHeld ?_
  rotate_left
  · intro w hSw
    (try dsimp only at hSw)
    go_simp
    all_goals with_reducible rfl
  try simp only [List.getElem_toArray, List.getElem_cons_succ, List.getElem_cons_zero, Act.put, List.setIfInBounds_toArray, List.set_cons_zero, List.set_cons_succ]
  refine Any.take (i := 12) (v := ?_) rfl (by kernel_rfl) (by kernel_rfl) (by kernel_rfl) (by kernel_rfl) (fun _ _ _ h => h) (Or.inl ⟨by rfl, ?_⟩) hHeld ?_
  rotate_left
  · intro w hSw
    (try dsimp only at hSw)
    go_simp
    all_goals with_reducible rfl
  try simp only [List.getElem_toArray, List.getElem_cons_succ, List.getElem_cons_zero, Act.put, List.setIfInBounds_toArray, List.set_cons_zero, List.set_cons_succ]
  refine Any.take (i := 13) (v := ?_) rfl (by kernel_rfl) (by kernel_rfl) (by kernel_rfl) (by kernel_rfl) (fun _ _ _ h => h) (Or.inl ⟨by rfl, ?_⟩) hHeld ?_
  rotate_left
  · intro w hSw
    (try dsimp only at hSw)
    go_simp
    all_goals with_reducible rfl
  try simp only [List.getElem_toArray, List.getElem_cons_succ, List.getElem_cons_zero, Act.put, List.setIfInBounds_toArray, List.set_cons_zero, List.set_cons_succ]
  refine Any.take (i := 14) (v := ?_) rfl (by kernel_rfl) (by kernel_rfl) (by kernel_rfl) (by kernel_rfl) (fun _ _ _ h => h) (Or.inl ⟨by rfl, ?_⟩) hHeld ?_
  rotate_left
  · intro w hSw
    (try dsimp only at hSw)
    go_simp
    all_goals with_reducible rfl
  try simp only [List.getElem_toArray, List.getElem_cons_succ, List.getElem_cons_zero, Act.put, List.setIfInBounds_toArray, List.set_cons_zero, List.set_cons_succ]
  refine Any.take (i := 15) (v := ?_) rfl (by kernel_rfl) (by kernel_rfl) (by kernel_rfl) (by kernel_rfl) (fun _ _ _ h => h) (Or.inl ⟨by rfl, ?_⟩) hHeld ?_
  rotate_left
  · intro w hSw
    (try dsimp only at hSw)
    go_simp
    all_goals with_reducible rfl
  try simp only [List.getElem_toArray, List.getElem_cons_succ, List.getElem_cons_zero, Act.put, List.setIfInBounds_toArray, List.set_cons_zero, List.set_cons_succ]
  refine Any.done (by kernel_rfl) ?_ _
  go_wp2_with fail
  go_ret
  exact ⟨rfl, KB.out⟩

set_option linter.unusedSimpArgs false in
set_option maxRecDepth 100000 in
set_option maxHeartbeats 4000000 in
theorem cw_err_false {m : ModD} {i : Nat} {L : List Nat} {r : Int} (f : Hid (withAll m.h m.l i = (L, r))) (r0 : r ≠ 0) (r6 : r ≠ 6) (gm : Nat) (A : Option Addr) (c : Nat) (B : Option Addr) (d : Nat) (w : World) (hZ : Blk w gm 45 #[.int .i64 m.h, .int .i64 m.cap, .slice A m.l.length c, .int .i64 m.n, .int .i64 m.draws, .slice B m.sent.length d]) (hA : Reads w A m.l) :
    Calls Try.prog 53 #[.pointer (some ⟨gm, 0, none⟩), .int .u64 (i : Int), .func (.func 54) #[] #[], .bool false] w fun e w' => e = .returned (.int .i64 r) ∧ Below w.heap.size w w' := by
  have t0 : (r != (0 : Int)) = true := bne_iff_ne.2 r0
  have t1 : (r != (6 : Int)) = true := bne_iff_ne.2 r6
  clear r0 r6
  have ZX : Hid (Blk w.drew gm 45 #[.int .i64 m.h, .int .i64 m.cap, .slice A m.l.length c, .int .i64 m.n, .int .i64 m.draws, .slice B m.sent.length d]) := mkHid hZ
  have HA : Hid (Reads w.drew A m.l) := mkHid hA
  have KB : Hid (Below w.heap.size w w.drew) := mkHid (Below.refl _ _).drew
  have KX : Hid (gm < w.heap.size) := mkHid hZ.lt
  clear hZ hA
  go_enter Try.func53, Try.ntmps53
  go_upto_region 1 with fail
  have k0 : w.drew.cell? ⟨gm, 0, none⟩ = some (.int .i64 m.h) := ZX.out.cell 0
  have k2 : w.drew.cell? ⟨gm, 2, none⟩ = some (.slice A m.l.length c) := ZX.out.cell 2
  refine wp_region_late (late := fun _ => false) (S := fun w' => w'.cell? ⟨gm, 0, none⟩ = some (.int .i64 m.h) ∧ w'.cell? ⟨gm, 2, none⟩ = some (.slice A m.l.length c)) (by kernel_rfl) ?_ (fun hHeld => ?_)
  · ((try dsimp only); (try go_split_ands); refine ⟨?_, ?_⟩ <;> with_reducible assumption)
  refine Any.take (i := 0) (v := ?_) rfl (by kernel_rfl) (by kernel_rfl) (by kernel_rfl) (by kernel_rfl) (fun _ _ _ h => h) (Or.inl ⟨by rfl, ?_⟩) hHeld ?_
  rotate_left
  · intro w hSw
    (try dsimp only at hSw)
    go_simp
    all_goals with_reducible rfl
  try simp only [List.getElem_toArray, List.getElem_cons_succ, List.getElem_cons_zero, Act.put, List.setIfInBounds_toArray, List.set_cons_zero, List.set_cons_succ]
  refine Any.take (i := 1) (v := ?_) rfl (by kernel_rfl) (by kernel_rfl) (by kernel_rfl) (by kernel_rfl) (fun _ _ _ h => h) (Or.inl ⟨by rfl, ?_⟩) hHeld ?_
  rotate_left
  · intro w hSw
    (try dsimp only at hSw)
    go_simp
    all_goals with_reducible rfl
  try simp only [List.getElem_toArray, List.getElem_cons_succ, List.getElem_cons_zero, Act.put, List.setIfInBounds_toArray, List.set_cons_zero, List.set_cons_succ]
  refine Any.take (i := 2) (v := ?_) rfl (by kernel_rfl) (by kernel_rfl) (by kernel_rfl) (by kernel_rfl) (fun _ _ _ h => h) (Or.inl ⟨by rfl, ?_⟩) hHeld ?_
  rotate_left
  · intro w hSw
    (try dsimp only at hSw)
    go_simp
    all_goals with_reducible rfl
  try simp only [List.getElem_toArray, List.getElem_cons_succ, List.getElem_cons_zero, Act.put, List.setIfInBounds_toArray, List.set_cons_zero, List.set_cons_succ]
  refine Any.take (i := 3) (v := ?_) rfl (by kernel_rfl) (by kernel_rfl) (by kernel_rfl) (by kernel_rfl) (fun _ _ _ h => h) (Or.inl ⟨by rfl, ?_⟩) hHeld ?_
  rotate_left
  · intro w hSw
    (try dsimp only at hSw)
    go_simp
    all_goals with_reducible rfl
  try simp only [List.getElem_toArray, List.getElem_cons_succ, List.getElem_cons_zero, Act.put, List.setIfInBounds_toArray, List.set_cons_zero, List.set_cons_succ]
  refine Any.take (i := 4) (v := ?_) rfl (by kernel_rfl) (by kernel_rfl) (by kernel_rfl) (by kernel_rfl) (fun _ _ _ h => h) (Or.inl ⟨by rfl, ?_⟩) hHeld ?_
  rotate_left
  · intro w hSw
    (try dsimp only at hSw)
    go_simp
    all_goals with_reducible rfl
  try simp only [List.getElem_toArray, List.getElem_cons_succ, List.getElem_cons_zero, Act.put, List.setIfInBounds_toArray, List.set_cons_zero, List.set_cons_succ]
  refine Any.take (i := 5) (v := ?_) rfl (by kernel_rfl) (by kernel_rfl) (by kernel_rfl) (by kernel_rfl) (fun _ _ _ h => h) (Or.inl ⟨by rfl, ?_⟩) hHeld ?_
  rotate_left
  · intro w hSw
    (try dsimp only at hSw)
    go_simp
    all_goals with_reducible rfl
  try simp only [List.getElem_toArray, List.getElem_cons_succ, List.getElem_cons_zero, Act.put, List.setIfInBounds_toArray, List.set_cons_zero, List.set_cons_succ]
  refine Any.take (i := 6) (v := ?_) rfl (by kernel_rfl) (by kernel_rfl) (by kernel_rfl) (by kernel_rfl) (fun _ _ _ h => h) (Or.inl ⟨by rfl, ?_⟩) hHeld ?_
  rotate_left
  · intro w hSw
    (try dsimp only at hSw)
    go_simp
    all_goals with_reducible rfl
  try simp only [List.getElem_toArray, List.getElem_cons_succ, List.getElem_cons_zero, Act.put, List.setIfInBounds_toArray, List.set_cons_zero, List.set_cons_succ]
  refine Any.take (i := 7) (v := ?_) rfl (by kernel_rfl) (by kernel_rfl) (by kernel_rfl) (by kernel_rfl) (fun _ _ _ h => h) (Or.inl ⟨by rfl, ?_⟩) hHeld ?_
  rotate_left
  · intro w hSw
    (try dsimp only at hSw)
    go_simp
    all_goals with_reducible rfl
  try simp only [List.getElem_toArray, List.getElem_cons_succ, List.getElem_cons_zero, Act.put, List.setIfInBounds_toArray, List.set_cons_zero, List.set_cons_succ]
  refine Any.take (i := 8) (v := ?_) rfl (by kernel_rfl) (by kernel_rfl) (by kernel_rfl) (by kernel_rfl) (fun _ _ _ h => h) (Or.inl ⟨by rfl, ?_⟩) hHeld ?_
  rotate_left
  · intro w hSw
    (try dsimp only at hSw)
    go_simp
    all_goals with_reducible rfl
  try simp only [List.getElem_toArray, List.getElem_cons_succ, List.getElem_cons_zero, Act.put, List.setIfInBounds_toArray, List.set_cons_zero, List.set_cons_succ]
  refine Any.take (i := 9) (v := ?_) rfl (by kernel_rfl) (by kernel_rfl) (by kernel_rfl) (by kernel_rfl) (fun _ _ _ h => h) (Or.inl ⟨by rfl, ?_⟩) hHeld ?_
  rotate_left
  · intro w hSw
    (try dsimp only at hSw)
    go_simp
    all_goals with_reducible rfl
  try simp only [List.getElem_toArray, List.getElem_cons_succ, List.getElem_cons_zero, Act.put, List.setIfInBounds_toArray, List.set_cons_zero, List.set_cons_succ]
  refine Any.ready (rs := [10]) (by kernel_rfl) (by simp) ?_
  refine AllAny.cons rfl rfl (fun K hK => ?_) AllAny.nil
  go_simp
  go_at_call 54
  with_reducible refine (with_all m.h m.l i f _ _ _ HA.out).mono ?_
  (try go_split_ands)
  rintro e wa ⟨v1, rfl, ho1, hba⟩
  go_wp2_with fail
  have RV := mkHid (RowOf.rebase (a := w.heap.size) ho1 (Nat.le_refl _))
  clear ho1
  obtain ⟨A1, c1, rfl⟩ := RV.out.len
  replace ZX := mkHid (ZX.out.keep hba)
  replace KB := mkHid (KB.out.step hba)
  replace k0 := keeps hba k0
  replace k2 := keeps hba k2
  have k3 : wa.cell? ⟨gm, 3, none⟩ = some (.int .i64 m.n) := ZX.out.cell 3
  have f2 := ZX.out.frozen 2
  have f3 := ZX.out.frozen 3
  clear hba HA
  refine hK.out _ _ ?_ (fun hHeld => ?_)
  · ((try dsimp only); (try go_split_ands); refine ⟨?_, ?_⟩ <;> with_reducible assumption)
  clear hK K
  try simp only [List.getElem_toArray, List.getElem_cons_succ, List.getElem_cons_zero, Act.put, List.setIfInBounds_toArray, List.set_cons_zero, List.set_cons_succ]
  refine Any.take (i := 11) (v := ?_) rfl (by kernel_rfl) (by kernel_rfl) (by kernel_rfl) (by kernel_rfl) (fun _ _ _ h => h) (Or.inl ⟨by rfl, ?_⟩) hHeld ?_
  rotate_left
  · intro w hSw
    (try dsimp only at hSw)
    go_simp
    all_goals with_reducible rfl
  try simp only [List.getElem_toArray, List.getElem_cons_succ, List.getElem_cons_zero, Act.put, List.setIfInBounds_toArray, List.set_cons_zero, List.set_cons_succ]
  refine Any.take (i := 12) (v := ?_) rfl (by kernel_rfl) (by kernel_rfl) (by kernel_rfl) (by kernel_rfl) (fun _ _ _ h => h) (Or.inl ⟨by rfl, ?_⟩) hHeld ?_
  rotate_left
  · intro w hSw
    (try dsimp only at hSw)
    go_simp
    all_goals with_reducible rfl
  try simp only [List.getElem_toArray, List.getElem_cons_succ, List.getElem_cons_zero, Act.put, List.setIfInBounds_toArray, List.set_cons_zero, List.set_cons_succ]
  refine Any.take (i := 13) (v := ?_) rfl (by kernel_rfl) (by kernel_rfl) (by kernel_rfl) (by kernel_rfl) (fun _ _ _ h => h) (Or.inl ⟨by rfl, ?_⟩) hHeld ?_
  rotate_left
  · intro w hSw
    (try dsimp only at hSw)
    go_simp
    all_goals with_reducible rfl
  try simp only [List.getElem_toArray, List.getElem_cons_succ, List.getElem_cons_zero, Act.put, List.setIfInBounds_toArray, List.set_cons_zero, List.set_cons_succ]
  refine Any.take (i := 14) (v := ?_) rfl (by kernel_rfl) (by kernel_rfl) (by kernel_rfl) (by kernel_rfl) (fun _ _ _ h => h) (Or.inl ⟨by rfl, ?_⟩) hHeld ?_
  rotate_left
  · intro w hSw
    (try dsimp only at hSw)
    go_simp
    all_goals with_reducible rfl
  try simp only [List.getElem_toArray, List.getElem_cons_succ, List.getElem_cons_zero, Act.put, List.setIfInBounds_toArray, List.set_cons_zero, List.set_cons_succ]
  refine Any.take (i := 15) (v := ?_) rfl (by kernel_rfl) (by kernel_rfl) (by kernel_rfl) (by kernel_rfl) (fun _ _ _ h => h) (Or.inl ⟨by rfl, ?_⟩) hHeld ?_
  rotate_left
  · intro w hSw
    (try dsimp only at hSw)
    go_simp
    all_goals with_reducible rfl
  try simp only [List.getElem_toArray, List.getElem_cons_succ, List.getElem_cons_zero, Act.put, List.setIfInBounds_toArray, List.set_cons_zero, List.set_cons_succ]
  refine Any.done (by kernel_rfl) ?_ _
  go_wp2_with fail
  go_ret
  exact ⟨rfl, KB.out⟩

set_option linter.unusedSimpArgs false in
set_option maxRecDepth 100000 in
set_option maxHeartbeats 4000000 in
theorem cw_full0 {m : ModD} {i : Nat} {L : List Nat} (f : Hid (withAll m.h m.l i = (L, 0))) (gm : Nat) (A : Option Addr) (c : Nat) (B : Option Addr) (d : Nat) (w : World) (hZ : Blk w gm 45 #[.int .i64 m.h, .int .i64 m.cap, .slice A m.l.length c, .int .i64 m.n, .int .i64 m.draws, .slice B m.sent.length d]) (hA : Reads w A m.l) :
    Calls Try.prog 53 #[.pointer (some ⟨gm, 0, none⟩), .int .u64 (i : Int), .func (.func 54) #[] #[], .bool false] w fun e w' => e = .returned (.int .i64 6) ∧ Below w.heap.size w w' := by
  skip
  have ZX : Hid (Blk w.drew gm 45 #[.int .i64 m.h, .int .i64 m.cap, .slice A m.l.length c, .int .i64 m.n, .int .i64 m.draws, .slice B m.sent.length d]) := mkHid hZ
  have HA : Hid (Reads w.drew A m.l) := mkHid hA
  have KB : Hid (Below w.heap.size w w.drew) := mkHid (Below.refl _ _).drew
  have KX : Hid (gm < w.heap.size) := mkHid hZ.lt
  clear hZ hA
  go_enter Try.func53, Try.ntmps53
  go_upto_region 1 with fail
  have k0 : w.drew.cell? ⟨gm, 0, none⟩ = some (.int .i64 m.h) := ZX.out.cell 0
  have k2 : w.drew.cell? ⟨gm, 2, none⟩ = some (.slice A m.l.length c) := ZX.out.cell 2
  refine wp_region_late (late := fun _ => false) (S := fun w' => w'.cell? ⟨gm, 0, none⟩ = some (.int .i64 m.h) ∧ w'.cell? ⟨gm, 2, none⟩ = some (.slice A m.l.length c)) (by kernel_rfl) ?_ (fun hHeld => ?_)
  · ((try dsimp only); (try go_split_ands); refine ⟨?_, ?_⟩ <;> with_reducible assumption)
  refine Any.take (i := 0) (v := ?_) rfl (by kernel_rfl) (by kernel_rfl) (by kernel_rfl) (by kernel_rfl) (fun _ _ _ h => h) (Or.inl ⟨by rfl, ?_⟩) hHeld ?_
  rotate_left
  · intro w hSw
    (try dsimp only at hSw)
    go_simp
    all_goals with_reducible rfl
  try simp only [List.getElem_toArray, List.getElem_cons_succ, List.getElem_cons_zero, Act.put, List.setIfInBounds_toArray, List.set_cons_zero, List.set_cons_succ]
  refine Any.take (i := 1) (v := ?_) rfl (by kernel_rfl) (by kernel_rfl) (by kernel_rfl) (by kernel_rfl) (fun _ _ _ h => h) (Or.inl ⟨by rfl, ?_⟩) hHeld ?_
  rotate_left
  · intro w hSw
    (try dsimp only at hSw)
    go_simp
    all_goals with_reducible rfl
  try simp only [List.getElem_toArray, List.getElem_cons_succ, List.getElem_cons_zero, Act.put, List.setIfInBounds_toArray, List.set_cons_zero, List.set_cons_succ]
  refine Any.take (i := 2) (v := ?_) rfl (by kernel_rfl) (by kernel_rfl) (by kernel_rfl) (by kernel_rfl) (fun _ _ _ h => h) (Or.inl ⟨by rfl, ?_⟩) hHeld ?_
  rotate_left
  · intro w hSw
    (try dsimp only at hSw)
    go_simp
    all_goals with_reducible rfl
  try simp only [List.getElem_toArray, List.getElem_cons_succ, List.getElem_cons_zero, Act.put, List.setIfInBounds_toArray, List.set_cons_zero, List.set_cons_succ]
  refine Any.take (i := 3) (v := ?_) rfl (by kernel_rfl) (by kernel_rfl) (by kernel_rfl) (by kernel_rfl) (fun _ _ _ h => h) (Or.inl ⟨by rfl, ?_⟩) hHeld ?_
  rotate_left
  · intro w hSw
    (try dsimp only at hSw)
    go_simp
    all_goals with_reducible rfl
  try simp only [List.getElem_toArray, List.getElem_cons_succ, List.getElem_cons_zero, Act.put, List.setIfInBounds_toArray, List.set_cons_zero, List.set_cons_succ]
  refine Any.take (i := 4) (v := ?_) rfl (by kernel_rfl) (by kernel_rfl) (by kernel_rfl) (by kernel_rfl) (fun _ _ _ h => h) (Or.inl ⟨by rfl, ?_⟩) hHeld ?_
  rotate_left
  · intro w hSw
    (try dsimp only at hSw)
    go_simp
    all_goals with_reducible rfl
  try simp only [List.getElem_toArray, List.getElem_cons_succ, List.getElem_cons_zero, Act.put, List.setIfInBounds_toArray, List.set_cons_zero, List.set_cons_succ]
  refine Any.take (i := 5) (v := ?_) rfl (by kernel_rfl) (by kernel_rfl) (by kernel_rfl) (by kernel_rfl) (fun _ _ _ h => h) (Or.inl ⟨by rfl, ?_⟩) hHeld ?_
  rotate_left
  · intro w hSw
    (try dsimp only at hSw)
    go_simp
    all_goals with_reducible rfl
  try simp only [List.getElem_toArray, List.getElem_cons_succ, List.getElem_cons_zero, Act.put, List.setIfInBounds_toArray, List.set_cons_zero, List.set_cons_succ]
  refine Any.take (i := 6) (v := ?_) rfl (by kernel_rfl) (by kernel_rfl) (by kernel_rfl) (by kernel_rfl) (fun _ _ _ h => h) (Or.inl ⟨by rfl, ?_⟩) hHeld ?_
  rotate_left
  · intro w hSw
    (try dsimp only at hSw)
    go_simp
    all_goals with_reducible rfl
  try simp only [List.getElem_toArray, List.getElem_cons_succ, List.getElem_cons_zero, Act.put, List.setIfInBounds_toArray, List.set_cons_zero, List.set_cons_succ]
  refine Any.take (i := 7) (v := ?_) rfl (by kernel_rfl) (by kernel_rfl) (by kernel_rfl) (by kernel_rfl) (fun _ _ _ h => h) (Or.inl ⟨by rfl, ?_⟩) hHeld ?_
  rotate_left
  · intro w hSw
    (try dsimp only at hSw)
    go_simp
    all_goals with_reducible rfl
  try simp only [List.getElem_toArray, List.getElem_cons_succ, List.getElem_cons_zero, Act.put, List.setIfInBounds_toArray, List.set_cons_zero, List.set_cons_succ]
  refine Any.take (i := 8) (v := ?_) rfl (by kernel_rfl) (by kernel_rfl) (by kernel_rfl) (by kernel_rfl) (fun _ _ _ h => h) (Or.inl ⟨by rfl, ?_⟩) hHeld ?_
  rotate_left
  · intro w hSw
    (try dsimp only at hSw)
    go_simp
    all_goals with_reducible rfl
  try simp only [List.getElem_toArray, List.getElem_cons_succ, List.getElem_cons_zero, Act.put, List.setIfInBounds_toArray, List.set_cons_zero, List.set_cons_succ]
  refine Any.take (i := 9) (v := ?_) rfl (by kernel_rfl) (by kernel_rfl) (by kernel_rfl) (by kernel_rfl) (fun _ _ _ h => h) (Or.inl ⟨by rfl, ?_⟩) hHeld ?_
  rotate_left
  · intro w hSw
    (try dsimp only at hSw)
    go_simp
    all_goals with_reducible rfl
  try simp only [List.getElem_toArray, List.getElem_cons_succ, List.getElem_cons_zero, Act.put, List.setIfInBounds_toArray, List.set_cons_zero, List.set_cons_succ]
  refine Any.ready (rs := [10]) (by kernel_rfl) (by simp) ?_
  refine AllAny.cons rfl rfl (fun K hK => ?_) AllAny.nil
  go_simp
  go_at_call 54
  with_reducible refine (with_all m.h m.l i f _ _ _ HA.out).mono ?_
  (try go_split_ands)
  rintro e wa ⟨v1, rfl, ho1, hba⟩
  go_wp2_with fail
  have RV := mkHid (RowOf.rebase (a := w.heap.size) ho1 (Nat.le_refl _))
  clear ho1
  obtain ⟨A1, c1, rfl⟩ := RV.out.len
  replace ZX := mkHid (ZX.out.keep hba)
  replace KB := mkHid (KB.out.step hba)
  replace k0 := keeps hba k0
  replace k2 := keeps hba k2
  have k3 : wa.cell? ⟨gm, 3, none⟩ = some (.int .i64 m.n) := ZX.out.cell 3
  have f2 := ZX.out.frozen 2
  have f3 := ZX.out.frozen 3
  clear hba HA
  refine hK.out _ _ ?_ (fun hHeld => ?_)
  · ((try dsimp only); (try go_split_ands); refine ⟨?_, ?_⟩ <;> with_reducible assumption)
  clear hK K
  try simp only [List.getElem_toArray, List.getElem_cons_succ, List.getElem_cons_zero, Act.put, List.setIfInBounds_toArray, List.set_cons_zero, List.set_cons_succ]
  refine Any.take (i := 11) (v := ?_) rfl (by kernel_rfl) (by kernel_rfl) (by kernel_rfl) (by kernel_rfl) (fun _ _ _ h => h) (Or.inl ⟨by rfl, ?_⟩) hHeld ?_
  rotate_left
  · intro w hSw
    (try dsimp only at hSw)
    go_simp
    all_goals with_reducible rfl
  try simp only [List.getElem_toArray, List.getElem_cons_succ, List.getElem_cons_zero, Act.put, List.setIfInBounds_toArray, List.set_cons_zero, List.set_cons_succ]
  refine Any.take (i := 12) (v := ?_) rfl (by kernel_rfl) (by kernel_rfl) (by kernel_rfl) (by kernel_rfl) (fun _ _ _ h => h) (Or.inl ⟨by rfl, ?_⟩) hHeld ?_
  rotate_left
  · intro w hSw
    (try dsimp only at hSw)
    go_simp
    all_goals with_reducible rfl
  try simp only [List.getElem_toArray, List.getElem_cons_succ, List.getElem_cons_zero, Act.put, List.setIfInBounds_toArray, List.set_cons_zero, List.set_cons_succ]
  refine Any.take (i := 13) (v := ?_) rfl (by kernel_rfl) (by kernel_rfl) (by kernel_rfl) (by kernel_rfl) (fun _ _ _ h => h) (Or.inl ⟨by rfl, ?_⟩) hHeld ?_
  rotate_left
  · intro w hSw
    (try dsimp only at hSw)
    go_simp
    all_goals with_reducible rfl
  try simp only [List.getElem_toArray, List.getElem_cons_succ, List.getElem_cons_zero, Act.put, List.setIfInBounds_toArray, List.set_cons_zero, List.set_cons_succ]
  refine Any.take (i := 14) (v := ?_) rfl (by kernel_rfl) (by kernel_rfl) (by kernel_rfl) (by kernel_rfl) (fun _ _ _ h => h) (Or.inl ⟨by rfl, ?_⟩) hHeld ?_
  rotate_left
  · intro w hSw
    (try dsimp only at hSw)
    go_simp
    all_goals with_reducible rfl
  try simp only [List.getElem_toArray, List.getElem_cons_succ, List.getElem_cons_zero, Act.put, List.setIfInBounds_toArray, List.set_cons_zero, List.set_cons_succ]
  refine Any.take (i := 15) (v := ?_) rfl (by kernel_rfl) (by kernel_rfl) (by kernel_rfl) (by kernel_rfl) (fun _ _ _ h => h) (Or.inl ⟨by rfl, ?_⟩) hHeld ?_
  rotate_left
  · intro w hSw
    (try dsimp only at hSw)
    go_simp
    all_goals with_reducible rfl
  try simp only [List.getElem_toArray, List.getElem_cons_succ, List.getElem_cons_zero, Act.put, List.setIfInBounds_toArray, List.set_cons_zero, List.set_cons_succ]
  refine Any.done (by kernel_rfl) ?_ _
  go_wp2_with fail
  go_ret
  exact ⟨rfl, KB.out⟩

set_option linter.unusedSimpArgs false in
set_option maxRecDepth 100000 in
set_option maxHeartbeats 4000000 in
theorem cw_full6 {m : ModD} {i : Nat} {L : List Nat} (f : Hid (withAll m.h m.l i = (L, 6))) (gm : Nat) (A : Option Addr) (c : Nat) (B : Option Addr) (d : Nat) (w : World) (hZ : Blk w gm 45 #[.int .i64 m.h, .int .i64 m.cap, .slice A m.l.length c, .int .i64 m.n, .int .i64 m.draws, .slice B m.sent.length d]) (hA : Reads w A m.l) :
    Calls Try.prog 53 #[.pointer (some ⟨gm, 0, none⟩), .int .u64 (i : Int), .func (.func 54) #[] #[], .bool false] w fun e w' => e = .returned (.int .i64 6) ∧ Below w.heap.size w w' := by
  skip
  have ZX : Hid (Blk w.drew gm 45 #[.int .i64 m.h, .int .i64 m.cap, .slice A m.l.length c, .int .i64 m.n, .int .i64 m.draws, .slice B m.sent.length d]) := mkHid hZ
  have HA : Hid (Reads w.drew A m.l) := mkHid hA
  have KB : Hid (Below w.heap.size w w.drew) := mkHid (Below.refl _ _).drew
  have KX : Hid (gm < w.heap.size) := mkHid hZ.lt
  clear hZ hA
  go_enter Try.func53, Try.ntmps53
  go_upto_region 1 with fail
  have k0 : w.drew.cell? ⟨gm, 0, none⟩ = some (.int .i64 m.h) := ZX.out.cell 0
  have k2 : w.drew.cell? ⟨gm, 2, none⟩ = some (.slice A m.l.length c) := ZX.out.cell 2
  refine wp_region_late (late := fun _ => false) (S := fun w' => w'.cell? ⟨gm, 0, none⟩ = some (.int .i64 m.h) ∧ w'.cell? ⟨gm, 2, none⟩ = some (.slice A m.l.length c)) (by kernel_rfl) ?_ (fun hHeld => ?_)
  · ((try dsimp only); (try go_split_ands); refine ⟨?_, ?_⟩ <;> with_reducible assumption)
  refine Any.take (i := 0) (v := ?_) rfl (by kernel_rfl) (by kernel_rfl) (by kernel_rfl) (by kernel_rfl) (fun _ _ _ h => h) (Or.inl ⟨by rfl, ?_⟩) hHeld ?_
  rotate_left
  · intro w hSw
    (try dsimp only at hSw)
    go_simp
    all_goals with_reducible rfl
  try simp only [List.getElem_toArray, List.getElem_cons_succ, List.getElem_cons_zero, Act.put, List.setIfInBounds_toArray, List.set_cons_zero, List.set_cons_succ]
  refine Any.take (i := 1) (v := ?_) rfl (by kernel_rfl) (by kernel_rfl) (by kernel_rfl) (by kernel_rfl) (fun _ _ _ h => h) (Or.inl ⟨by rfl, ?_⟩) hHeld ?_
  rotate_left
  · intro w hSw
    (try dsimp only at hSw)
    go_simp
    all_goals with_reducible rfl
  try simp only [List.getElem_toArray, List.getElem_cons_succ, List.getElem_cons_zero, Act.put, List.setIfInBounds_toArray, List.set_cons_zero, List.set_cons_succ]
  refine Any.take (i := 2) (v := ?_) rfl (by kernel_rfl) (by kernel_rfl) (by kernel_rfl) (by kernel_rfl) (fun _ _ _ h => h) (Or.inl ⟨by rfl, ?_⟩) hHeld ?_
  rotate_left
  · intro w hSw
    (try dsimp only at hSw)
    go_simp
    all_goals with_reducible rfl
  try simp only [List.getElem_toArray, List.getElem_cons_succ, List.getElem_cons_zero, Act.put, List.setIfInBounds_toArray, List.set_cons_zero, List.set_cons_succ]
  refine Any.take (i := 3) (v := ?_) rfl (by kernel_rfl) (by kernel_rfl) (by kernel_rfl) (by kernel_rfl) (fun _ _ _ h => h) (Or.inl ⟨by rfl, ?_⟩) hHeld ?_
  rotate_left
  · intro w hSw
    (try dsimp only at hSw)
    go_simp
    all_goals with_reducible rfl
  try simp only [List.getElem_toArray, List.getElem_cons_succ, List.getElem_cons_zero, Act.put, List.setIfInBounds_toArray, List.set_cons_zero, List.set_cons_succ]
  refine Any.take (i := 4) (v := ?_) rfl (by kernel_rfl) (by kernel_rfl) (by kernel_rfl) (by kernel_rfl) (fun _ _ _ h => h) (Or.inl ⟨by rfl, ?_⟩) hHeld ?_
  rotate_left
  · intro w hSw
    (try dsimp only at hSw)
    go_simp
    all_goals with_reducible rfl
  try simp only [List.getElem_toArray, List.getElem_cons_succ, List.getElem_cons_zero, Act.put, List.setIfInBounds_toArray, List.set_cons_zero, List.set_cons_succ]
  refine Any.take (i := 5) (v := ?_) rfl (by kernel_rfl) (by kernel_rfl) (by kernel_rfl) (by kernel_rfl) (fun _ _ _ h => h) (Or.inl ⟨by rfl, ?_⟩) hHeld ?_
  rotate_left
  · intro w hSw
    (try dsimp only at hSw)
    go_simp
    all_goals with_reducible rfl
  try simp only [List.getElem_toArray, List.getElem_cons_succ, List.getElem_cons_zero, Act.put, List.setIfInBounds_toArray, List.set_cons_zero, List.set_cons_succ]
  refine Any.take (i := 6) (v := ?_) rfl (by kernel_rfl) (by kernel_rfl) (by kernel_rfl) (by kernel_rfl) (fun _ _ _ h => h) (Or.inl ⟨by rfl, ?_⟩) hHeld ?_
  rotate_left
  · intro w hSw
    (try dsimp only at hSw)
    go_simp
    all_goals with_reducible rfl
  try simp only [List.getElem_toArray, List.getElem_cons_succ, List.getElem_cons_zero, Act.put, List.setIfInBounds_toArray, List.set_cons_zero, List.set_cons_succ]
  refine Any.take (i := 7) (v := ?_) rfl (by kernel_rfl) (by kernel_rfl) (by kernel_rfl) (by kernel_rfl) (fun _ _ _ h => h) (Or.inl ⟨by rfl, ?_⟩) hHeld ?_
  rotate_left
  · intro w hSw
    (try dsimp only at hSw)
    go_simp
    all_goals with_reducible rfl
  try simp only [List.getElem_toArray, List.getElem_cons_succ, List.getElem_cons_zero, Act.put, List.setIfInBounds_toArray, List.set_cons_zero, List.set_cons_succ]
  refine Any.take (i := 8) (v := ?_) rfl (by kernel_rfl) (by kernel_rfl) (by kernel_rfl) (by kernel_rfl) (fun _ _ _ h => h) (Or.inl ⟨by rfl, ?_⟩) hHeld ?_
  rotate_left
  · intro w hSw
    (try dsimp only at hSw)
    go_simp
    all_goals with_reducible rfl
  try simp only [List.getElem_toArray, List.getElem_cons_succ, List.getElem_cons_zero, Act.put, List.setIfInBounds_toArray, List.set_cons_zero, List.set_cons_succ]
  refine Any.take (i := 9) (v := ?_) rfl (by kernel_rfl) (by kernel_rfl) (by kernel_rfl) (by kernel_rfl) (fun _ _ _ h => h) (Or.inl ⟨by rfl, ?_⟩) hHeld ?_
  rotate_left
  · intro w hSw
    (try dsimp only at hSw)
    go_simp
    all_goals with_reducible rfl
  try simp only [List.getElem_toArray, List.getElem_cons_succ, List.getElem_cons_zero, Act.put, List.setIfInBounds_toArray, List.set_cons_zero, List.set_cons_succ]
  refine Any.ready (rs := [10]) (by kernel_rfl) (by simp) ?_
  refine AllAny.cons rfl rfl (fun K hK => ?_) AllAny.nil
  go_simp
  go_at_call 54
  with_reducible refine (with_all m.h m.l i f _ _ _ HA.out).mono ?_
  (try go_split_ands)
  rintro e wa ⟨v1, rfl, ho1, hba⟩
  go_wp2_with fail
  have RV := mkHid (RowOf.rebase (a := w.heap.size) ho1 (Nat.le_refl _))
  clear ho1
  obtain ⟨A1, c1, rfl⟩ := RV.out.len
  replace ZX := mkHid (ZX.out.keep hba)
  replace KB := mkHid (KB.out.step hba)
  replace k0 := keeps hba k0
  replace k2 := keeps hba k2
  have k3 : wa.cell? ⟨gm, 3, none⟩ = some (.int .i64 m.n) := ZX.out.cell 3
  have f2 := ZX.out.frozen 2
  have f3 := ZX.out.frozen 3
  clear hba HA
  refine hK.out _ _ ?_ (fun hHeld => ?_)
  · ((try dsimp only); (try go_split_ands); refine ⟨?_, ?_⟩ <;> with_reducible assumption)
  clear hK K
  try simp only [List.getElem_toArray, List.getElem_cons_succ, List.getElem_cons_zero, Act.put, List.setIfInBounds_toArray, List.set_cons_zero, List.set_cons_succ]
  refine Any.take (i := 11) (v := ?_) rfl (by kernel_rfl) (by kernel_rfl) (by kernel_rfl) (by kernel_rfl) (fun _ _ _ h => h) (Or.inl ⟨by rfl, ?_⟩) hHeld ?_
  rotate_left
  · intro w hSw
    (try dsimp only at hSw)
    go_simp
    all_goals with_reducible rfl
  try simp only [List.getElem_toArray, List.getElem_cons_succ, List.getElem_cons_zero, Act.put, List.setIfInBounds_toArray, List.set_cons_zero, List.set_cons_succ]
  refine Any.take (i := 12) (v := ?_) rfl (by kernel_rfl) (by kernel_rfl) (by kernel_rfl) (by kernel_rfl) (fun _ _ _ h => h) (Or.inl ⟨by rfl, ?_⟩) hHeld ?_
  rotate_left
  · intro w hSw
    (try dsimp only at hSw)
    go_simp
    all_goals with_reducible rfl
  try simp only [List.getElem_toArray, List.getElem_cons_succ, List.getElem_cons_zero, Act.put, List.setIfInBounds_toArray, List.set_cons_zero, List.set_cons_succ]
  refine Any.take (i := 13) (v := ?_) rfl (by kernel_rfl) (by kernel_rfl) (by kernel_rfl) (by kernel_rfl) (fun _ _ _ h => h) (Or.inl ⟨by rfl, ?_⟩) hHeld ?_
  rotate_left
  · intro w hSw
    (try dsimp only at hSw)
    go_simp
    all_goals with_reducible rfl
  try simp only [List.getElem_toArray, List.getElem_cons_succ, List.getElem_cons_zero, Act.put, List.setIfInBounds_toArray, List.set_cons_zero, List.set_cons_succ]
  refine Any.take (i := 14) (v := ?_) rfl (by kernel_rfl) (by kernel_rfl) (by kernel_rfl) (by kernel_rfl) (fun _ _ _ h => h) (Or.inl ⟨by rfl, ?_⟩) hHeld ?_
  rotate_left
  · intro w hSw
    (try dsimp only at hSw)
    go_simp
    all_goals with_reducible rfl
  try simp only [List.getElem_toArray, List.getElem_cons_succ, List.getElem_cons_zero, Act.put, List.setIfInBounds_toArray, List.set_cons_zero, List.set_cons_succ]
  refine Any.take (i := 15) (v := ?_) rfl (by kernel_rfl) (by kernel_rfl) (by kernel_rfl) (by kernel_rfl) (fun _ _ _ h => h) (Or.inl ⟨by rfl, ?_⟩) hHeld ?_
  rotate_left
  · intro w hSw
    (try dsimp only at hSw)
    go_simp
    all_goals with_reducible rfl
  try simp only [List.getElem_toArray, List.getElem_cons_succ, List.getElem_cons_zero, Act.put, List.setIfInBounds_toArray, List.set_cons_zero, List.set_cons_succ]
  refine Any.done (by kernel_rfl) ?_ _
  go_wp2_with fail
  go_ret
  exact ⟨rfl, KB.out⟩

set_option linter.unusedSimpArgs false in
set_option maxRecDepth 100000 in
set_option maxHeartbeats 4000000 in
theorem cw_over {m : ModD} {i : Nat} {L : List Nat} (f : Hid (withAll m.h m.l i = (L, 0))) (hn : m.n = 1099511627776) (gm : Nat) (A : Option Addr) (c : Nat) (B : Option Addr) (d : Nat) (w : World) (hZ : Blk w gm 45 #[.int .i64 m.h, .int .i64 m.cap, .slice A m.l.length c, .int .i64 m.n, .int .i64 m.draws, .slice B m.sent.length d]) (hA : Reads w A m.l) :
    Calls Try.prog 53 #[.pointer (some ⟨gm, 0, none⟩), .int .u64 (i : Int), .func (.func 54) #[] #[], .bool true] w fun e w' => e = .returned (.int .i64 9) ∧ Below w.heap.size w w' := by
  have t0 : (m.n == (1099511627776 : Int)) = true := beq_iff_eq.2 hn
  clear hn
  have ZX : Hid (Blk w.drew gm 45 #[.int .i64 m.h, .int .i64 m.cap, .slice A m.l.length c, .int .i64 m.n, .int .i64 m.draws, .slice B m.sent.length d]) := mkHid hZ
  have HA : Hid (Reads w.drew A m.l) := mkHid hA
  have KB : Hid (Below w.heap.size w w.drew) := mkHid (Below.refl _ _).drew
  have KX : Hid (gm < w.heap.size) := mkHid hZ.lt
  clear hZ hA
  go_enter Try.func53, Try.ntmps53
  go_upto_region 1 with fail
  have k0 : w.drew.cell? ⟨gm, 0, none⟩ = some (.int .i64 m.h) := ZX.out.cell 0
  have k2 : w.drew.cell? ⟨gm, 2, none⟩ = some (.slice A m.l.length c) := ZX.out.cell 2
  refine wp_region_late (late := fun _ => false) (S := fun w' => w'.cell? ⟨gm, 0, none⟩ = some (.int .i64 m.h) ∧ w'.cell? ⟨gm, 2, none⟩ = some (.slice A m.l.length c)) (by kernel_rfl) ?_ (fun hHeld => ?_)
  · ((try dsimp only); (try go_split_ands); refine ⟨?_, ?_⟩ <;> with_reducible assumption)
  refine Any.take (i := 0) (v := ?_) rfl (by kernel_rfl) (by kernel_rfl) (by kernel_rfl) (by kernel_rfl) (fun _ _ _ h => h) (Or.inl ⟨by rfl, ?_⟩) hHeld ?_
  rotate_left
  · intro w hSw
    (try dsimp only at hSw)
    go_simp
    all_goals with_reducible rfl
  try simp only [List.getElem_toArray, List.getElem_cons_succ, List.getElem_cons_zero, Act.put, List.setIfInBounds_toArray, List.set_cons_zero, List.set_cons_succ]
  refine Any.take (i := 1) (v := ?_) rfl (by kernel_rfl) (by kernel_rfl) (by kernel_rfl) (by kernel_rfl) (fun _ _ _ h => h) (Or.inl ⟨by rfl, ?_⟩) hHeld ?_
  rotate_left
  · intro w hSw
    (try dsimp only at hSw)
    go_simp
    all_goals with_reducible rfl
  try simp only [List.getElem_toArray, List.getElem_cons_succ, List.getElem_cons_zero, Act.put, List.setIfInBounds_toArray, List.set_cons_zero, List.set_cons_succ]
  refine Any.take (i := 2) (v := ?_) rfl (by kernel_rfl) (by kernel_rfl) (by kernel_rfl) (by kernel_rfl) (fun _ _ _ h => h) (Or.inl ⟨by rfl, ?_⟩) hHeld ?_
  rotate_left
  · intro w hSw
    (try dsimp only at hSw)
    go_simp
    all_goals with_reducible rfl
  try simp only [List.getElem_toArray, List.getElem_cons_succ, List.getElem_cons_zero, Act.put, List.setIfInBounds_toArray, List.set_cons_zero, List.set_cons_succ]
  refine Any.take (i := 3) (v := ?_) rfl (by kernel_rfl) (by kernel_rfl) (by kernel_rfl) (by kernel_rfl) (fun _ _ _ h => h) (Or.inl ⟨by rfl, ?_⟩) hHeld ?_
  rotate_left
  · intro w hSw
    (try dsimp only at hSw)
    go_simp
    all_goals with_reducible rfl
  try simp only [List.getElem_toArray, List.getElem_cons_succ, List.getElem_cons_zero, Act.put, List.setIfInBounds_toArray, List.set_cons_zero, List.set_cons_succ]
  refine Any.take (i := 4) (v := ?_) rfl (by kernel_rfl) (by kernel_rfl) (by kernel_rfl) (by kernel_rfl) (fun _ _ _ h => h) (Or.inl ⟨by rfl, ?_⟩) hHeld ?_
  rotate_left
  · intro w hSw
    (try dsimp only at hSw)
    go_simp
    all_goals with_reducible rfl
  try simp only [List.getElem_toArray, List.getElem_cons_succ, List.getElem_cons_zero, Act.put, List.setIfInBounds_toArray, List.set_cons_zero, List.set_cons_succ]
  refine Any.take (i := 5) (v := ?_) rfl (by kernel_rfl) (by kernel_rfl) (by kernel_rfl) (by kernel_rfl) (fun _ _ _ h => h) (Or.inl ⟨by rfl, ?_⟩) hHeld ?_
  rotate_left
  · intro w hSw
    (try dsimp only at hSw)
    go_simp
    all_goals with_reducible rfl
  try simp only [List.getElem_toArray, List.getElem_cons_succ, List.getElem_cons_zero, Act.put, List.setIfInBounds_toArray, List.set_cons_zero, List.set_cons_succ]
  refine Any.take (i := 6) (v := ?_) rfl (by kernel_rfl) (by kernel_rfl) (by kernel_rfl) (by kernel_rfl) (fun _ _ _ h => h) (Or.inl ⟨by rfl, ?_⟩) hHeld ?_
  rotate_left
  · intro w hSw
    (try dsimp only at hSw)
    go_simp
    all_goals with_reducible rfl
  try simp only [List.getElem_toArray, List.getElem_cons_succ, List.getElem_cons_zero, Act.put, List.setIfInBounds_toArray, List.set_cons_zero, List.set_cons_succ]
  refine Any.take (i := 7) (v := ?_) rfl (by kernel_rfl) (by kernel_rfl) (by kernel_rfl) (by kernel_rfl) (fun _ _ _ h => h) (Or.inl ⟨by rfl, ?_⟩) hHeld ?_
  rotate_left
  · intro w hSw
    (try dsimp only at hSw)
    go_simp
    all_goals with_reducible rfl
  try simp only [List.getElem_toArray, List.getElem_cons_succ, List.getElem_cons_zero, Act.put, List.setIfInBounds_toArray, List.set_cons_zero, List.set_cons_succ]
  refine Any.take (i := 8) (v := ?_) rfl (by kernel_rfl) (by kernel_rfl) (by kernel_rfl) (by kernel_rfl) (fun _ _ _ h => h) (Or.inl ⟨by rfl, ?_⟩) hHeld ?_
  rotate_left
  · intro w hSw
    (try dsimp only at hSw)
    go_simp
    all_goals with_reducible rfl
  try simp only [List.getElem_toArray, List.getElem_cons_succ, List.getElem_cons_zero, Act.put, List.setIfInBounds_toArray, List.set_cons_zero, List.set_cons_succ]
  refine Any.take (i := 9) (v := ?_) rfl (by kernel_rfl) (by kernel_rfl) (by kernel_rfl) (by kernel_rfl) (fun _ _ _ h => h) (Or.inl ⟨by rfl, ?_⟩) hHeld ?_
  rotate_left
  · intro w hSw
    (try dsimp only at hSw)
    go_simp
    all_goals with_reducible rfl
  try simp only [List.getElem_toArray, List.getElem_cons_succ, List.getElem_cons_zero, Act.put, List.setIfInBounds_toArray, List.set_cons_zero, List.set_cons_succ]
  refine Any.ready (rs := [10]) (by kernel_rfl) (by simp) ?_
  refine AllAny.cons rfl rfl (fun K hK => ?_) AllAny.nil
  go_simp
  go_at_call 54
  with_reducible refine (with_all m.h m.l i f _ _ _ HA.out).mono ?_
  (try go_split_ands)
  rintro e wa ⟨v1, rfl, ho1, hba⟩
  go_wp2_with fail
  have RV := mkHid (RowOf.rebase (a := w.heap.size) ho1 (Nat.le_refl _))
  clear ho1
  obtain ⟨A1, c1, rfl⟩ := RV.out.len
  replace ZX := mkHid (ZX.out.keep hba)
  replace KB := mkHid (KB.out.step hba)
  replace k0 := keeps hba k0
  replace k2 := keeps hba k2
  have k3 : wa.cell? ⟨gm, 3, none⟩ = some (.int .i64 m.n) := ZX.out.cell 3
  have f2 := ZX.out.frozen 2
  have f3 := ZX.out.frozen 3
  clear hba HA
  refine hK.out _ _ ?_ (fun hHeld => ?_)
  · ((try dsimp only); (try go_split_ands); refine ⟨?_, ?_⟩ <;> with_reducible assumption)
  clear hK K
  try simp only [List.getElem_toArray, List.getElem_cons_succ, List.getElem_cons_zero, Act.put, List.setIfInBounds_toArray, List.set_cons_zero, List.set_cons_succ]
  refine Any.take (i := 11) (v := ?_) rfl (by kernel_rfl) (by kernel_rfl) (by kernel_rfl) (by kernel_rfl) (fun _ _ _ h => h) (Or.inl ⟨by rfl, ?_⟩) hHeld ?_
  rotate_left
  · intro w hSw
    (try dsimp only at hSw)
    go_simp
    all_goals with_reducible rfl
  try simp only [List.getElem_toArray, List.getElem_cons_succ, List.getElem_cons_zero, Act.put, List.setIfInBounds_toArray, List.set_cons_zero, List.set_cons_succ]
  refine Any.take (i := 12) (v := ?_) rfl (by kernel_rfl) (by kernel_rfl) (by kernel_rfl) (by kernel_rfl) (fun _ _ _ h => h) (Or.inl ⟨by rfl, ?_⟩) hHeld ?_
  rotate_left
  · intro w hSw
    (try dsimp only at hSw)
    go_simp
    all_goals with_reducible rfl
  try simp only [List.getElem_toArray, List.getElem_cons_succ, List.getElem_cons_zero, Act.put, List.setIfInBounds_toArray, List.set_cons_zero, List.set_cons_succ]
  refine Any.take (i := 13) (v := ?_) rfl (by kernel_rfl) (by kernel_rfl) (by kernel_rfl) (by kernel_rfl) (fun _ _ _ h => h) (Or.inl ⟨by rfl, ?_⟩) hHeld ?_
  rotate_left
  · intro w hSw
    (try dsimp only at hSw)
    go_simp
    all_goals with_reducible rfl
  try simp only [List.getElem_toArray, List.getElem_cons_succ, List.getElem_cons_zero, Act.put, List.setIfInBounds_toArray, List.set_cons_zero, List.set_cons_succ]
  refine Any.take (i := 14) (v := ?_) rfl (by kernel_rfl) (by kernel_rfl) (by kernel_rfl) (by kernel_rfl) (fun _ _ _ h => h) (Or.inl ⟨by rfl, ?_⟩) hHeld ?_
  rotate_left
  · intro w hSw
    (try dsimp only at hSw)
    go_simp
    all_goals with_reducible rfl
  try simp only [List.getElem_toArray, List.getElem_cons_succ, List.getElem_cons_zero, Act.put, List.setIfInBounds_toArray, List.set_cons_zero, List.set_cons_succ]
  refine Any.take (i := 15) (v := ?_) rfl (by kernel_rfl) (by kernel_rfl) (by kernel_rfl) (by kernel_rfl) (fun _ _ _ h => h) (Or.inl ⟨by rfl, ?_⟩) hHeld ?_
  rotate_left
  · intro w hSw
    (try dsimp only at hSw)
    go_simp
    all_goals with_reducible rfl
  try simp only [List.getElem_toArray, List.getElem_cons_succ, List.getElem_cons_zero, Act.put, List.setIfInBounds_toArray, List.set_cons_zero, List.set_cons_succ]
  refine Any.done (by kernel_rfl) ?_ _
  go_wp2_with fail
  go_ret
  exact ⟨rfl, KB.out⟩

set_option linter.unusedSimpArgs false in
set_option maxRecDepth 100000 in
set_option maxHeartbeats 4000000 in
theorem cw_ok {m : ModD} {i : Nat} {L : List Nat} (f : Hid (withAll m.h m.l i = (L, 0))) (hn : m.n ≠ 1099511627776) (n0 : 0 ≤ m.n) (n1 : m.n ≤ 1099511627776) (gm : Nat) (A : Option Addr) (c : Nat) (B : Option Addr) (d : Nat) (w : World) (hZ : Blk w gm 45 #[.int .i64 m.h, .int .i64 m.cap, .slice A m.l.length c, .int .i64 m.n, .int .i64 m.draws, .slice B m.sent.length d]) (hA : Reads w A m.l) :
    Calls Try.prog 53 #[.pointer (some ⟨gm, 0, none⟩), .int .u64 (i : Int), .func (.func 54) #[] #[], .bool true] w fun e w' => ∃ A1 c1, e = .returned (.int .i64 0) ∧ RowOf w' w.heap.size (.slice A1 L.length c1) L ∧ Blk w' gm 45 #[.int .i64 m.h, .int .i64 m.cap, .slice A1 L.length c1, .int .i64 (m.n + 1), .int .i64 m.draws, .slice B m.sent.length d] ∧ w.grownBy w' (some gm) := by
  have t0 : (m.n == (1099511627776 : Int)) = false := beq_eq_false_iff_ne.2 hn
  clear hn
  have ZX : Hid (Blk w.drew gm 45 #[.int .i64 m.h, .int .i64 m.cap, .slice A m.l.length c, .int .i64 m.n, .int .i64 m.draws, .slice B m.sent.length d]) := mkHid hZ
  have HA : Hid (Reads w.drew A m.l) := mkHid hA
  have KB : Hid (Below w.heap.size w w.drew) := mkHid (Below.refl _ _).drew
  have KX : Hid (gm < w.heap.size) := mkHid hZ.lt
  clear hZ hA
  go_enter Try.func53, Try.ntmps53
  go_upto_region 1 with fail
  have k0 : w.drew.cell? ⟨gm, 0, none⟩ = some (.int .i64 m.h) := ZX.out.cell 0
  have k2 : w.drew.cell? ⟨gm, 2, none⟩ = some (.slice A m.l.length c) := ZX.out.cell 2
  refine wp_region_late (late := fun _ => false) (S := fun w' => w'.cell? ⟨gm, 0, none⟩ = some (.int .i64 m.h) ∧ w'.cell? ⟨gm, 2, none⟩ = some (.slice A m.l.length c)) (by kernel_rfl) ?_ (fun hHeld => ?_)
  · ((try dsimp only); (try go_split_ands); refine ⟨?_, ?_⟩ <;> with_reducible assumption)
  refine Any.take (i := 0) (v := ?_) rfl (by kernel_rfl) (by kernel_rfl) (by kernel_rfl) (by kernel_rfl) (fun _ _ _ h => h) (Or.inl ⟨by rfl, ?_⟩) hHeld ?_
  rotate_left
  · intro w hSw
    (try dsimp only at hSw)
    go_simp
    all_goals with_reducible rfl
  try simp only [List.getElem_toArray, List.getElem_cons_succ, List.getElem_cons_zero, Act.put, List.setIfInBounds_toArray, List.set_cons_zero, List.set_cons_succ]
  refine Any.take (i := 1) (v := ?_) rfl (by kernel_rfl) (by kernel_rfl) (by kernel_rfl) (by kernel_rfl) (fun _ _ _ h => h) (Or.inl ⟨by rfl, ?_⟩) hHeld ?_
  rotate_left
  · intro w hSw
    (try dsimp only at hSw)
    go_simp
    all_goals with_reducible rfl
  try simp only [List.getElem_toArray, List.getElem_cons_succ, List.getElem_cons_zero, Act.put, List.setIfInBounds_toArray, List.set_cons_zero, List.set_cons_succ]
  refine Any.take (i := 2) (v := ?_) rfl (by kernel_rfl) (by kernel_rfl) (by kernel_rfl) (by kernel_rfl) (fun _ _ _ h => h) (Or.inl ⟨by rfl, ?_⟩) hHeld ?_
  rotate_left
  · intro w hSw
    (try dsimp only at hSw)
    go_simp
    all_goals with_reducible rfl
  try simp only [List.getElem_toArray, List.getElem_cons_succ, List.getElem_cons_zero, Act.put, List.setIfInBounds_toArray, List.set_cons_zero, List.set_cons_succ]
  refine Any.take (i := 3) (v := ?_) rfl (by kernel_rfl) (by kernel_rfl) (by kernel_rfl) (by kernel_rfl) (fun _ _ _ h => h) (Or.inl ⟨by rfl, ?_⟩) hHeld ?_
  rotate_left
  · intro w hSw
    (try dsimp only at hSw)
    go_simp
    all_goals with_reducible rfl
  try simp only [List.getElem_toArray, List.getElem_cons_succ, List.getElem_cons_zero, Act.put, List.setIfInBounds_toArray, List.set_cons_zero, List.set_cons_succ]
  refine Any.take (i := 4) (v := ?_) rfl (by kernel_rfl) (by kernel_rfl) (by kernel_rfl) (by kernel_rfl) (fun _ _ _ h => h) (Or.inl ⟨by rfl, ?_⟩) hHeld ?_
  rotate_left
  · intro w hSw
    (try dsimp only at hSw)
    go_simp
    all_goals with_reducible rfl
  try simp only [List.getElem_toArray, List.getElem_cons_succ, List.getElem_cons_zero, Act.put, List.setIfInBounds_toArray, List.set_cons_zero, List.set_cons_succ]
  refine Any.take (i := 5) (v := ?_) rfl (by kernel_rfl) (by kernel_rfl) (by kernel_rfl) (by kernel_rfl) (fun _ _ _ h => h) (Or.inl ⟨by rfl, ?_⟩) hHeld ?_
  rotate_left
  · intro w hSw
    (try dsimp only at hSw)
    go_simp
    all_goals with_reducible rfl
  try simp only [List.getElem_toArray, List.getElem_cons_succ, List.getElem_cons_zero, Act.put, List.setIfInBounds_toArray, List.set_cons_zero, List.set_cons_succ]
  refine Any.take (i := 6) (v := ?_) rfl (by kernel_rfl) (by kernel_rfl) (by kernel_rfl) (by kernel_rfl) (fun _ _ _ h => h) (Or.inl ⟨by rfl, ?_⟩) hHeld ?_
  rotate_left
  · intro w hSw
    (try dsimp only at hSw)
    go_simp
    all_goals with_reducible rfl
  try simp only [List.getElem_toArray, List.getElem_cons_succ, List.getElem_cons_zero, Act.put, List.setIfInBounds_toArray, List.set_cons_zero, List.set_cons_succ]
  refine Any.take (i := 7) (v := ?_) rfl (by kernel_rfl) (by kernel_rfl) (by kernel_rfl) (by kernel_rfl) (fun _ _ _ h => h) (Or.inl ⟨by rfl, ?_⟩) hHeld ?_
  rotate_left
  · intro w hSw
    (try dsimp only at hSw)
    go_simp
    all_goals with_reducible rfl
  try simp only [List.getElem_toArray, List.getElem_cons_succ, List.getElem_cons_zero, Act.put, List.setIfInBounds_toArray, List.set_cons_zero, List.set_cons_succ]
  refine Any.take (i := 8) (v := ?_) rfl (by kernel_rfl) (by kernel_rfl) (by kernel_rfl) (by kernel_rfl) (fun _ _ _ h => h) (Or.inl ⟨by rfl, ?_⟩) hHeld ?_
  rotate_left
  · intro w hSw
    (try dsimp only at hSw)
    go_simp
    all_goals with_reducible rfl
  try simp only [List.getElem_toArray, List.getElem_cons_succ, List.getElem_cons_zero, Act.put, List.setIfInBounds_toArray, List.set_cons_zero, List.set_cons_succ]
  refine Any.take (i := 9) (v := ?_) rfl (by kernel_rfl) (by kernel_rfl) (by kernel_rfl) (by kernel_rfl) (fun _ _ _ h => h) (Or.inl ⟨by rfl, ?_⟩) hHeld ?_
  rotate_left
  · intro w hSw
    (try dsimp only at hSw)
    go_simp
    all_goals with_reducible rfl
  try simp only [List.getElem_toArray, List.getElem_cons_succ, List.getElem_cons_zero, Act.put, List.setIfInBounds_toArray, List.set_cons_zero, List.set_cons_succ]
  refine Any.ready (rs := [10]) (by kernel_rfl) (by simp) ?_
  refine AllAny.cons rfl rfl (fun K hK => ?_) AllAny.nil
  go_simp
  go_at_call 54
  with_reducible refine (with_all m.h m.l i f _ _ _ HA.out).mono ?_
  (try go_split_ands)
  rintro e wa ⟨v1, rfl, ho1, hba⟩
  go_wp2_with fail
  have RV := mkHid (RowOf.rebase (a := w.heap.size) ho1 (Nat.le_refl _))
  clear ho1
  obtain ⟨A1, c1, rfl⟩ := RV.out.len
  replace ZX := mkHid (ZX.out.keep hba)
  replace KB := mkHid (KB.out.step hba)
  replace k0 := keeps hba k0
  replace k2 := keeps hba k2
  have k3 : wa.cell? ⟨gm, 3, none⟩ = some (.int .i64 m.n) := ZX.out.cell 3
  have f2 := ZX.out.frozen 2
  have f3 := ZX.out.frozen 3
  clear hba HA
  refine hK.out _ _ ?_ (fun hHeld => ?_)
  · ((try dsimp only); (try go_split_ands); refine ⟨?_, ?_⟩ <;> with_reducible assumption)
  clear hK K
  try simp only [List.getElem_toArray, List.getElem_cons_succ, List.getElem_cons_zero, Act.put, List.setIfInBounds_toArray, List.set_cons_zero, List.set_cons_succ]
  refine Any.take (i := 11) (v := ?_) rfl (by kernel_rfl) (by kernel_rfl) (by kernel_rfl) (by kernel_rfl) (fun _ _ _ h => h) (Or.inl ⟨by rfl, ?_⟩) hHeld ?_
  rotate_left
  · intro w hSw
    (try dsimp only at hSw)
    go_simp
    all_goals with_reducible rfl
  try simp only [List.getElem_toArray, List.getElem_cons_succ, List.getElem_cons_zero, Act.put, List.setIfInBounds_toArray, List.set_cons_zero, List.set_cons_succ]
  refine Any.take (i := 12) (v := ?_) rfl (by kernel_rfl) (by kernel_rfl) (by kernel_rfl) (by kernel_rfl) (fun _ _ _ h => h) (Or.inl ⟨by rfl, ?_⟩) hHeld ?_
  rotate_left
  · intro w hSw
    (try dsimp only at hSw)
    go_simp
    all_goals with_reducible rfl
  try simp only [List.getElem_toArray, List.getElem_cons_succ, List.getElem_cons_zero, Act.put, List.setIfInBounds_toArray, List.set_cons_zero, List.set_cons_succ]
  refine Any.take (i := 13) (v := ?_) rfl (by kernel_rfl) (by kernel_rfl) (by kernel_rfl) (by kernel_rfl) (fun _ _ _ h => h) (Or.inl ⟨by rfl, ?_⟩) hHeld ?_
  rotate_left
  · intro w hSw
    (try dsimp only at hSw)
    go_simp
    all_goals with_reducible rfl
  try simp only [List.getElem_toArray, List.getElem_cons_succ, List.getElem_cons_zero, Act.put, List.setIfInBounds_toArray, List.set_cons_zero, List.set_cons_succ]
  refine Any.take (i := 14) (v := ?_) rfl (by kernel_rfl) (by kernel_rfl) (by kernel_rfl) (by kernel_rfl) (fun _ _ _ h => h) (Or.inl ⟨by rfl, ?_⟩) hHeld ?_
  rotate_left
  · intro w hSw
    (try dsimp only at hSw)
    go_simp
    all_goals with_reducible rfl
  try simp only [List.getElem_toArray, List.getElem_cons_succ, List.getElem_cons_zero, Act.put, List.setIfInBounds_toArray, List.set_cons_zero, List.set_cons_succ]
  refine Any.take (i := 15) (v := ?_) rfl (by kernel_rfl) (by kernel_rfl) (by kernel_rfl) (by kernel_rfl) (fun _ _ _ h => h) (Or.inl ⟨by rfl, ?_⟩) hHeld ?_
  rotate_left
  · intro w hSw
    (try dsimp only at hSw)
    go_simp
    all_goals with_reducible rfl
  try simp only [List.getElem_toArray, List.getElem_cons_succ, List.getElem_cons_zero, Act.put, List.setIfInBounds_toArray, List.set_cons_zero, List.set_cons_succ]
  refine Any.done (by kernel_rfl) ?_ _
  go_wp2_with fail
  go_ret
  exact ⟨A1, c1, rfl, (RV.out.past_own KX.out 2 _).past_own KX.out 3 _, (ZX.out.set 2 _).set 3 _, grown_two (below_grown KB.out)⟩

set_option linter.unusedSimpArgs false in
set_option maxRecDepth 100000 in
set_option maxHeartbeats 4000000 in
theorem co_err_true {m : ModD} {i : Nat} {L : List Nat} {r : Int} (f : Hid (withoutAll m.h m.l i = (L, r))) (r0 : r ≠ 0) (r6 : r ≠ 6) (gm : Nat) (A : Option Addr) (c : Nat) (B : Option Addr) (d : Nat) (w : World) (hZ : Blk w gm 45 #[.int .i64 m.h, .int .i64 m.cap, .slice A m.l.length c, .int .i64 m.n, .int .i64 m.draws, .slice B m.sent.length d]) (hA : Reads w A m.l) :
    Calls Try.prog 53 #[.pointer (some ⟨gm, 0, none⟩), .int .u64 (i : Int), .func (.func 55) #[] #[], .bool true] w fun e w' => e = .returned (.int .i64 r) ∧ Below w.heap.size w w' := by
  have t0 : (r != (0 : Int)) = true := bne_iff_ne.2 r0
  have t1 : (r != (6 : Int)) = true := bne_iff_ne.2 r6
  clear r0 r6
  have ZX : Hid (Blk w.drew gm 45 #[.int .i64 m.h, .int .i64 m.cap, .slice A m.l.length c, .int .i64 m.n, .int .i64 m.draws, .slice B m.sent.length d]) := mkHid hZ
  have HA : Hid (Reads w.drew A m.l) := mkHid hA
  have KB : Hid (Below w.heap.size w w.drew) := mkHid (Below.refl _ _).drew
  have KX : Hid (gm < w.heap.size) := mkHid hZ.lt
  clear hZ hA
  go_enter Try.func53, Try.ntmps53
  go_upto_region 1 with fail
  have k0 : w.drew.cell? ⟨gm, 0, none⟩ = some (.int .i64 m.h) := ZX.out.cell 0
  have k2 : w.drew.cell? ⟨gm, 2, none⟩ = some (.slice A m.l.length c) := ZX.out.cell 2
  refine wp_region_late (late := fun _ => false) (S := fun w' => w'.cell? ⟨gm, 0, none⟩ = some (.int .i64 m.h) ∧ w'.cell? ⟨gm, 2, none⟩ = some (.slice A m.l.length c)) (by kernel_rfl) ?_ (fun hHeld => ?_)
  · ((try dsimp only); (try go_split_ands); refine ⟨?_, ?_⟩ <;> with_reducible assumption)
  refine Any.take (i := 0) (v := ?_) rfl (by kernel_rfl) (by kernel_rfl) (by kernel_rfl) (by kernel_rfl) (fun _ _ _ h => h) (Or.inl ⟨by rfl, ?_⟩) hHeld ?_
  rotate_left
  · intro w hSw
    (try dsimp only at hSw)
    go_simp
    all_goals with_reducible rfl
  try simp only [List.getElem_toArray, List.getElem_cons_succ, List.getElem_cons_zero, Act.put, List.setIfInBounds_toArray, List.set_cons_zero, List.set_cons_succ]
  refine Any.take (i := 1) (v := ?_) rfl (by kernel_rfl) (by kernel_rfl) (by kernel_rfl) (by kernel_rfl) (fun _ _ _ h => h) (Or.inl ⟨by rfl, ?_⟩) hHeld ?_
  rotate_left
  · intro w hSw
    (try dsimp only at hSw)
    go_simp
    all_goals with_reducible rfl
  try simp only [List.getElem_toArray, List.getElem_cons_succ, List.getElem_cons_zero, Act.put, List.setIfInBounds_toArray, List.set_cons_zero, List.set_cons_succ]
  refine Any.take (i := 2) (v := ?_) rfl (by kernel_rfl) (by kernel_rfl) (by kernel_rfl) (by kernel_rfl) (fun _ _ _ h => h) (Or.inl ⟨by rfl, ?_⟩) hHeld ?_
  rotate_left
  · intro w hSw
    (try dsimp only at hSw)
    go_simp
    all_goals with_reducible rfl
  try simp only [List.getElem_toArray, List.getElem_cons_succ, List.getElem_cons_zero, Act.put, List.setIfInBounds_toArray, List.set_cons_zero, List.set_cons_succ]
  refine Any.take (i := 3) (v := ?_) rfl (by kernel_rfl) (by kernel_rfl) (by kernel_rfl) (by kernel_rfl) (fun _ _ _ h => h) (Or.inl ⟨by rfl, ?_⟩) hHeld ?_
  rotate_left
  · intro w hSw
    (try dsimp only at hSw)
    go_simp
    all_goals with_reducible rfl
  try simp only [List.getElem_toArray, List.getElem_cons_succ, List.getElem_cons_zero, Act.put, List.setIfInBounds_toArray, List.set_cons_zero, List.set_cons_succ]
  refine Any.take (i := 4) (v := ?_) rfl (by kernel_rfl) (by kernel_rfl) (by kernel_rfl) (by kernel_rfl) (fun _ _ _ h => h) (Or.inl ⟨by rfl, ?_⟩) hHeld ?_
  rotate_left
  · intro w hSw
    (try dsimp only at hSw)
    go_simp
    all_goals with_reducible rfl
  try simp only [List.getElem_toArray, List.getElem_cons_succ, List.getElem_cons_zero, Act.put, List.setIfInBounds_toArray, List.set_cons_zero, List.set_cons_succ]
  refine Any.take (i := 5) (v := ?_) rfl (by kernel_rfl) (by kernel_rfl) (by kernel_rfl) (by kernel_rfl) (fun _ _ _ h => h) (Or.inl ⟨by rfl, ?_⟩) hHeld ?_
  rotate_left
  · intro w hSw
    (try dsimp only at hSw)
    go_simp
    all_goals with_reducible rfl
  try simp only [List.getElem_toArray, List.getElem_cons_succ, List.getElem_cons_zero, Act.put, List.setIfInBounds_toArray, List.set_cons_zero, List.set_cons_succ]
  refine Any.take (i := 6) (v := ?_) rfl (by kernel_rfl) (by kernel_rfl) (by kernel_rfl) (by kernel_rfl) (fun _ _ _ h => h) (Or.inl ⟨by rfl, ?_⟩) hHeld ?_
  rotate_left
  · intro w hSw
    (try dsimp only at hSw)
    go_simp
    all_goals with_reducible rfl
  try simp only [List.getElem_toArray, List.getElem_cons_succ, List.getElem_cons_zero, Act.put, List.setIfInBounds_toArray, List.set_cons_zero, List.set_cons_succ]
  refine Any.take (i := 7) (v := ?_) rfl (by kernel_rfl) (by kernel_rfl) (by kernel_rfl) (by kernel_rfl) (fun _ _ _ h => h) (Or.inl ⟨by rfl, ?_⟩) hHeld ?_
  rotate_left
  · intro w hSw
    (try dsimp only at hSw)
    go_simp
    all_goals with_reducible rfl
  try simp only [List.getElem_toArray, List.getElem_cons_succ, List.getElem_cons_zero, Act.put, List.setIfInBounds_toArray, List.set_cons_zero, List.set_cons_succ]
  refine Any.take (i := 8) (v := ?_) rfl (by kernel_rfl) (by kernel_rfl) (by kernel_rfl) (by kernel_rfl) (fun _ _ _ h => h) (Or.inl ⟨by rfl, ?_⟩) hHeld ?_
  rotate_left
  · intro w hSw
    (try dsimp only at hSw)
    go_simp
    all_goals with_reducible rfl
  try simp only [List.getElem_toArray, List.getElem_cons_succ, List.getElem_cons_zero, Act.put, List.setIfInBounds_toArray, List.set_cons_zero, List.set_cons_succ]
  refine Any.take (i := 9) (v := ?_) rfl (by kernel_rfl) (by kernel_rfl) (by kernel_rfl) (by kernel_rfl) (fun _ _ _ h => h) (Or.inl ⟨by rfl, ?_⟩) hHeld ?_
  rotate_left
  · intro w hSw
    (try dsimp only at hSw)
    go_simp
    all_goals with_reducible rfl
  try simp only [List.getElem_toArray, List.getElem_cons_succ, List.getElem_cons_zero, Act.put, List.setIfInBounds_toArray, List.set_cons_zero, List.set_cons_succ]
  refine Any.ready (rs := [10]) (by kernel_rfl) (by simp) ?_
  refine AllAny.cons rfl rfl (fun K hK => ?_) AllAny.nil
  go_simp
  go_at_call 55
  with_reducible refine (without_all m.h m.l i f _ _ _ HA.out).mono ?_
  (try go_split_ands)
  rintro e wa ⟨v1, rfl, ho1, hba⟩
  go_wp2_with fail
  have RV := mkHid (RowOf.rebase (a := w.heap.size) ho1 (Nat.le_refl _))
  clear ho1
  obtain ⟨A1, c1, rfl⟩ := RV.out.len
  replace ZX := mkHid (ZX.out.keep hba)
  replace KB := mkHid (KB.out.step hba)
  replace k0 := keeps hba k0
  replace k2 := keeps hba k2
  have k3 : wa.cell? ⟨gm, 3, none⟩ = some (.int .i64 m.n) := ZX.out.cell 3
  have f2 := ZX.out.frozen 2
  have f3 := ZX.out.frozen 3
  clear hba HA
  refine hK.out _ _ ?_ (fun hHeld => ?_)
  · ((try dsimp only); (try go_split_ands); refine ⟨?_, ?_⟩ <;> with_reducible assumption)
  clear hK K
  try simp only [List.getElem_toArray, List.getElem_cons_succ, List.getElem_cons_zero, Act.put, List.setIfInBounds_toArray, List.set_cons_zero, List.set_cons_succ]
  refine Any.take (i := 11) (v := ?_) rfl (by kernel_rfl) (by kernel_rfl) (by kernel_rfl) (by kernel_rfl) (fun _ _ _ h => h) (Or.inl ⟨by rfl, ?_⟩) hHeld ?_
  rotate_left
  · intro w hSw
    (try dsimp only at hSw)
    go_simp
    all_goals with_reducible rfl
  try simp only [List.getElem_toArray, List.getElem_cons_succ, List.getElem_cons_zero, Act.put, List.setIfInBounds_toArray, List.set_cons_zero, List.set_cons_succ]
  refine Any.take (i := 12) (v := ?_) rfl (by kernel_rfl) (by kernel_rfl) (by kernel_rfl) (by kernel_rfl) (fun _ _ _ h => h) (Or.inl ⟨by rfl, ?_⟩) hHeld ?_
  rotate_left
  · intro w hSw
    (try dsimp only at hSw)
    go_simp
    all_goals with_reducible rfl
  try simp only [List.getElem_toArray, List.getElem_cons_succ, List.getElem_cons_zero, Act.put, List.setIfInBounds_toArray, List.set_cons_zero, List.set_cons_succ]
  refine Any.take (i := 13) (v := ?_) rfl (by kernel_rfl) (by kernel_rfl) (by kernel_rfl) (by kernel_rfl) (fun _ _ _ h => h) (Or.inl ⟨by rfl, ?_⟩) hHeld ?_
  rotate_left
  · intro w hSw
    (try dsimp only at hSw)
    go_simp
    all_goals with_reducible rfl
  try simp only [List.getElem_toArray, List.getElem_cons_succ, List.getElem_cons_zero, Act.put, List.setIfInBounds_toArray, List.set_cons_zero, List.set_cons_succ]
  refine Any.take (i := 14) (v := ?_) rfl (by kernel_rfl) (by kernel_rfl) (by kernel_rfl) (by kernel_rfl) (fun _ _ _ h => h) (Or.inl ⟨by rfl, ?_⟩) hHeld ?_
  rotate_left
  · intro w hSw
    (try dsimp only at hSw)
    go_simp
    all_goals with_reducible rfl
  try simp only [List.getElem_toArray, List.getElem_cons_succ, List.getElem_cons_zero, Act.put, List.setIfInBounds_toArray, List.set_cons_zero, List.set_cons_succ]
  refine Any.take (i := 15) (v := ?_) rfl (by kernel_rfl) (by kernel_rfl) (by kernel_rfl) (by kernel_rfl) (fun _ _ _ h => h) (Or.inl ⟨by rfl, ?_⟩) hHeld ?_
  rotate_left
  · intro w hSw
    (try dsimp only at hSw)
    go_simp
    all_goals with_reducible rfl
  try simp only [List.getElem_toArray, List.getElem_cons_succ, List.getElem_cons_zero, Act.put, List.setIfInBounds_toArray, List.set_cons_zero, List.set_cons_succ]
  refine Any.done (by kernel_rfl) ?_ _
  go_wp2_with fail
  go_ret
  exact ⟨rfl, KB.out⟩

set_option linter.unusedSimpArgs false in
set_option maxRecDepth 100000 in
set_option maxHeartbeats 4000000 in
theorem co_over {m : ModD} {i : Nat} {L : List Nat} (f : Hid (withoutAll m.h m.l i = (L, 0))) (hn : m.n = 1099511627776) (gm : Nat) (A : Option Addr) (c : Nat) (B : Option Addr) (d : Nat) (w : World) (hZ : Blk w gm 45 #[.int .i64 m.h, .int .i64 m.cap, .slice A m.l.length c, .int .i64 m.n, .int .i64 m.draws, .slice B m.sent.length d]) (hA : Reads w A m.l) :
    Calls Try.prog 53 #[.pointer (some ⟨gm, 0, none⟩), .int .u64 (i : Int), .func (.func 55) #[] #[], .bool true] w fun e w' => e = .returned (.int .i64 9) ∧ Below w.heap.size w w' := by
  have t0 : (m.n == (1099511627776 : Int)) = true := beq_iff_eq.2 hn
  clear hn
  have ZX : Hid (Blk w.drew gm 45 #[.int .i64 m.h, .int .i64 m.cap, .slice A m.l.length c, .int .i64 m.n, .int .i64 m.draws, .slice B m.sent.length d]) := mkHid hZ
  have HA : Hid (Reads w.drew A m.l) := mkHid hA
  have KB : Hid (Below w.heap.size w w.drew) := mkHid (Below.refl _ _).drew
  have KX : Hid (gm < w.heap.size) := mkHid hZ.lt
  clear hZ hA
  go_enter Try.func53, Try.ntmps53
  go_upto_region 1 with fail
  have k0 : w.drew.cell? ⟨gm, 0, none⟩ = some (.int .i64 m.h) := ZX.out.cell 0
  have k2 : w.drew.cell? ⟨gm, 2, none⟩ = some (.slice A m.l.length c) := ZX.out.cell 2
  refine wp_region_late (late := fun _ => false) (S := fun w' => w'.cell? ⟨gm, 0, none⟩ = some (.int .i64 m.h) ∧ w'.cell? ⟨gm, 2, none⟩ = some (.slice A m.l.length c)) (by kernel_rfl) ?_ (fun hHeld => ?_)
  · ((try dsimp only); (try go_split_ands); refine ⟨?_, ?_⟩ <;> with_reducible assumption)
  refine Any.take (i := 0) (v := ?_) rfl (by kernel_rfl) (by kernel_rfl) (by kernel_rfl) (by kernel_rfl) (fun _ _ _ h => h) (Or.inl ⟨by rfl, ?_⟩) hHeld ?_
  rotate_left
  · intro w hSw
    (try dsimp only at hSw)
    go_simp
    all_goals with_reducible rfl
  try simp only [List.getElem_toArray, List.getElem_cons_succ, List.getElem_cons_zero, Act.put, List.setIfInBounds_toArray, List.set_cons_zero, List.set_cons_succ]
  refine Any.take (i := 1) (v := ?_) rfl (by kernel_rfl) (by kernel_rfl) (by kernel_rfl) (by kernel_rfl) (fun _ _ _ h => h) (Or.inl ⟨by rfl, ?_⟩) hHeld ?_
  rotate_left
  · intro w hSw
    (try dsimp only at hSw)
    go_simp
    all_goals with_reducible rfl
  try simp only [List.getElem_toArray, List.getElem_cons_succ, List.getElem_cons_zero, Act.put, List.setIfInBounds_toArray, List.set_cons_zero, List.set_cons_succ]
  refine Any.take (i := 2) (v := ?_) rfl (by kernel_rfl) (by kernel_rfl) (by kernel_rfl) (by kernel_rfl) (fun _ _ _ h => h) (Or.inl ⟨by rfl, ?_⟩) hHeld ?_
  rotate_left
  · intro w hSw
    (try dsimp only at hSw)
    go_simp
    all_goals with_reducible rfl
  try simp only [List.getElem_toArray, List.getElem_cons_succ, List.getElem_cons_zero, Act.put, List.setIfInBounds_toArray, List.set_cons_zero, List.set_cons_succ]
  refine Any.take (i := 3) (v := ?_) rfl (by kernel_rfl) (by kernel_rfl) (by kernel_rfl) (by kernel_rfl) (fun _ _ _ h => h) (Or.inl ⟨by rfl, ?_⟩) hHeld ?_
  rotate_left
  · intro w hSw
    (try dsimp only at hSw)
    go_simp
    all_goals with_reducible rfl
  try simp only [List.getElem_toArray, List.getElem_cons_succ, List.getElem_cons_zero, Act.put, List.setIfInBounds_toArray, List.set_cons_zero, List.set_cons_succ]
  refine Any.take (i := 4) (v := ?_) rfl (by kernel_rfl) (by kernel_rfl) (by kernel_rfl) (by kernel_rfl) (fun _ _ _ h => h) (Or.inl ⟨by rfl, ?_⟩) hHeld ?_
  rotate_left
  · intro w hSw
    (try dsimp only at hSw)
    go_simp
    all_goals with_reducible rfl
  try simp only [List.getElem_toArray, List.getElem_cons_succ, List.getElem_cons_zero, Act.put, List.setIfInBounds_toArray, List.set_cons_zero, List.set_cons_succ]
  refine Any.take (i := 5) (v := ?_) rfl (by kernel_rfl) (by kernel_rfl) (by kernel_rfl) (by kernel_rfl) (fun _ _ _ h => h) (Or.inl ⟨by rfl, ?_⟩) hHeld ?_
  rotate_left
  · intro w hSw
    (try dsimp only at hSw)
    go_simp
    all_goals with_reducible rfl
  try simp only [List.getElem_toArray, List.getElem_cons_succ, List.getElem_cons_zero, Act.put, List.setIfInBounds_toArray, List.set_cons_zero, List.set_cons_succ]
  refine Any.take (i := 6) (v := ?_) rfl (by kernel_rfl) (by kernel_rfl) (by kernel_rfl) (by kernel_rfl) (fun _ _ _ h => h) (Or.inl ⟨by rfl, ?_⟩) hHeld ?_
  rotate_left
  · intro w hSw
    (try dsimp only at hSw)
    go_simp
    all_goals with_reducible rfl
  try simp only [List.getElem_toArray, List.getElem_cons_succ, List.getElem_cons_zero, Act.put, List.setIfInBounds_toArray, List.set_cons_zero, List.set_cons_succ]
  refine Any.take (i := 7) (v := ?_) rfl (by kernel_rfl) (by kernel_rfl) (by kernel_rfl) (by kernel_rfl) (fun _ _ _ h => h) (Or.inl ⟨by rfl, ?_⟩) hHeld ?_
  rotate_left
  · intro w hSw
    (try dsimp only at hSw)
    go_simp
    all_goals with_reducible rfl
  try simp only [List.getElem_toArray, List.getElem_cons_succ, List.getElem_cons_zero, Act.put, List.setIfInBounds_toArray, List.set_cons_zero, List.set_cons_succ]
  refine Any.take (i := 8) (v := ?_) rfl (by kernel_rfl) (by kernel_rfl) (by kernel_rfl) (by kernel_rfl) (fun _ _ _ h => h) (Or.inl ⟨by rfl, ?_⟩) hHeld ?_
  rotate_left
  · intro w hSw
    (try dsimp only at hSw)
    go_simp
    all_goals with_reducible rfl
  try simp only [List.getElem_toArray, List.getElem_cons_succ, List.getElem_cons_zero, Act.put, List.setIfInBounds_toArray, List.set_cons_zero, List.set_cons_succ]
  refine Any.take (i := 9) (v := ?_) rfl (by kernel_rfl) (by kernel_rfl) (by kernel_rfl) (by kernel_rfl) (fun _ _ _ h => h) (Or.inl ⟨by rfl, ?_⟩) hHeld ?_
  rotate_left
  · intro w hSw
    (try dsimp only at hSw)
    go_simp
    all_goals with_reducible rfl
  try simp only [List.getElem_toArray, List.getElem_cons_succ, List.getElem_cons_zero, Act.put, List.setIfInBounds_toArray, List.set_cons_zero, List.set_cons_succ]
  refine Any.ready (rs := [10]) (by kernel_rfl) (by simp) ?_
  refine AllAny.cons rfl rfl (fun K hK => ?_) AllAny.nil
  go_simp
  go_at_call 55
  with_reducible refine (without_all m.h m.l i f _ _ _ HA.out).mono ?_
  (try go_split_ands)
  rintro e wa ⟨v1, rfl, ho1, hba⟩
  go_wp2_with fail
  have RV := mkHid (RowOf.rebase (a := w.heap.size) ho1 (Nat.le_refl _))
  clear ho1
  obtain ⟨A1, c1, rfl⟩ := RV.out.len
  replace ZX := mkHid (ZX.out.keep hba)
  replace KB := mkHid (KB.out.step hba)
  replace k0 := keeps hba k0
  replace k2 := keeps hba k2
  have k3 : wa.cell? ⟨gm, 3, none⟩ = some (.int .i64 m.n) := ZX.out.cell 3
  have f2 := ZX.out.frozen 2
  have f3 := ZX.out.frozen 3
  clear hba HA
  refine hK.out _ _ ?_ (fun hHeld => ?_)
  · ((try dsimp only); (try go_split_ands); refine ⟨?_, ?_⟩ <;> with_reducible assumption)
  clear hK K
  try simp only [List.getElem_toArray, List.getElem_cons_succ, List.getElem_cons_zero, Act.put, List.setIfInBounds_toArray, List.set_cons_zero, List.set_cons_succ]
  refine Any.take (i := 11) (v := ?_) rfl (by kernel_rfl) (by kernel_rfl) (by kernel_rfl) (by kernel_rfl) (fun _ _ _ h => h) (Or.inl ⟨by rfl, ?_⟩) hHeld ?_
  rotate_left
  · intro w hSw
    (try dsimp only at hSw)
    go_simp
    all_goals with_reducible rfl
  try simp only [List.getElem_toArray, List.getElem_cons_succ, List.getElem_cons_zero, Act.put, List.setIfInBounds_toArray, List.set_cons_zero, List.set_cons_succ]
  refine Any.take (i := 12) (v := ?_) rfl (by kernel_rfl) (by kernel_rfl) (by kernel_rfl) (by kernel_rfl) (fun _ _ _ h => h) (Or.inl ⟨by rfl, ?_⟩) hHeld ?_
  rotate_left
  · intro w hSw
    (try dsimp only at hSw)
    go_simp
    all_goals with_reducible rfl
  try simp only [List.getElem_toArray, List.getElem_cons_succ, List.getElem_cons_zero, Act.put, List.setIfInBounds_toArray, List.set_cons_zero, List.set_cons_succ]
  refine Any.take (i := 13) (v := ?_) rfl (by kernel_rfl) (by kernel_rfl) (by kernel_rfl) (by kernel_rfl) (fun _ _ _ h => h) (Or.inl ⟨by rfl, ?_⟩) hHeld ?_
  rotate_left
  · intro w hSw
    (try dsimp only at hSw)
    go_simp
    all_goals with_reducible rfl
  try simp only [List.getElem_toArray, List.getElem_cons_succ, List.getElem_cons_zero, Act.put, List.setIfInBounds_toArray, List.set_cons_zero, List.set_cons_succ]
  refine Any.take (i := 14) (v := ?_) rfl (by kernel_rfl) (by kernel_rfl) (by kernel_rfl) (by kernel_rfl) (fun _ _ _ h => h) (Or.inl ⟨by rfl, ?_⟩) hHeld ?_
  rotate_left
  · intro w hSw
    (try dsimp only at hSw)
    go_simp
    all_goals with_reducible rfl
  try simp only [List.getElem_toArray, List.getElem_cons_succ, List.getElem_cons_zero, Act.put, List.setIfInBounds_toArray, List.set_cons_zero, List.set_cons_succ]
  refine Any.take (i := 15) (v := ?_) rfl (by kernel_rfl) (by kernel_rfl) (by kernel_rfl) (by kernel_rfl) (fun _ _ _ h => h) (Or.inl ⟨by rfl, ?_⟩) hHeld ?_
  rotate_left
  · intro w hSw
    (try dsimp only at hSw)
    go_simp
    all_goals with_reducible rfl
  try simp only [List.getElem_toArray, List.getElem_cons_succ, List.getElem_cons_zero, Act.put, List.setIfInBounds_toArray, List.set_cons_zero, List.set_cons_succ]
  refine Any.done (by kernel_rfl) ?_ _
  go_wp2_with fail
  go_ret
  exact ⟨rfl, KB.out⟩

set_option linter.unusedSimpArgs false in
set_option maxRecDepth 100000 in
set_option maxHeartbeats 4000000 in
theorem co_ok {m : ModD} {i : Nat} {L : List Nat} (f : Hid (withoutAll m.h m.l i = (L, 0))) (hn : m.n ≠ 1099511627776) (n0 : 0 ≤ m.n) (n1 : m.n ≤ 1099511627776) (gm : Nat) (A : Option Addr) (c : Nat) (B : Option Addr) (d : Nat) (w : World) (hZ : Blk w gm 45 #[.int .i64 m.h, .int .i64 m.cap, .slice A m.l.length c, .int .i64 m.n, .int .i64 m.draws, .slice B m.sent.length d]) (hA : Reads w A m.l) :
    Calls Try.prog 53 #[.pointer (some ⟨gm, 0, none⟩), .int .u64 (i : Int), .func (.func 55) #[] #[], .bool true] w fun e w' => ∃ A1 c1, e = .returned (.int .i64 0) ∧ RowOf w' w.heap.size (.slice A1 L.length c1) L ∧ Blk w' gm 45 #[.int .i64 m.h, .int .i64 m.cap, .slice A1 L.length c1, .int .i64 (m.n + 1), .int .i64 m.draws, .slice B m.sent.length d] ∧ w.grownBy w' (some gm) := by
  have t0 : (m.n == (1099511627776 : Int)) = false := beq_eq_false_iff_ne.2 hn
  clear hn
  have ZX : Hid (Blk w.drew gm 45 #[.int .i64 m.h, .int .i64 m.cap, .slice A m.l.length c, .int .i64 m.n, .int .i64 m.draws, .slice B m.sent.length d]) := mkHid hZ
  have HA : Hid (Reads w.drew A m.l) := mkHid hA
  have KB : Hid (Below w.heap.size w w.drew) := mkHid (Below.refl _ _).drew
  have KX : Hid (gm < w.heap.size) := mkHid hZ.lt
  clear hZ hA
  go_enter Try.func53, Try.ntmps53
  go_upto_region 1 with fail
  have k0 : w.drew.cell? ⟨gm, 0, none⟩ = some (.int .i64 m.h) := ZX.out.cell 0
  have k2 : w.drew.cell? ⟨gm, 2, none⟩ = some (.slice A m.l.length c) := ZX.out.cell 2
  refine wp_region_late (late := fun _ => false) (S := fun w' => w'.cell? ⟨gm, 0, none⟩ = some (.int .i64 m.h) ∧ w'.cell? ⟨gm, 2, none⟩ = some (.slice A m.l.length c)) (by kernel_rfl) ?_ (fun hHeld => ?_)
  · ((try dsimp only); (try go_split_ands); refine ⟨?_, ?_⟩ <;> with_reducible assumption)
  refine Any.take (i := 0) (v := ?_) rfl (by kernel_rfl) (by kernel_rfl) (by kernel_rfl) (by kernel_rfl) (fun _ _ _ h => h) (Or.inl ⟨by rfl, ?_⟩) hHeld ?_
  rotate_left
  · intro w hSw
    (try dsimp only at hSw)
    go_simp
    all_goals with_reducible rfl
  try simp only [List.getElem_toArray, List.getElem_cons_succ, List.getElem_cons_zero, Act.put, List.setIfInBounds_toArray, List.set_cons_zero, List.set_cons_succ]
  refine Any.take (i := 1) (v := ?_) rfl (by kernel_rfl) (by kernel_rfl) (by kernel_rfl) (by kernel_rfl) (fun _ _ _ h => h) (Or.inl ⟨by rfl, ?_⟩) hHeld ?_
  rotate_left
  · intro w hSw
    (try dsimp only at hSw)
    go_simp
    all_goals with_reducible rfl
  try simp only [List.getElem_toArray, List.getElem_cons_succ, List.getElem_cons_zero, Act.put, List.setIfInBounds_toArray, List.set_cons_zero, List.set_cons_succ]
  refine Any.take (i := 2) (v := ?_) rfl (by kernel_rfl) (by kernel_rfl) (by kernel_rfl) (by kernel_rfl) (fun _ _ _ h => h) (Or.inl ⟨by rfl, ?_⟩) hHeld ?_
  rotate_left
  · intro w hSw
    (try dsimp only at hSw)
    go_simp
    all_goals with_reducible rfl
  try simp only [List.getElem_toArray, List.getElem_cons_succ, List.getElem_cons_zero, Act.put, List.setIfInBounds_toArray, List.set_cons_zero, List.set_cons_succ]
  refine Any.take (i := 3) (v := ?_) rfl (by kernel_rfl) (by kernel_rfl) (by kernel_rfl) (by kernel_rfl) (fun _ _ _ h => h) (Or.inl ⟨by rfl, ?_⟩) hHeld ?_
  rotate_left
  · intro w hSw
    (try dsimp only at hSw)
    go_simp
    all_goals with_reducible rfl
  try simp only [List.getElem_toArray, List.getElem_cons_succ, List.getElem_cons_zero, Act.put, List.setIfInBounds_toArray, List.set_cons_zero, List.set_cons_succ]
  refine Any.take (i := 4) (v := ?_) rfl (by kernel_rfl) (by kernel_rfl) (by kernel_rfl) (by kernel_rfl) (fun _ _ _ h => h) (Or.inl ⟨by rfl, ?_⟩) hHeld ?_
  rotate_left
  · intro w hSw
    (try dsimp only at hSw)
    go_simp
    all_goals with_reducible rfl
  try simp only [List.getElem_toArray, List.getElem_cons_succ, List.getElem_cons_zero, Act.put, List.setIfInBounds_toArray, List.set_cons_zero, List.set_cons_succ]
  refine Any.take (i := 5) (v := ?_) rfl (by kernel_rfl) (by kernel_rfl) (by kernel_rfl) (by kernel_rfl) (fun _ _ _ h => h) (Or.inl ⟨by rfl, ?_⟩) hHeld ?_
  rotate_left
  · intro w hSw
    (try dsimp only at hSw)
    go_simp
    all_goals with_reducible rfl
  try simp only [List.getElem_toArray, List.getElem_cons_succ, List.getElem_cons_zero, Act.put, List.setIfInBounds_toArray, List.set_cons_zero, List.set_cons_succ]
  refine Any.take (i := 6) (v := ?_) rfl (by kernel_rfl) (by kernel_rfl) (by kernel_rfl) (by kernel_rfl) (fun _ _ _ h => h) (Or.inl ⟨by rfl, ?_⟩) hHeld ?_
  rotate_left
  · intro w hSw
    (try dsimp only at hSw)
    go_simp
    all_goals with_reducible rfl
  try simp only [List.getElem_toArray, List.getElem_cons_succ, List.getElem_cons_zero, Act.put, List.setIfInBounds_toArray, List.set_cons_zero, List.set_cons_succ]
  refine Any.take (i := 7) (v := ?_) rfl (by kernel_rfl) (by kernel_rfl) (by kernel_rfl) (by kernel_rfl) (fun _ _ _ h => h) (Or.inl ⟨by rfl, ?_⟩) hHeld ?_
  rotate_left
  · intro w hSw
    (try dsimp only at hSw)
    go_simp
    all_goals with_reducible rfl
  try simp only [List.getElem_toArray, List.getElem_cons_succ, List.getElem_cons_zero, Act.put, List.setIfInBounds_toArray, List.set_cons_zero, List.set_cons_succ]
  refine Any.take (i := 8) (v := ?_) rfl (by kernel_rfl) (by kernel_rfl) (by kernel_rfl) (by kernel_rfl) (fun _ _ _ h => h) (Or.inl ⟨by rfl, ?_⟩) hHeld ?_
  rotate_left
  · intro w hSw
    (try dsimp only at hSw)
    go_simp
    all_goals with_reducible rfl
  try simp only [List.getElem_toArray, List.getElem_cons_succ, List.getElem_cons_zero, Act.put, List.setIfInBounds_toArray, List.set_cons_zero, List.set_cons_succ]
  refine Any.take (i := 9) (v := ?_) rfl (by kernel_rfl) (by kernel_rfl) (by kernel_rfl) (by kernel_rfl) (fun _ _ _ h => h) (Or.inl ⟨by rfl, ?_⟩) hHeld ?_
  rotate_left
  · intro w hSw
    (try dsimp only at hSw)
    go_simp
    all_goals with_reducible rfl
  try simp only [List.getElem_toArray, List.getElem_cons_succ, List.getElem_cons_zero, Act.put, List.setIfInBounds_toArray, List.set_cons_zero, List.set_cons_succ]
  refine Any.ready (rs := [10]) (by kernel_rfl) (by simp) ?_
  refine AllAny.cons rfl rfl (fun K hK => ?_) AllAny.nil
  go_simp
  go_at_call 55
  with_reducible refine (without_all m.h m.l i f _ _ _ HA.out).mono ?_
  (try go_split_ands)
  rintro e wa ⟨v1, rfl, ho1, hba⟩
  go_wp2_with fail
  have RV := mkHid (RowOf.rebase (a := w.heap.size) ho1 (Nat.le_refl _))
  clear ho1
  obtain ⟨A1, c1, rfl⟩ := RV.out.len
  replace ZX := mkHid (ZX.out.keep hba)
  replace KB := mkHid (KB.out.step hba)
  replace k0 := keeps hba k0
  replace k2 := keeps hba k2
  have k3 : wa.cell? ⟨gm, 3, none⟩ = some (.int .i64 m.n) := ZX.out.cell 3
  have f2 := ZX.out.frozen 2
  have f3 := ZX.out.frozen 3
  clear hba HA
  refine hK.out _ _ ?_ (fun hHeld => ?_)
  · ((try dsimp only); (try go_split_ands); refine ⟨?_, ?_⟩ <;> with_reducible assumption)
  clear hK K
  try simp only [List.getElem_toArray, List.getElem_cons_succ, List.getElem_cons_zero, Act.put, List.setIfInBounds_toArray, List.set_cons_zero, List.set_cons_succ]
  refine Any.take (i := 11) (v := ?_) rfl (by kernel_rfl) (by kernel_rfl) (by kernel_rfl) (by kernel_rfl) (fun _ _ _ h => h) (Or.inl ⟨by rfl, ?_⟩) hHeld ?_
  rotate_left
  · intro w hSw
    (try dsimp only at hSw)
    go_simp
    all_goals with_reducible rfl
  try simp only [List.getElem_toArray, List.getElem_cons_succ, List.getElem_cons_zero, Act.put, List.setIfInBounds_toArray, List.set_cons_zero, List.set_cons_succ]
  refine Any.take (i := 12) (v := ?_) rfl (by kernel_rfl) (by kernel_rfl) (by kernel_rfl) (by kernel_rfl) (fun _ _ _ h => h) (Or.inl ⟨by rfl, ?_⟩) hHeld ?_
  rotate_left
  · intro w hSw
    (try dsimp only at hSw)
    go_simp
    all_goals with_reducible rfl
  try simp only [List.getElem_toArray, List.getElem_cons_succ, List.getElem_cons_zero, Act.put, List.setIfInBounds_toArray, List.set_cons_zero, List.set_cons_succ]
  refine Any.take (i := 13) (v := ?_) rfl (by kernel_rfl) (by kernel_rfl) (by kernel_rfl) (by kernel_rfl) (fun _ _ _ h => h) (Or.inl ⟨by rfl, ?_⟩) hHeld ?_
  rotate_left
  · intro w hSw
    (try dsimp only at hSw)
    go_simp
    all_goals with_reducible rfl
  try simp only [List.getElem_toArray, List.getElem_cons_succ, List.getElem_cons_zero, Act.put, List.setIfInBounds_toArray, List.set_cons_zero, List.set_cons_succ]
  refine Any.take (i := 14) (v := ?_) rfl (by kernel_rfl) (by kernel_rfl) (by kernel_rfl) (by kernel_rfl) (fun _ _ _ h => h) (Or.inl ⟨by rfl, ?_⟩) hHeld ?_
  rotate_left
  · intro w hSw
    (try dsimp only at hSw)
    go_simp
    all_goals with_reducible rfl
  try simp only [List.getElem_toArray, List.getElem_cons_succ, List.getElem_cons_zero, Act.put, List.setIfInBounds_toArray, List.set_cons_zero, List.set_cons_succ]
  refine Any.take (i := 15) (v := ?_) rfl (by kernel_rfl) (by kernel_rfl) (by kernel_rfl) (by kernel_rfl) (fun _ _ _ h => h) (Or.inl ⟨by rfl, ?_⟩) hHeld ?_
  rotate_left
  · intro w hSw
    (try dsimp only at hSw)
    go_simp
    all_goals with_reducible rfl
  try simp only [List.getElem_toArray, List.getElem_cons_succ, List.getElem_cons_zero, Act.put, List.setIfInBounds_toArray, List.set_cons_zero, List.set_cons_succ]
  refine Any.done (by kernel_rfl) ?_ _
  go_wp2_with fail
  go_ret
  exact ⟨A1, c1, rfl, (RV.out.past_own KX.out 2 _).past_own KX.out 3 _, (ZX.out.set 2 _).set 3 _, grown_two (below_grown KB.out)⟩
end Go.Proofs.Ytmehbonjpmlmfaa

namespace Go.Proofs.Ytmehbonjpmlmfaa
open Go.RowKit
structure OpD where
  kind : Int
  i : Nat
  n : Int
  p : BitVec 64 × BitVec 64
structure AnsD where
  e : Int
  epoch : Int
  draw : Int
  p : BitVec 64 × BitVec 64
def ansE (e : Int) : AnsD := ⟨e, 0, 0, (0, 0)⟩
def chM (m : ModD) (x : RollA × Int) : ModD × AnsD × Int := if x.2 = 0 then ({ m with l := x.1.s, n := x.1.n }, ansE 0, 0) else (m, ansE x.2, 0)
def readM (m : ModD) (i : Nat) (n : Int) : AnsD :=
  if (mayM m i n).2 ≠ 0 then ansE (mayM m i n).2 else if (mayM m i n).1 = false then ⟨4, n, 0, (0, 0)⟩ else match m.sent[(n - 1).toNat]? with
    | some s => ⟨0, n, s.draw, s.p⟩
    | none => ansE 1
def sendM (m : ModD) (p : BitVec 64 × BitVec 64) : ModD × AnsD × Int :=
  if (m.sent.length : Int) + 1 = m.draws then (m, ansE 10, 0) else ({ m with sent := m.sent ++ [⟨m.l, (m.sent.length : Int) + 1, p⟩] }, ⟨0, (m.sent.length : Int) + 1, (m.sent.length : Int) + 1, (0, 0)⟩, 0)
/-- what Do answers -/
def doM (m : ModD) (o : OpD) : ModD × AnsD × Int :=
  if okM m = true ∧ 1 ≤ o.kind ∧ o.kind ≤ 4 then
    if o.kind = 1 then chM m (rollAdd m.h m.cap m.l m.n o.i) else if o.kind = 2 then chM m (rollDel m.h m.cap m.l m.n o.i) else if o.kind = 3 then sendM m o.p else (m, readM m o.i o.n, 0)
  else (zeroM, ansE 0, 1)
theorem Blk.five {w : World} {n : Nat} {t : TypeId} {a b c d e : Value} (h : Blk w n t #[a, b, c, d, e]) :
    w.cell? ⟨n, 0, none⟩ = some a ∧ w.cell? ⟨n, 1, none⟩ = some b ∧ w.cell? ⟨n, 2, none⟩ = some c ∧ w.cell? ⟨n, 3, none⟩ = some d ∧ w.cell? ⟨n, 4, none⟩ = some e := ⟨h.cell 0, h.cell 1, h.cell 2, h.cell 3, h.cell 4⟩
theorem Blk.other6 {w : World} {n g : Nat} {t : TypeId} {cs : Array Value} {x0 x1 x2 x3 x4 x5 : Value} (h : Blk w n t cs) (hn : n ≠ g) :
    Blk ((((((w.setCell ⟨g, 0, none⟩ x0).setCell ⟨g, 1, none⟩ x1).setCell ⟨g, 2, none⟩ x2).setCell ⟨g, 3, none⟩ x3).setCell ⟨g, 4, none⟩ x4).setCell ⟨g, 5, none⟩ x5) n t cs := (((((h.other x0 hn).other x1 hn).other x2 hn).other x3 hn).other x4 hn).other x5 hn
theorem Blk.other5 {w : World} {n g : Nat} {t : TypeId} {cs : Array Value} {x0 x1 x2 x3 x4 : Value} (h : Blk w n t cs) (hn : n ≠ g) :
    Blk (((((w.setCell ⟨g, 0, none⟩ x0).setCell ⟨g, 1, none⟩ x1).setCell ⟨g, 2, none⟩ x2).setCell ⟨g, 3, none⟩ x3).setCell ⟨g, 4, none⟩ x4) n t cs := ((((h.other x0 hn).other x1 hn).other x2 hn).other x3 hn).other x4 hn
theorem Blk.fill5 {w : World} {n : Nat} {t : TypeId} {a0 a1 a2 a3 a4 b0 b1 b2 b3 b4 : Value} (h : Blk w n t #[a0, a1, a2, a3, a4]) :
    Blk (((((w.setCell ⟨n, 0, none⟩ b0).setCell ⟨n, 1, none⟩ b1).setCell ⟨n, 2, none⟩ b2).setCell ⟨n, 3, none⟩ b3).setCell ⟨n, 4, none⟩ b4) n t #[b0, b1, b2, b3, b4] := ((((h.set 0 b0).set 1 b1).set 2 b2).set 3 b3).set 4 b4
theorem below_five {w w1 : World} {b g : Nat} (h : Below b w w1) (hg : b ≤ g) (x0 x1 x2 x3 x4 : Value) : Below b w (((((w1.setCell ⟨g, 0, none⟩ x0).setCell ⟨g, 1, none⟩ x1).setCell ⟨g, 2, none⟩ x2).setCell ⟨g, 3, none⟩ x3).setCell ⟨g, 4, none⟩ x4) :=
  ((((h.setCell (p := ⟨g, 0, none⟩) hg _).setCell (p := ⟨g, 1, none⟩) hg _).setCell (p := ⟨g, 2, none⟩) hg _).setCell (p := ⟨g, 3, none⟩) hg _).setCell (p := ⟨g, 4, none⟩) hg _
theorem OwnM.past6 {w : World} {base g : Nat} {A B : Option Addr} {c d : Nat} {X : List SX} {m : ModD} (h : OwnM w base A c B d X m) (hg : g < base) (x0 x1 x2 x3 x4 x5 : Value) :
    OwnM ((((((w.setCell ⟨g, 0, none⟩ x0).setCell ⟨g, 1, none⟩ x1).setCell ⟨g, 2, none⟩ x2).setCell ⟨g, 3, none⟩ x3).setCell ⟨g, 4, none⟩ x4).setCell ⟨g, 5, none⟩ x5) base A c B d X m := (((((h.past hg 0 x0).past hg 1 x1).past hg 2 x2).past hg 3 x3).past hg 4 x4).past hg 5 x5
theorem OwnM.past5 {w : World} {base g : Nat} {A B : Option Addr} {c d : Nat} {X : List SX} {m : ModD} (h : OwnM w base A c B d X m) (hg : g < base) (x0 x1 x2 x3 x4 : Value) :
    OwnM (((((w.setCell ⟨g, 0, none⟩ x0).setCell ⟨g, 1, none⟩ x1).setCell ⟨g, 2, none⟩ x2).setCell ⟨g, 3, none⟩ x3).setCell ⟨g, 4, none⟩ x4) base A c B d X m := ((((h.past hg 0 x0).past hg 1 x1).past hg 2 x2).past hg 3 x3).past hg 4 x4
theorem OwnM.zero (w : World) (base : Nat) : OwnM w base none 0 none 0 [] zeroM := ⟨RowOf.nil _ _, World.ownsRow_nil _ _ _ _, rfl, fun x hx => by simp at hx⟩
theorem OwnM.reads {w : World} {base : Nat} {A B : Option Addr} {c d : Nat} {X : List SX} {m : ModD} (h : OwnM w base A c B d X m) : Reads w A m.l := by
  obtain ⟨A', c', e, h1, h2, h3, h4⟩ := Reads.of_row' h.row
  obtain ⟨e1, _, e2⟩ := Value.slice.inj e
  subst e1 e2
  exact h3
theorem Blk.grown {w w1 : World} {n g : Nat} {t : TypeId} {cs : Array Value} (h : Blk w n t cs) (hg : w.grownBy w1 (some g)) (hn : n ≠ g) : Blk w1 n t cs := (hg.block n h.lt (fun e => hn (Option.some.inj e))).trans h
theorem own_grown {w w1 : World} {base g : Nat} {e : TypeId} {size n : Nat} {v : Value} {cs : List Value} (h : w.ownsRow base e size v n cs) (hg : w.grownBy w1 (some g)) (hl : g < base) : w1.ownsRow base e size v n cs :=
  World.ownsRow.kept h hg (.inr fun e => by have := (World.ownsRow.lt h g e).1; omega)
theorem OwnM.grown {w w1 : World} {base g : Nat} {A B : Option Addr} {c d : Nat} {X : List SX} {m : ModD} (h : OwnM w base A c B d X m) (hg : w.grownBy w1 (some g)) (hl : g < base) : OwnM w1 base A c B d X m :=
  ⟨own_grown h.row hg hl, own_grown h.sents hg hl, h.eq, fun x hx => own_grown (h.each x hx) hg hl⟩
theorem OwnM.newL {w : World} {base : Nat} {A B A2 : Option Addr} {c d c2 : Nat} {X : List SX} {m : ModD} {L : List Nat} {k : Int} (h : OwnM w base A c B d X m) (hr : RowOf w base (.slice A2 L.length c2) L) : OwnM w base A2 c2 B d X { m with l := L, n := k } :=
  ⟨hr, h.sents, h.eq, h.each⟩
theorem rowAt_four {w : World} {g : Nat} {t : TypeId} {a b c d : Value} (h : Blk w g t #[a, b, c, d]) : RowAt w (some ⟨g, 0, none⟩) [a, b, c, d] := fun j u hj => by
  refine ⟨_, rfl, ?_⟩
  rw [addr_add, Nat.zero_add, h.cell j]
  match j, hj with
  | 0, hj => simpa using hj
  | 1, hj => simpa using hj
  | 2, hj => simpa using hj
  | 3, hj => simpa using hj
theorem cell_past {w : World} {b o g k : Nat} {u v : Value} (h : w.cell? ⟨b, o, none⟩ = some v) (hn : b ≠ g) : (w.setCell ⟨g, k, none⟩ u).cell? ⟨b, o, none⟩ = some v := by
  rw [World.cell?_setCell_other w _ _ _ (fun e => hn (congrArg Addr.block e).symm)]; exact h
/-- one more that was sent -/
theorem sent_append {w : World} {base : Nat} {A B : Option Addr} {c d : Nat} {X : List SX} {m : ModD} (h : OwnM w base A c B d X m) (x : SX) (hx : RowOf w base (.slice x.a x.s.out.length x.c) x.s.out) (ad : Addr) (hc : RowAt w (some ad) (sxCells x)) (hb : base ≤ w.heap.size) (hl : m.sent.length ≤ 4096) (ty : TypeId) :
    ∃ w' B' d' N, (Builtin.append_ #[43, 43] ty #[.slice B m.sent.length d, .slice (some ad) 1 1]).run Try.prog w = .ok (.slice B' N d') w' ∧ N = (m.sent ++ [x.s]).length ∧ OwnM w' base A c B' d' (X ++ [x]) { m with sent := m.sent ++ [x.s] } ∧ Below base w w' := by
  obtain ⟨i0, hi, hz0, hz1, hz2⟩ := info_parts info_csent
  obtain ⟨v', w', hr, h2, h3, _⟩ := run_append_own (P := Try.prog) w base 43 ty 66 i0 (.agg #[.slice none 0 0, .int .i64 0, .int .u64 0, .int .u64 0]) 4 48 Try.underlying43 hi hz0 hz1 hz2 rfl (by decide) (.slice B m.sent.length d) m.sent.length (sentCells X) h.sents ad 1 1 (sxCells x) rfl hc.some (by
    intro u hu
    simp only [sxCells, List.mem_cons, List.not_mem_nil, or_false] at hu
    rcases hu with rfl | rfl | rfl | rfl <;> rfl) (by unfold maxLen; omega) (by omega) hb
  obtain ⟨B', d', rfl, _⟩ := RowAt.of_own h2
  have hg : ∀ {v : Value} {s : List Nat}, RowOf w base v s → RowOf w' base v s := fun {v s} q => World.ownsRow.kept q h3 (rows_apart q h.sents (by decide))
  refine ⟨w', B', d', _, hr, by simp, ⟨hg h.row, ?_, ?_, ?_⟩, (Below.refl base w).grown h3 hb fun k e => (World.ownsRow.lt h.sents k e).1⟩
  · have e : sentCells (X ++ [x]) = sentCells X ++ sxCells x := by rw [sentCells_append]; simp [sentCells]
    rw [e]
    simpa using h2
  · rw [List.map_append, h.eq]; rfl
  · intro y hy
    rcases List.mem_append.1 hy with hy | hy
    · exact hg (h.each y hy)
    · rw [List.mem_singleton] at hy; subst hy; exact hg hx
theorem step_append {P : Program} {ops : Array Oper} {o : Oper} {a : Act} {w w1 : World} {K : Act → World → Prop} {Q : Exit → Act → World → Prop} {v1 v2 v3 : Value} (hw : Region.wanted o (yielded ops a.tmps) = true) (s x : Operand) (t : TypeId)
    (ho : o.op = .call { callee := .builtin .append, args := #[s, x], argTypes := #[t, t] }) (hs : a.eval s = v1) (hx : a.eval x = v2) (hr : (Builtin.append_ #[t, t] o.type #[v1, v2]).run P w = .ok v3 w1) (h : K (a.put o.dst v3) w1) :
    if Region.wanted o (yielded ops a.tmps) = true then Oper.wp P o a w K Q else K (a.put o.dst undef) w := by
  rw [if_pos hw]
  unfold Oper.wp execOp
  simp only [ho, resolve, invoke, builtin, Sem.run_bind, Sem.run_pure, Result.andThen_ok, List.map_toArray, List.map_cons, List.map_nil, hs, hx, hr]
  exact h
/-- what Do leaves: a model of the call's own, an answer, an error's number -/
def DoPost (m : ModD) (a : AnsD) (r : Int) (w : World) (e : Ending) (w' : World) : Prop :=
  ∃ A c B d X, e = .returned (.tuple #[.agg #[.int .i64 m.h, .int .i64 m.cap, .slice A m.l.length c, .int .i64 m.n, .int .i64 m.draws, .slice B m.sent.length d], .agg #[.int .i64 a.e, .int .i64 a.epoch, .int .i64 a.draw, .int .u64 (a.p.1.toNat : Int), .int .u64 (a.p.2.toNat : Int)], .int .i64 r]) ∧ OwnM w' w.heap.size A c B d X m ∧ Below w.heap.size w w'
theorem okM_parts {m : ModD} (h : okM m = true) : m.cap ≤ 1024 ∧ (m.l.length : Int) ≤ m.cap ∧ checkAll m.h m.l = 0 ∧ 0 ≤ m.n ∧ m.n ≤ 1099511627776 ∧ m.draws ≤ 4096 ∧ (m.sent.length : Int) < m.draws ∧ sentOk m.h m.cap m.sent m.sent.length = true := by
  unfold okM inRoom at h
  simp only [Bool.and_eq_true, decide_eq_true_eq, beq_iff_eq] at h
  obtain ⟨⟨⟨⟨⟨⟨h1, h2, h3⟩, h4⟩, h5⟩, h6⟩, h7⟩, h8⟩ := h
  exact ⟨h1, h2, h3, h4, h5, h6, h7, h8⟩
theorem sentOk_at {h cap : Int} {S : List SentD} (e : sentOk h cap S S.length = true) {i : Nat} (hi : i < S.length) : (S[i].out.length : Int) ≤ cap ∧ checkAll h S[i].out = 0 ∧ S[i].draw = (i : Int) + 1 := by
  unfold sentOk at e
  rw [List.all_eq_true] at e
  have q := e i (List.mem_range.2 hi)
  rw [List.getElem?_eq_getElem hi] at q
  unfold inRoom at q
  simp only [Bool.and_eq_true, decide_eq_true_eq, beq_iff_eq] at q
  exact ⟨q.1.1, q.1.2, q.2⟩
/-- what own asks for -/
theorem okM_sizes {m : ModD} (h : okM m = true) : m.l.length ≤ 1024 ∧ m.sent.length ≤ 4096 ∧ ∀ s ∈ m.sent, s.out.length ≤ 1024 := by
  obtain ⟨h1, h2, h3, h4, h5, h6, h7, h8⟩ := okM_parts h
  refine ⟨by omega, by omega, fun s hs => ?_⟩
  obtain ⟨i, hi, rfl⟩ := List.getElem_of_mem hs
  have := (sentOk_at h8 hi).1
  omega
end Go.Proofs.Ytmehbonjpmlmfaa

namespace Go.Proofs.Ytmehbonjpmlmfaa
open Go.RowKit

set_option linter.unusedSimpArgs false in
set_option maxRecDepth 100000 in
set_option maxHeartbeats 4000000 in
theorem do_bad {m : ModD} {i : Nat} {n : Int} {p1 p2 : BitVec 64} {k : Int} (e : Hid ((if okM m then (0 : Int) else 1) = 1)) (A : Option Addr) (c : Nat) (B : Option Addr) (d : Nat) (w : World) (hM : MemM w A c B d m) :
    Calls Try.prog 29 #[.agg #[.int .i64 m.h, .int .i64 m.cap, .slice A m.l.length c, .int .i64 m.n, .int .i64 m.draws, .slice B m.sent.length d], .agg #[.int .i64 k, .int .u64 (i : Int), .int .i64 n, .int .u64 (p1.toNat : Int), .int .u64 (p2.toNat : Int)]] w (DoPost zeroM (ansE 0) 1 w) := by
  skip
  have ZX : Hid (Blk ((((w.alloc (.cells #[.int .i64 m.h, .int .i64 m.cap, .slice A m.l.length c, .int .i64 m.n, .int .i64 m.draws, .slice B m.sent.length d] 45)).alloc (.cells #[.int .i64 k, .int .u64 (i : Int), .int .i64 n, .int .u64 (p1.toNat : Int), .int .u64 (p2.toNat : Int)] 53)).alloc (.cells #[.int .i64 0, .int .i64 0, .slice none 0 0, .int .i64 0, .int .i64 0, .slice none 0 0] 45)).alloc (.cells #[.int .i64 0, .int .i64 0, .int .i64 0, .int .u64 0, .int .u64 0] 55)) w.heap.size 45 #[.int .i64 m.h, .int .i64 m.cap, .slice A m.l.length c, .int .i64 m.n, .int .i64 m.draws, .slice B m.sent.length d]) := mkHid ((((Blk.new _ _ _).alloc _).alloc _).alloc _)
  have ZP : Hid (Blk ((((w.alloc (.cells #[.int .i64 m.h, .int .i64 m.cap, .slice A m.l.length c, .int .i64 m.n, .int .i64 m.draws, .slice B m.sent.length d] 45)).alloc (.cells #[.int .i64 k, .int .u64 (i : Int), .int .i64 n, .int .u64 (p1.toNat : Int), .int .u64 (p2.toNat : Int)] 53)).alloc (.cells #[.int .i64 0, .int .i64 0, .slice none 0 0, .int .i64 0, .int .i64 0, .slice none 0 0] 45)).alloc (.cells #[.int .i64 0, .int .i64 0, .int .i64 0, .int .u64 0, .int .u64 0] 55)) (w.heap.size + 1) 53 #[.int .i64 k, .int .u64 (i : Int), .int .i64 n, .int .u64 (p1.toNat : Int), .int .u64 (p2.toNat : Int)]) := mkHid (((Blk.at _ _ _ (by simp)).alloc _).alloc _)
  have ZZ : Hid (Blk ((((w.alloc (.cells #[.int .i64 m.h, .int .i64 m.cap, .slice A m.l.length c, .int .i64 m.n, .int .i64 m.draws, .slice B m.sent.length d] 45)).alloc (.cells #[.int .i64 k, .int .u64 (i : Int), .int .i64 n, .int .u64 (p1.toNat : Int), .int .u64 (p2.toNat : Int)] 53)).alloc (.cells #[.int .i64 0, .int .i64 0, .slice none 0 0, .int .i64 0, .int .i64 0, .slice none 0 0] 45)).alloc (.cells #[.int .i64 0, .int .i64 0, .int .i64 0, .int .u64 0, .int .u64 0] 55)) (w.heap.size + 1 + 1) 45 #[.int .i64 0, .int .i64 0, .slice none 0 0, .int .i64 0, .int .i64 0, .slice none 0 0]) := mkHid ((Blk.at _ _ _ (by simp)).alloc _)
  have ZA : Hid (Blk ((((w.alloc (.cells #[.int .i64 m.h, .int .i64 m.cap, .slice A m.l.length c, .int .i64 m.n, .int .i64 m.draws, .slice B m.sent.length d] 45)).alloc (.cells #[.int .i64 k, .int .u64 (i : Int), .int .i64 n, .int .u64 (p1.toNat : Int), .int .u64 (p2.toNat : Int)] 53)).alloc (.cells #[.int .i64 0, .int .i64 0, .slice none 0 0, .int .i64 0, .int .i64 0, .slice none 0 0] 45)).alloc (.cells #[.int .i64 0, .int .i64 0, .int .i64 0, .int .u64 0, .int .u64 0] 55)) (w.heap.size + 1 + 1 + 1) 55 #[.int .i64 0, .int .i64 0, .int .i64 0, .int .u64 0, .int .u64 0]) := mkHid (Blk.at _ _ _ (by simp))
  have KB : Hid (Below w.heap.size w ((((w.alloc (.cells #[.int .i64 m.h, .int .i64 m.cap, .slice A m.l.length c, .int .i64 m.n, .int .i64 m.draws, .slice B m.sent.length d] 45)).alloc (.cells #[.int .i64 k, .int .u64 (i : Int), .int .i64 n, .int .u64 (p1.toNat : Int), .int .u64 (p2.toNat : Int)] 53)).alloc (.cells #[.int .i64 0, .int .i64 0, .slice none 0 0, .int .i64 0, .int .i64 0, .slice none 0 0] 45)).alloc (.cells #[.int .i64 0, .int .i64 0, .int .i64 0, .int .u64 0, .int .u64 0] 55))) := mkHid (((((Below.refl _ _).alloc (Nat.le_refl _) (.cells #[.int .i64 m.h, .int .i64 m.cap, .slice A m.l.length c, .int .i64 m.n, .int .i64 m.draws, .slice B m.sent.length d] 45)).alloc (by simp) (.cells #[.int .i64 k, .int .u64 (i : Int), .int .i64 n, .int .u64 (p1.toNat : Int), .int .u64 (p2.toNat : Int)] 53)).alloc (by simp; omega) (.cells #[.int .i64 0, .int .i64 0, .slice none 0 0, .int .i64 0, .int .i64 0, .slice none 0 0] 45)).alloc (by simp; omega) (.cells #[.int .i64 0, .int .i64 0, .int .i64 0, .int .u64 0, .int .u64 0] 55))
  have HM := mkHid (hM.below (((((Below.refl _ _).alloc (Nat.le_refl _) (.cells #[.int .i64 m.h, .int .i64 m.cap, .slice A m.l.length c, .int .i64 m.n, .int .i64 m.draws, .slice B m.sent.length d] 45)).alloc (by simp) (.cells #[.int .i64 k, .int .u64 (i : Int), .int .i64 n, .int .u64 (p1.toNat : Int), .int .u64 (p2.toNat : Int)] 53)).alloc (by simp; omega) (.cells #[.int .i64 0, .int .i64 0, .slice none 0 0, .int .i64 0, .int .i64 0, .slice none 0 0] 45)).alloc (by simp; omega) (.cells #[.int .i64 0, .int .i64 0, .int .i64 0, .int .u64 0, .int .u64 0] 55)))
  clear hM
  go_enter Try.func29, Try.ntmps29
  go_upto_region 1 with fail
  generalize ((((w.alloc (.cells #[.int .i64 m.h, .int .i64 m.cap, .slice A m.l.length c, .int .i64 m.n, .int .i64 m.draws, .slice B m.sent.length d] 45)).alloc (.cells #[.int .i64 k, .int .u64 (i : Int), .int .i64 n, .int .u64 (p1.toNat : Int), .int .u64 (p2.toNat : Int)] 53)).alloc (.cells #[.int .i64 0, .int .i64 0, .slice none 0 0, .int .i64 0, .int .i64 0, .slice none 0 0] 45)).alloc (.cells #[.int .i64 0, .int .i64 0, .int .i64 0, .int .u64 0, .int .u64 0] 55)) = w0 at *
  have lZA : w.heap.size + 1 + 1 + 1 < w0.heap.size := ZA.out.lt
  have cX := ZX.out.six
  have cP := ZP.out.five
  go_wp2_with fail
  refine (mchk e _ _ _ _ _ HM.out).mono ?_
  rintro e w1 ⟨rfl, hb⟩
  replace ZX := mkHid (ZX.out.keep hb)
  replace ZP := mkHid (ZP.out.keep hb)
  replace ZZ := mkHid (ZZ.out.keep hb)
  replace ZA := mkHid (ZA.out.keep hb)
  replace KB := mkHid (KB.out.step hb)
  replace HM := mkHid (HM.out.below hb)
  clear hb
  clear lZA cX cP
  have lZA : w.heap.size + 1 + 1 + 1 < w1.heap.size := ZA.out.lt
  have cX := ZX.out.six
  have cP := ZP.out.five
  go_upto_region 2 with fail
  replace ZA : Hid (Blk w1.drew _ _ _) := mkHid ZA.out.drew
  replace ZZ : Hid (Blk w1.drew _ _ _) := mkHid ZZ.out.drew
  replace KB : Hid (Below w.heap.size w w1.drew) := mkHid KB.out.drew
  clear cX cP
  have cZ := ZZ.out.six
  have cA := ZA.out.five
  have gz0 := ZZ.out.frozen 0
  have gz1 := ZZ.out.frozen 1
  have gz2 := ZZ.out.frozen 2
  have gz3 := ZZ.out.frozen 3
  have gz4 := ZZ.out.frozen 4
  have gz5 := ZZ.out.frozen 5
  have ga0 := ZA.out.frozen 0
  have ga1 := ZA.out.frozen 1
  have ga2 := ZA.out.frozen 2
  have ga3 := ZA.out.frozen 3
  have ga4 := ZA.out.frozen 4
  clear ZP ZX HM
  refine wp_region_late (late := fun i => decide (3 ≤ i)) (S := fun w' => Hid (Blk w' (w.heap.size + 1 + 1 + 1) 55 #[.int .i64 0, .int .i64 0, .int .i64 0, .int .u64 0, .int .u64 0])) (by kernel_rfl) ?_ (fun hHeld => ?_)
  · ((try dsimp only); first | with_reducible assumption | (with_reducible refine mkHid (Blk.other6 (Hid.out ?_) ?_) <;> first | with_reducible assumption | omega))
  generalize w1.drew = u at *
  refine Any.take (i := 0) (v := ?_) rfl (by kernel_rfl) (by kernel_rfl) (by kernel_rfl) (by kernel_rfl) (fun _ _ _ h => h) (Or.inl ⟨by rfl, ?_⟩) hHeld ?_
  rotate_left
  · intro w hSw
    (try dsimp only at hSw)
    go_simp
    all_goals with_reducible rfl
  try simp only [List.getElem_toArray, List.getElem_cons_succ, List.getElem_cons_zero, Act.put, List.setIfInBounds_toArray, List.set_cons_zero, List.set_cons_succ]
  refine Any.take (i := 1) (v := ?_) rfl (by kernel_rfl) (by kernel_rfl) (by kernel_rfl) (by kernel_rfl) (fun _ _ _ h => h) (Or.inl ⟨by rfl, ?_⟩) hHeld ?_
  rotate_left
  · intro w hSw
    (try dsimp only at hSw)
    have q := hSw.out.five
    clear hSw
    go_simp
    all_goals with_reducible rfl
  try simp only [List.getElem_toArray, List.getElem_cons_succ, List.getElem_cons_zero, Act.put, List.setIfInBounds_toArray, List.set_cons_zero, List.set_cons_succ]
  refine Any.ready (rs := [2]) (by kernel_rfl) (by simp) ?_
  refine AllAny.cons rfl rfl (fun K hK => ?_) AllAny.nil
  go_simp
  refine hK.out _ _ ?_ (fun hHeld => ?_)
  · ((try dsimp only); first | with_reducible assumption | (with_reducible refine mkHid (Blk.other6 (Hid.out ?_) ?_) <;> first | with_reducible assumption | omega))
  clear hK K
  try simp only [List.getElem_toArray, List.getElem_cons_succ, List.getElem_cons_zero, Act.put, List.setIfInBounds_toArray, List.set_cons_zero, List.set_cons_succ]
  refine Any.ready (rs := [3]) (by kernel_rfl) (by simp) ?_
  refine AllAny.lateCons rfl rfl (fun K hK => ?_) AllAny.nil
  go_simp
  refine hK.out _ _ ?_
  clear hK K
  try simp only [List.getElem_toArray, List.getElem_cons_succ, List.getElem_cons_zero, Act.put, List.setIfInBounds_toArray, List.set_cons_zero, List.set_cons_succ]
  refine Any.ready (rs := [4]) (by kernel_rfl) (by simp) ?_
  refine AllAny.lateCons rfl rfl (fun K hK => ?_) AllAny.nil
  go_simp
  refine hK.out _ _ ?_
  clear hK K
  try simp only [List.getElem_toArray, List.getElem_cons_succ, List.getElem_cons_zero, Act.put, List.setIfInBounds_toArray, List.set_cons_zero, List.set_cons_succ]
  refine Any.done (by kernel_rfl) ?_ _
  have qR := ((ZZ.out.fill6 (b0 := .int .i64 0) (b1 := .int .i64 0) (b2 := .slice none 0 0) (b3 := .int .i64 0) (b4 := .int .i64 0) (b5 := .slice none 0 0)).other5 (g := w.heap.size + 1 + 1 + 1) (x0 := .int .i64 0) (x1 := .int .i64 0) (x2 := .int .i64 0) (x3 := .int .u64 0) (x4 := .int .u64 0) (by omega)).six
  have qA := ((ZA.out.other6 (g := w.heap.size + 1 + 1) (x0 := .int .i64 0) (x1 := .int .i64 0) (x2 := .slice none 0 0) (x3 := .int .i64 0) (x4 := .int .i64 0) (x5 := .slice none 0 0) (by omega)).fill5 (b0 := .int .i64 0) (b1 := .int .i64 0) (b2 := .int .i64 0) (b3 := .int .u64 0) (b4 := .int .u64 0)).five
  go_wp2_with fail
  refine bodyPost_ret (v := .tuple #[.agg #[.int .i64 0, .int .i64 0, .slice none 0 0, .int .i64 0, .int .i64 0, .slice none 0 0], .agg #[.int .i64 0, .int .i64 0, .int .i64 0, .int .u64 0, .int .u64 0], .int .i64 1]) (by simp [results, Try.results29, go_sem, qR, qA]) rfl ⟨none, 0, none, 0, [], rfl, OwnM.zero _ _, below_five (below_six KB.out (by omega) _ _ _ _ _ _) (by omega) _ _ _ _ _⟩

set_option linter.unusedSimpArgs false in
set_option maxRecDepth 100000 in
set_option maxHeartbeats 4000000 in
theorem do_low {m : ModD} {i : Nat} {n : Int} {p1 p2 : BitVec 64} {k : Int} (e : Hid ((if okM m then (0 : Int) else 1) = 0)) (h0 : k < 1) (A : Option Addr) (c : Nat) (B : Option Addr) (d : Nat) (w : World) (hM : MemM w A c B d m) :
    Calls Try.prog 29 #[.agg #[.int .i64 m.h, .int .i64 m.cap, .slice A m.l.length c, .int .i64 m.n, .int .i64 m.draws, .slice B m.sent.length d], .agg #[.int .i64 k, .int .u64 (i : Int), .int .i64 n, .int .u64 (p1.toNat : Int), .int .u64 (p2.toNat : Int)]] w (DoPost zeroM (ansE 0) 1 w) := by
  have t0 : decide (k < (1 : Int)) = true := decide_eq_true h0
  have ZX : Hid (Blk ((((w.alloc (.cells #[.int .i64 m.h, .int .i64 m.cap, .slice A m.l.length c, .int .i64 m.n, .int .i64 m.draws, .slice B m.sent.length d] 45)).alloc (.cells #[.int .i64 k, .int .u64 (i : Int), .int .i64 n, .int .u64 (p1.toNat : Int), .int .u64 (p2.toNat : Int)] 53)).alloc (.cells #[.int .i64 0, .int .i64 0, .slice none 0 0, .int .i64 0, .int .i64 0, .slice none 0 0] 45)).alloc (.cells #[.int .i64 0, .int .i64 0, .int .i64 0, .int .u64 0, .int .u64 0] 55)) w.heap.size 45 #[.int .i64 m.h, .int .i64 m.cap, .slice A m.l.length c, .int .i64 m.n, .int .i64 m.draws, .slice B m.sent.length d]) := mkHid ((((Blk.new _ _ _).alloc _).alloc _).alloc _)
  have ZP : Hid (Blk ((((w.alloc (.cells #[.int .i64 m.h, .int .i64 m.cap, .slice A m.l.length c, .int .i64 m.n, .int .i64 m.draws, .slice B m.sent.length d] 45)).alloc (.cells #[.int .i64 k, .int .u64 (i : Int), .int .i64 n, .int .u64 (p1.toNat : Int), .int .u64 (p2.toNat : Int)] 53)).alloc (.cells #[.int .i64 0, .int .i64 0, .slice none 0 0, .int .i64 0, .int .i64 0, .slice none 0 0] 45)).alloc (.cells #[.int .i64 0, .int .i64 0, .int .i64 0, .int .u64 0, .int .u64 0] 55)) (w.heap.size + 1) 53 #[.int .i64 k, .int .u64 (i : Int), .int .i64 n, .int .u64 (p1.toNat : Int), .int .u64 (p2.toNat : Int)]) := mkHid (((Blk.at _ _ _ (by simp)).alloc _).alloc _)
  have ZZ : Hid (Blk ((((w.alloc (.cells #[.int .i64 m.h, .int .i64 m.cap, .slice A m.l.length c, .int .i64 m.n, .int .i64 m.draws, .slice B m.sent.length d] 45)).alloc (.cells #[.int .i64 k, .int .u64 (i : Int), .int .i64 n, .int .u64 (p1.toNat : Int), .int .u64 (p2.toNat : Int)] 53)).alloc (.cells #[.int .i64 0, .int .i64 0, .slice none 0 0, .int .i64 0, .int .i64 0, .slice none 0 0] 45)).alloc (.cells #[.int .i64 0, .int .i64 0, .int .i64 0, .int .u64 0, .int .u64 0] 55)) (w.heap.size + 1 + 1) 45 #[.int .i64 0, .int .i64 0, .slice none 0 0, .int .i64 0, .int .i64 0, .slice none 0 0]) := mkHid ((Blk.at _ _ _ (by simp)).alloc _)
  have ZA : Hid (Blk ((((w.alloc (.cells #[.int .i64 m.h, .int .i64 m.cap, .slice A m.l.length c, .int .i64 m.n, .int .i64 m.draws, .slice B m.sent.length d] 45)).alloc (.cells #[.int .i64 k, .int .u64 (i : Int), .int .i64 n, .int .u64 (p1.toNat : Int), .int .u64 (p2.toNat : Int)] 53)).alloc (.cells #[.int .i64 0, .int .i64 0, .slice none 0 0, .int .i64 0, .int .i64 0, .slice none 0 0] 45)).alloc (.cells #[.int .i64 0, .int .i64 0, .int .i64 0, .int .u64 0, .int .u64 0] 55)) (w.heap.size + 1 + 1 + 1) 55 #[.int .i64 0, .int .i64 0, .int .i64 0, .int .u64 0, .int .u64 0]) := mkHid (Blk.at _ _ _ (by simp))
  have KB : Hid (Below w.heap.size w ((((w.alloc (.cells #[.int .i64 m.h, .int .i64 m.cap, .slice A m.l.length c, .int .i64 m.n, .int .i64 m.draws, .slice B m.sent.length d] 45)).alloc (.cells #[.int .i64 k, .int .u64 (i : Int), .int .i64 n, .int .u64 (p1.toNat : Int), .int .u64 (p2.toNat : Int)] 53)).alloc (.cells #[.int .i64 0, .int .i64 0, .slice none 0 0, .int .i64 0, .int .i64 0, .slice none 0 0] 45)).alloc (.cells #[.int .i64 0, .int .i64 0, .int .i64 0, .int .u64 0, .int .u64 0] 55))) := mkHid (((((Below.refl _ _).alloc (Nat.le_refl _) (.cells #[.int .i64 m.h, .int .i64 m.cap, .slice A m.l.length c, .int .i64 m.n, .int .i64 m.draws, .slice B m.sent.length d] 45)).alloc (by simp) (.cells #[.int .i64 k, .int .u64 (i : Int), .int .i64 n, .int .u64 (p1.toNat : Int), .int .u64 (p2.toNat : Int)] 53)).alloc (by simp; omega) (.cells #[.int .i64 0, .int .i64 0, .slice none 0 0, .int .i64 0, .int .i64 0, .slice none 0 0] 45)).alloc (by simp; omega) (.cells #[.int .i64 0, .int .i64 0, .int .i64 0, .int .u64 0, .int .u64 0] 55))
  have HM := mkHid (hM.below (((((Below.refl _ _).alloc (Nat.le_refl _) (.cells #[.int .i64 m.h, .int .i64 m.cap, .slice A m.l.length c, .int .i64 m.n, .int .i64 m.draws, .slice B m.sent.length d] 45)).alloc (by simp) (.cells #[.int .i64 k, .int .u64 (i : Int), .int .i64 n, .int .u64 (p1.toNat : Int), .int .u64 (p2.toNat : Int)] 53)).alloc (by simp; omega) (.cells #[.int .i64 0, .int .i64 0, .slice none 0 0, .int .i64 0, .int .i64 0, .slice none 0 0] 45)).alloc (by simp; omega) (.cells #[.int .i64 0, .int .i64 0, .int .i64 0, .int .u64 0, .int .u64 0] 55)))
  clear hM
  go_enter Try.func29, Try.ntmps29
  go_upto_region 1 with fail
  generalize ((((w.alloc (.cells #[.int .i64 m.h, .int .i64 m.cap, .slice A m.l.length c, .int .i64 m.n, .int .i64 m.draws, .slice B m.sent.length d] 45)).alloc (.cells #[.int .i64 k, .int .u64 (i : Int), .int .i64 n, .int .u64 (p1.toNat : Int), .int .u64 (p2.toNat : Int)] 53)).alloc (.cells #[.int .i64 0, .int .i64 0, .slice none 0 0, .int .i64 0, .int .i64 0, .slice none 0 0] 45)).alloc (.cells #[.int .i64 0, .int .i64 0, .int .i64 0, .int .u64 0, .int .u64 0] 55)) = w0 at *
  have lZA : w.heap.size + 1 + 1 + 1 < w0.heap.size := ZA.out.lt
  have cX := ZX.out.six
  have cP := ZP.out.five
  go_wp2_with fail
  refine (mchk e _ _ _ _ _ HM.out).mono ?_
  rintro e w1 ⟨rfl, hb⟩
  replace ZX := mkHid (ZX.out.keep hb)
  replace ZP := mkHid (ZP.out.keep hb)
  replace ZZ := mkHid (ZZ.out.keep hb)
  replace ZA := mkHid (ZA.out.keep hb)
  replace KB := mkHid (KB.out.step hb)
  replace HM := mkHid (HM.out.below hb)
  clear hb
  clear lZA cX cP
  have lZA : w.heap.size + 1 + 1 + 1 < w1.heap.size := ZA.out.lt
  have cX := ZX.out.six
  have cP := ZP.out.five
  go_upto_region 2 with fail
  replace ZA : Hid (Blk w1.drew _ _ _) := mkHid ZA.out.drew
  replace ZZ : Hid (Blk w1.drew _ _ _) := mkHid ZZ.out.drew
  replace KB : Hid (Below w.heap.size w w1.drew) := mkHid KB.out.drew
  clear cX cP
  have cZ := ZZ.out.six
  have cA := ZA.out.five
  have gz0 := ZZ.out.frozen 0
  have gz1 := ZZ.out.frozen 1
  have gz2 := ZZ.out.frozen 2
  have gz3 := ZZ.out.frozen 3
  have gz4 := ZZ.out.frozen 4
  have gz5 := ZZ.out.frozen 5
  have ga0 := ZA.out.frozen 0
  have ga1 := ZA.out.frozen 1
  have ga2 := ZA.out.frozen 2
  have ga3 := ZA.out.frozen 3
  have ga4 := ZA.out.frozen 4
  clear ZP ZX HM
  refine wp_region_late (late := fun i => decide (3 ≤ i)) (S := fun w' => Hid (Blk w' (w.heap.size + 1 + 1 + 1) 55 #[.int .i64 0, .int .i64 0, .int .i64 0, .int .u64 0, .int .u64 0])) (by kernel_rfl) ?_ (fun hHeld => ?_)
  · ((try dsimp only); first | with_reducible assumption | (with_reducible refine mkHid (Blk.other6 (Hid.out ?_) ?_) <;> first | with_reducible assumption | omega))
  generalize w1.drew = u at *
  refine Any.take (i := 0) (v := ?_) rfl (by kernel_rfl) (by kernel_rfl) (by kernel_rfl) (by kernel_rfl) (fun _ _ _ h => h) (Or.inl ⟨by rfl, ?_⟩) hHeld ?_
  rotate_left
  · intro w hSw
    (try dsimp only at hSw)
    go_simp
    all_goals with_reducible rfl
  try simp only [List.getElem_toArray, List.getElem_cons_succ, List.getElem_cons_zero, Act.put, List.setIfInBounds_toArray, List.set_cons_zero, List.set_cons_succ]
  refine Any.take (i := 1) (v := ?_) rfl (by kernel_rfl) (by kernel_rfl) (by kernel_rfl) (by kernel_rfl) (fun _ _ _ h => h) (Or.inl ⟨by rfl, ?_⟩) hHeld ?_
  rotate_left
  · intro w hSw
    (try dsimp only at hSw)
    have q := hSw.out.five
    clear hSw
    go_simp
    all_goals with_reducible rfl
  try simp only [List.getElem_toArray, List.getElem_cons_succ, List.getElem_cons_zero, Act.put, List.setIfInBounds_toArray, List.set_cons_zero, List.set_cons_succ]
  refine Any.ready (rs := [2]) (by kernel_rfl) (by simp) ?_
  refine AllAny.cons rfl rfl (fun K hK => ?_) AllAny.nil
  go_simp
  refine hK.out _ _ ?_ (fun hHeld => ?_)
  · ((try dsimp only); first | with_reducible assumption | (with_reducible refine mkHid (Blk.other6 (Hid.out ?_) ?_) <;> first | with_reducible assumption | omega))
  clear hK K
  try simp only [List.getElem_toArray, List.getElem_cons_succ, List.getElem_cons_zero, Act.put, List.setIfInBounds_toArray, List.set_cons_zero, List.set_cons_succ]
  refine Any.ready (rs := [3]) (by kernel_rfl) (by simp) ?_
  refine AllAny.lateCons rfl rfl (fun K hK => ?_) AllAny.nil
  go_simp
  refine hK.out _ _ ?_
  clear hK K
  try simp only [List.getElem_toArray, List.getElem_cons_succ, List.getElem_cons_zero, Act.put, List.setIfInBounds_toArray, List.set_cons_zero, List.set_cons_succ]
  refine Any.ready (rs := [4]) (by kernel_rfl) (by simp) ?_
  refine AllAny.lateCons rfl rfl (fun K hK => ?_) AllAny.nil
  go_simp
  refine hK.out _ _ ?_
  clear hK K
  try simp only [List.getElem_toArray, List.getElem_cons_succ, List.getElem_cons_zero, Act.put, List.setIfInBounds_toArray, List.set_cons_zero, List.set_cons_succ]
  refine Any.done (by kernel_rfl) ?_ _
  have qR := ((ZZ.out.fill6 (b0 := .int .i64 0) (b1 := .int .i64 0) (b2 := .slice none 0 0) (b3 := .int .i64 0) (b4 := .int .i64 0) (b5 := .slice none 0 0)).other5 (g := w.heap.size + 1 + 1 + 1) (x0 := .int .i64 0) (x1 := .int .i64 0) (x2 := .int .i64 0) (x3 := .int .u64 0) (x4 := .int .u64 0) (by omega)).six
  have qA := ((ZA.out.other6 (g := w.heap.size + 1 + 1) (x0 := .int .i64 0) (x1 := .int .i64 0) (x2 := .slice none 0 0) (x3 := .int .i64 0) (x4 := .int .i64 0) (x5 := .slice none 0 0) (by omega)).fill5 (b0 := .int .i64 0) (b1 := .int .i64 0) (b2 := .int .i64 0) (b3 := .int .u64 0) (b4 := .int .u64 0)).five
  go_wp2_with fail
  refine bodyPost_ret (v := .tuple #[.agg #[.int .i64 0, .int .i64 0, .slice none 0 0, .int .i64 0, .int .i64 0, .slice none 0 0], .agg #[.int .i64 0, .int .i64 0, .int .i64 0, .int .u64 0, .int .u64 0], .int .i64 1]) (by simp [results, Try.results29, go_sem, qR, qA]) rfl ⟨none, 0, none, 0, [], rfl, OwnM.zero _ _, below_five (below_six KB.out (by omega) _ _ _ _ _ _) (by omega) _ _ _ _ _⟩

set_option linter.unusedSimpArgs false in
set_option maxRecDepth 100000 in
set_option maxHeartbeats 4000000 in
theorem do_high {m : ModD} {i : Nat} {n : Int} {p1 p2 : BitVec 64} {k : Int} (e : Hid ((if okM m then (0 : Int) else 1) = 0)) (h0 : ¬ k < 1) (h1 : 4 < k) (A : Option Addr) (c : Nat) (B : Option Addr) (d : Nat) (w : World) (hM : MemM w A c B d m) :
    Calls Try.prog 29 #[.agg #[.int .i64 m.h, .int .i64 m.cap, .slice A m.l.length c, .int .i64 m.n, .int .i64 m.draws, .slice B m.sent.length d], .agg #[.int .i64 k, .int .u64 (i : Int), .int .i64 n, .int .u64 (p1.toNat : Int), .int .u64 (p2.toNat : Int)]] w (DoPost zeroM (ansE 0) 1 w) := by
  have t0 : decide (k < (1 : Int)) = false := decide_eq_false h0
  have t1 : decide ((4 : Int) < k) = true := decide_eq_true h1
  have ZX : Hid (Blk ((((w.alloc (.cells #[.int .i64 m.h, .int .i64 m.cap, .slice A m.l.length c, .int .i64 m.n, .int .i64 m.draws, .slice B m.sent.length d] 45)).alloc (.cells #[.int .i64 k, .int .u64 (i : Int), .int .i64 n, .int .u64 (p1.toNat : Int), .int .u64 (p2.toNat : Int)] 53)).alloc (.cells #[.int .i64 0, .int .i64 0, .slice none 0 0, .int .i64 0, .int .i64 0, .slice none 0 0] 45)).alloc (.cells #[.int .i64 0, .int .i64 0, .int .i64 0, .int .u64 0, .int .u64 0] 55)) w.heap.size 45 #[.int .i64 m.h, .int .i64 m.cap, .slice A m.l.length c, .int .i64 m.n, .int .i64 m.draws, .slice B m.sent.length d]) := mkHid ((((Blk.new _ _ _).alloc _).alloc _).alloc _)
  have ZP : Hid (Blk ((((w.alloc (.cells #[.int .i64 m.h, .int .i64 m.cap, .slice A m.l.length c, .int .i64 m.n, .int .i64 m.draws, .slice B m.sent.length d] 45)).alloc (.cells #[.int .i64 k, .int .u64 (i : Int), .int .i64 n, .int .u64 (p1.toNat : Int), .int .u64 (p2.toNat : Int)] 53)).alloc (.cells #[.int .i64 0, .int .i64 0, .slice none 0 0, .int .i64 0, .int .i64 0, .slice none 0 0] 45)).alloc (.cells #[.int .i64 0, .int .i64 0, .int .i64 0, .int .u64 0, .int .u64 0] 55)) (w.heap.size + 1) 53 #[.int .i64 k, .int .u64 (i : Int), .int .i64 n, .int .u64 (p1.toNat : Int), .int .u64 (p2.toNat : Int)]) := mkHid (((Blk.at _ _ _ (by simp)).alloc _).alloc _)
  have ZZ : Hid (Blk ((((w.alloc (.cells #[.int .i64 m.h, .int .i64 m.cap, .slice A m.l.length c, .int .i64 m.n, .int .i64 m.draws, .slice B m.sent.length d] 45)).alloc (.cells #[.int .i64 k, .int .u64 (i : Int), .int .i64 n, .int .u64 (p1.toNat : Int), .int .u64 (p2.toNat : Int)] 53)).alloc (.cells #[.int .i64 0, .int .i64 0, .slice none 0 0, .int .i64 0, .int .i64 0, .slice none 0 0] 45)).alloc (.cells #[.int .i64 0, .int .i64 0, .int .i64 0, .int .u64 0, .int .u64 0] 55)) (w.heap.size + 1 + 1) 45 #[.int .i64 0, .int .i64 0, .slice none 0 0, .int .i64 0, .int .i64 0, .slice none 0 0]) := mkHid ((Blk.at _ _ _ (by simp)).alloc _)
  have ZA : Hid (Blk ((((w.alloc (.cells #[.int .i64 m.h, .int .i64 m.cap, .slice A m.l.length c, .int .i64 m.n, .int .i64 m.draws, .slice B m.sent.length d] 45)).alloc (.cells #[.int .i64 k, .int .u64 (i : Int), .int .i64 n, .int .u64 (p1.toNat : Int), .int .u64 (p2.toNat : Int)] 53)).alloc (.cells #[.int .i64 0, .int .i64 0, .slice none 0 0, .int .i64 0, .int .i64 0, .slice none 0 0] 45)).alloc (.cells #[.int .i64 0, .int .i64 0, .int .i64 0, .int .u64 0, .int .u64 0] 55)) (w.heap.size + 1 + 1 + 1) 55 #[.int .i64 0, .int .i64 0, .int .i64 0, .int .u64 0, .int .u64 0]) := mkHid (Blk.at _ _ _ (by simp))
  have KB : Hid (Below w.heap.size w ((((w.alloc (.cells #[.int .i64 m.h, .int .i64 m.cap, .slice A m.l.length c, .int .i64 m.n, .int .i64 m.draws, .slice B m.sent.length d] 45)).alloc (.cells #[.int .i64 k, .int .u64 (i : Int), .int .i64 n, .int .u64 (p1.toNat : Int), .int .u64 (p2.toNat : Int)] 53)).alloc (.cells #[.int .i64 0, .int .i64 0, .slice none 0 0, .int .i64 0, .int .i64 0, .slice none 0 0] 45)).alloc (.cells #[.int .i64 0, .int .i64 0, .int .i64 0, .int .u64 0, .int .u64 0] 55))) := mkHid (((((Below.refl _ _).alloc (Nat.le_refl _) (.cells #[.int .i64 m.h, .int .i64 m.cap, .slice A m.l.length c, .int .i64 m.n, .int .i64 m.draws, .slice B m.sent.length d] 45)).alloc (by simp) (.cells #[.int .i64 k, .int .u64 (i : Int), .int .i64 n, .int .u64 (p1.toNat : Int), .int .u64 (p2.toNat : Int)] 53)).alloc (by simp; omega) (.cells #[.int .i64 0, .int .i64 0, .slice none 0 0, .int .i64 0, .int .i64 0, .slice none 0 0] 45)).alloc (by simp; omega) (.cells #[.int .i64 0, .int .i64 0, .int .i64 0, .int .u64 0, .int .u64 0] 55))
  have HM := mkHid (hM.below (((((Below.refl _ _).alloc (Nat.le_refl _) (.cells #[.int .i64 m.h, .int .i64 m.cap, .slice A m.l.length c, .int .i64 m.n, .int .i64 m.draws, .slice B m.sent.length d] 45)).alloc (by simp) (.cells #[.int .i64 k, .int .u64 (i : Int), .int .i64 n, .int .u64 (p1.toNat : Int), .int .u64 (p2.toNat : Int)] 53)).alloc (by simp; omega) (.cells #[.int .i64 0, .int .i64 0, .slice none 0 0, .int .i64 0, .int .i64 0, .slice none 0 0] 45)).alloc (by simp; omega) (.cells #[.int .i64 0, .int .i64 0, .int .i64 0, .int .u64 0, .int .u64 0] 55)))
  clear hM
  go_enter Try.func29, Try.ntmps29
  go_upto_region 1 with fail
  generalize ((((w.alloc (.cells #[.int .i64 m.h, .int .i64 m.cap, .slice A m.l.length c, .int .i64 m.n, .int .i64 m.draws, .slice B m.sent.length d] 45)).alloc (.cells #[.int .i64 k, .int .u64 (i : Int), .int .i64 n, .int .u64 (p1.toNat : Int), .int .u64 (p2.toNat : Int)] 53)).alloc (.cells #[.int .i64 0, .int .i64 0, .slice none 0 0, .int .i64 0, .int .i64 0, .slice none 0 0] 45)).alloc (.cells #[.int .i64 0, .int .i64 0, .int .i64 0, .int .u64 0, .int .u64 0] 55)) = w0 at *
  have lZA : w.heap.size + 1 + 1 + 1 < w0.heap.size := ZA.out.lt
  have cX := ZX.out.six
  have cP := ZP.out.five
  go_wp2_with fail
  refine (mchk e _ _ _ _ _ HM.out).mono ?_
  rintro e w1 ⟨rfl, hb⟩
  replace ZX := mkHid (ZX.out.keep hb)
  replace ZP := mkHid (ZP.out.keep hb)
  replace ZZ := mkHid (ZZ.out.keep hb)
  replace ZA := mkHid (ZA.out.keep hb)
  replace KB := mkHid (KB.out.step hb)
  replace HM := mkHid (HM.out.below hb)
  clear hb
  clear lZA cX cP
  have lZA : w.heap.size + 1 + 1 + 1 < w1.heap.size := ZA.out.lt
  have cX := ZX.out.six
  have cP := ZP.out.five
  go_upto_region 2 with fail
  replace ZA : Hid (Blk w1.drew _ _ _) := mkHid ZA.out.drew
  replace ZZ : Hid (Blk w1.drew _ _ _) := mkHid ZZ.out.drew
  replace KB : Hid (Below w.heap.size w w1.drew) := mkHid KB.out.drew
  clear cX cP
  have cZ := ZZ.out.six
  have cA := ZA.out.five
  have gz0 := ZZ.out.frozen 0
  have gz1 := ZZ.out.frozen 1
  have gz2 := ZZ.out.frozen 2
  have gz3 := ZZ.out.frozen 3
  have gz4 := ZZ.out.frozen 4
  have gz5 := ZZ.out.frozen 5
  have ga0 := ZA.out.frozen 0
  have ga1 := ZA.out.frozen 1
  have ga2 := ZA.out.frozen 2
  have ga3 := ZA.out.frozen 3
  have ga4 := ZA.out.frozen 4
  clear ZP ZX HM
  refine wp_region_late (late := fun i => decide (3 ≤ i)) (S := fun w' => Hid (Blk w' (w.heap.size + 1 + 1 + 1) 55 #[.int .i64 0, .int .i64 0, .int .i64 0, .int .u64 0, .int .u64 0])) (by kernel_rfl) ?_ (fun hHeld => ?_)
  · ((try dsimp only); first | with_reducible assumption | (with_reducible refine mkHid (Blk.other6 (Hid.out ?_) ?_) <;> first | with_reducible assumption | omega))
  generalize w1.drew = u at *
  refine Any.take (i := 0) (v := ?_) rfl (by kernel_rfl) (by kernel_rfl) (by kernel_rfl) (by kernel_rfl) (fun _ _ _ h => h) (Or.inl ⟨by rfl, ?_⟩) hHeld ?_
  rotate_left
  · intro w hSw
    (try dsimp only at hSw)
    go_simp
    all_goals with_reducible rfl
  try simp only [List.getElem_toArray, List.getElem_cons_succ, List.getElem_cons_zero, Act.put, List.setIfInBounds_toArray, List.set_cons_zero, List.set_cons_succ]
  refine Any.take (i := 1) (v := ?_) rfl (by kernel_rfl) (by kernel_rfl) (by kernel_rfl) (by kernel_rfl) (fun _ _ _ h => h) (Or.inl ⟨by rfl, ?_⟩) hHeld ?_
  rotate_left
  · intro w hSw
    (try dsimp only at hSw)
    have q := hSw.out.five
    clear hSw
    go_simp
    all_goals with_reducible rfl
  try simp only [List.getElem_toArray, List.getElem_cons_succ, List.getElem_cons_zero, Act.put, List.setIfInBounds_toArray, List.set_cons_zero, List.set_cons_succ]
  refine Any.ready (rs := [2]) (by kernel_rfl) (by simp) ?_
  refine AllAny.cons rfl rfl (fun K hK => ?_) AllAny.nil
  go_simp
  refine hK.out _ _ ?_ (fun hHeld => ?_)
  · ((try dsimp only); first | with_reducible assumption | (with_reducible refine mkHid (Blk.other6 (Hid.out ?_) ?_) <;> first | with_reducible assumption | omega))
  clear hK K
  try simp only [List.getElem_toArray, List.getElem_cons_succ, List.getElem_cons_zero, Act.put, List.setIfInBounds_toArray, List.set_cons_zero, List.set_cons_succ]
  refine Any.ready (rs := [3]) (by kernel_rfl) (by simp) ?_
  refine AllAny.lateCons rfl rfl (fun K hK => ?_) AllAny.nil
  go_simp
  refine hK.out _ _ ?_
  clear hK K
  try simp only [List.getElem_toArray, List.getElem_cons_succ, List.getElem_cons_zero, Act.put, List.setIfInBounds_toArray, List.set_cons_zero, List.set_cons_succ]
  refine Any.ready (rs := [4]) (by kernel_rfl) (by simp) ?_
  refine AllAny.lateCons rfl rfl (fun K hK => ?_) AllAny.nil
  go_simp
  refine hK.out _ _ ?_
  clear hK K
  try simp only [List.getElem_toArray, List.getElem_cons_succ, List.getElem_cons_zero, Act.put, List.setIfInBounds_toArray, List.set_cons_zero, List.set_cons_succ]
  refine Any.done (by kernel_rfl) ?_ _
  have qR := ((ZZ.out.fill6 (b0 := .int .i64 0) (b1 := .int .i64 0) (b2 := .slice none 0 0) (b3 := .int .i64 0) (b4 := .int .i64 0) (b5 := .slice none 0 0)).other5 (g := w.heap.size + 1 + 1 + 1) (x0 := .int .i64 0) (x1 := .int .i64 0) (x2 := .int .i64 0) (x3 := .int .u64 0) (x4 := .int .u64 0) (by omega)).six
  have qA := ((ZA.out.other6 (g := w.heap.size + 1 + 1) (x0 := .int .i64 0) (x1 := .int .i64 0) (x2 := .slice none 0 0) (x3 := .int .i64 0) (x4 := .int .i64 0) (x5 := .slice none 0 0) (by omega)).fill5 (b0 := .int .i64 0) (b1 := .int .i64 0) (b2 := .int .i64 0) (b3 := .int .u64 0) (b4 := .int .u64 0)).five
  go_wp2_with fail
  refine bodyPost_ret (v := .tuple #[.agg #[.int .i64 0, .int .i64 0, .slice none 0 0, .int .i64 0, .int .i64 0, .slice none 0 0], .agg #[.int .i64 0, .int .i64 0, .int .i64 0, .int .u64 0, .int .u64 0], .int .i64 1]) (by simp [results, Try.results29, go_sem, qR, qA]) rfl ⟨none, 0, none, 0, [], rfl, OwnM.zero _ _, below_five (below_six KB.out (by omega) _ _ _ _ _ _) (by omega) _ _ _ _ _⟩
end Go.Proofs.Ytmehbonjpmlmfaa

namespace Go.Proofs.Ytmehbonjpmlmfaa
open Go.RowKit

set_option linter.unusedSimpArgs false in
set_option maxRecDepth 100000 in
set_option maxHeartbeats 4000000 in
theorem do1_err_true {m : ModD} {i : Nat} {n : Int} {p1 p2 : BitVec 64} (e : Hid ((if okM m then (0 : Int) else 1) = 0)) {L : List Nat} {r : Int} (f : Hid (withAll m.h m.l i = (L, r))) (r0 : r ≠ 0) (r6 : r ≠ 6) (h1 : (m.l.length : Int) < m.cap) (A : Option Addr) (c : Nat) (B : Option Addr) (d : Nat) (w : World) (hM : MemM w A c B d m) :
    Calls Try.prog 29 #[.agg #[.int .i64 m.h, .int .i64 m.cap, .slice A m.l.length c, .int .i64 m.n, .int .i64 m.draws, .slice B m.sent.length d], .agg #[.int .i64 1, .int .u64 (i : Int), .int .i64 n, .int .u64 (p1.toNat : Int), .int .u64 (p2.toNat : Int)]] w (DoPost m (ansE r) 0 w) := by
  have HS := mkHid (okM_sizes (m := m) (by cases hk : okM m with | true => rfl | false => exact absurd e.out (by rw [hk]; simp)))
  have t1 : decide ((m.l.length : Int) < m.cap) = true := decide_eq_true h1
  have ZX : Hid (Blk ((((w.alloc (.cells #[.int .i64 m.h, .int .i64 m.cap, .slice A m.l.length c, .int .i64 m.n, .int .i64 m.draws, .slice B m.sent.length d] 45)).alloc (.cells #[.int .i64 1, .int .u64 (i : Int), .int .i64 n, .int .u64 (p1.toNat : Int), .int .u64 (p2.toNat : Int)] 53)).alloc (.cells #[.int .i64 0, .int .i64 0, .slice none 0 0, .int .i64 0, .int .i64 0, .slice none 0 0] 45)).alloc (.cells #[.int .i64 0, .int .i64 0, .int .i64 0, .int .u64 0, .int .u64 0] 55)) w.heap.size 45 #[.int .i64 m.h, .int .i64 m.cap, .slice A m.l.length c, .int .i64 m.n, .int .i64 m.draws, .slice B m.sent.length d]) := mkHid ((((Blk.new _ _ _).alloc _).alloc _).alloc _)
  have ZP : Hid (Blk ((((w.alloc (.cells #[.int .i64 m.h, .int .i64 m.cap, .slice A m.l.length c, .int .i64 m.n, .int .i64 m.draws, .slice B m.sent.length d] 45)).alloc (.cells #[.int .i64 1, .int .u64 (i : Int), .int .i64 n, .int .u64 (p1.toNat : Int), .int .u64 (p2.toNat : Int)] 53)).alloc (.cells #[.int .i64 0, .int .i64 0, .slice none 0 0, .int .i64 0, .int .i64 0, .slice none 0 0] 45)).alloc (.cells #[.int .i64 0, .int .i64 0, .int .i64 0, .int .u64 0, .int .u64 0] 55)) (w.heap.size + 1) 53 #[.int .i64 1, .int .u64 (i : Int), .int .i64 n, .int .u64 (p1.toNat : Int), .int .u64 (p2.toNat : Int)]) := mkHid (((Blk.at _ _ _ (by simp)).alloc _).alloc _)
  have ZZ : Hid (Blk ((((w.alloc (.cells #[.int .i64 m.h, .int .i64 m.cap, .slice A m.l.length c, .int .i64 m.n, .int .i64 m.draws, .slice B m.sent.length d] 45)).alloc (.cells #[.int .i64 1, .int .u64 (i : Int), .int .i64 n, .int .u64 (p1.toNat : Int), .int .u64 (p2.toNat : Int)] 53)).alloc (.cells #[.int .i64 0, .int .i64 0, .slice none 0 0, .int .i64 0, .int .i64 0, .slice none 0 0] 45)).alloc (.cells #[.int .i64 0, .int .i64 0, .int .i64 0, .int .u64 0, .int .u64 0] 55)) (w.heap.size + 1 + 1) 45 #[.int .i64 0, .int .i64 0, .slice none 0 0, .int .i64 0, .int .i64 0, .slice none 0 0]) := mkHid ((Blk.at _ _ _ (by simp)).alloc _)
  have ZA : Hid (Blk ((((w.alloc (.cells #[.int .i64 m.h, .int .i64 m.cap, .slice A m.l.length c, .int .i64 m.n, .int .i64 m.draws, .slice B m.sent.length d] 45)).alloc (.cells #[.int .i64 1, .int .u64 (i : Int), .int .i64 n, .int .u64 (p1.toNat : Int), .int .u64 (p2.toNat : Int)] 53)).alloc (.cells #[.int .i64 0, .int .i64 0, .slice none 0 0, .int .i64 0, .int .i64 0, .slice none 0 0] 45)).alloc (.cells #[.int .i64 0, .int .i64 0, .int .i64 0, .int .u64 0, .int .u64 0] 55)) (w.heap.size + 1 + 1 + 1) 55 #[.int .i64 0, .int .i64 0, .int .i64 0, .int .u64 0, .int .u64 0]) := mkHid (Blk.at _ _ _ (by simp))
  have KB : Hid (Below w.heap.size w ((((w.alloc (.cells #[.int .i64 m.h, .int .i64 m.cap, .slice A m.l.length c, .int .i64 m.n, .int .i64 m.draws, .slice B m.sent.length d] 45)).alloc (.cells #[.int .i64 1, .int .u64 (i : Int), .int .i64 n, .int .u64 (p1.toNat : Int), .int .u64 (p2.toNat : Int)] 53)).alloc (.cells #[.int .i64 0, .int .i64 0, .slice none 0 0, .int .i64 0, .int .i64 0, .slice none 0 0] 45)).alloc (.cells #[.int .i64 0, .int .i64 0, .int .i64 0, .int .u64 0, .int .u64 0] 55))) := mkHid (((((Below.refl _ _).alloc (Nat.le_refl _) (.cells #[.int .i64 m.h, .int .i64 m.cap, .slice A m.l.length c, .int .i64 m.n, .int .i64 m.draws, .slice B m.sent.length d] 45)).alloc (by simp) (.cells #[.int .i64 1, .int .u64 (i : Int), .int .i64 n, .int .u64 (p1.toNat : Int), .int .u64 (p2.toNat : Int)] 53)).alloc (by simp; omega) (.cells #[.int .i64 0, .int .i64 0, .slice none 0 0, .int .i64 0, .int .i64 0, .slice none 0 0] 45)).alloc (by simp; omega) (.cells #[.int .i64 0, .int .i64 0, .int .i64 0, .int .u64 0, .int .u64 0] 55))
  have HM := mkHid (hM.below (((((Below.refl _ _).alloc (Nat.le_refl _) (.cells #[.int .i64 m.h, .int .i64 m.cap, .slice A m.l.length c, .int .i64 m.n, .int .i64 m.draws, .slice B m.sent.length d] 45)).alloc (by simp) (.cells #[.int .i64 1, .int .u64 (i : Int), .int .i64 n, .int .u64 (p1.toNat : Int), .int .u64 (p2.toNat : Int)] 53)).alloc (by simp; omega) (.cells #[.int .i64 0, .int .i64 0, .slice none 0 0, .int .i64 0, .int .i64 0, .slice none 0 0] 45)).alloc (by simp; omega) (.cells #[.int .i64 0, .int .i64 0, .int .i64 0, .int .u64 0, .int .u64 0] 55)))
  clear hM
  go_enter Try.func29, Try.ntmps29
  go_upto_region 1 with fail
  generalize ((((w.alloc (.cells #[.int .i64 m.h, .int .i64 m.cap, .slice A m.l.length c, .int .i64 m.n, .int .i64 m.draws, .slice B m.sent.length d] 45)).alloc (.cells #[.int .i64 1, .int .u64 (i : Int), .int .i64 n, .int .u64 (p1.toNat : Int), .int .u64 (p2.toNat : Int)] 53)).alloc (.cells #[.int .i64 0, .int .i64 0, .slice none 0 0, .int .i64 0, .int .i64 0, .slice none 0 0] 45)).alloc (.cells #[.int .i64 0, .int .i64 0, .int .i64 0, .int .u64 0, .int .u64 0] 55)) = w0 at *
  have lZA : w.heap.size + 1 + 1 + 1 < w0.heap.size := ZA.out.lt
  have cX := ZX.out.six
  have cP := ZP.out.five
  go_wp2_with fail
  refine (mchk e _ _ _ _ _ HM.out).mono ?_
  rintro e w1 ⟨rfl, hb⟩
  replace ZX := mkHid (ZX.out.keep hb)
  replace ZP := mkHid (ZP.out.keep hb)
  replace ZZ := mkHid (ZZ.out.keep hb)
  replace ZA := mkHid (ZA.out.keep hb)
  replace KB := mkHid (KB.out.step hb)
  replace HM := mkHid (HM.out.below hb)
  clear hb
  clear lZA cX cP
  have lZA : w.heap.size + 1 + 1 + 1 < w1.heap.size := ZA.out.lt
  have cX := ZX.out.six
  have cP := ZP.out.five
  go_wp2_with fail
  refine (mown HS.out.1 HS.out.2.1 HS.out.2.2 _ _ _ _ _ HM.out).mono ?_
  rintro e w2 ⟨⟨A1, c1, B1, d1, X1, rfl, ho⟩, hb⟩
  have HO := mkHid (ho.base (b := w.heap.size + 4) (by omega))
  clear ho HM
  replace ZX := mkHid (ZX.out.keep hb)
  replace ZP := mkHid (ZP.out.keep hb)
  replace ZZ := mkHid (ZZ.out.keep hb)
  replace ZA := mkHid (ZA.out.keep hb)
  replace KB := mkHid (KB.out.step hb)
  clear hb
  clear lZA cX cP
  have lZA : w.heap.size + 1 + 1 + 1 < w2.heap.size := ZA.out.lt
  have cX := ZX.out.six
  have cP := ZP.out.five
  have fX0 := ZX.out.frozen 0
  have fX1 := ZX.out.frozen 1
  have fX2 := ZX.out.frozen 2
  have fX3 := ZX.out.frozen 3
  have fX4 := ZX.out.frozen 4
  have fX5 := ZX.out.frozen 5
  go_upto_region 4 with fail
  replace ZX := mkHid (ZX.out.fill6 (b0 := .int .i64 m.h) (b1 := .int .i64 m.cap) (b2 := .slice A1 m.l.length c1) (b3 := .int .i64 m.n) (b4 := .int .i64 m.draws) (b5 := .slice B1 m.sent.length d1))
  replace ZP := mkHid (ZP.out.other6 (g := w.heap.size) (x0 := .int .i64 m.h) (x1 := .int .i64 m.cap) (x2 := .slice A1 m.l.length c1) (x3 := .int .i64 m.n) (x4 := .int .i64 m.draws) (x5 := .slice B1 m.sent.length d1) (by omega))
  replace ZZ := mkHid (ZZ.out.other6 (g := w.heap.size) (x0 := .int .i64 m.h) (x1 := .int .i64 m.cap) (x2 := .slice A1 m.l.length c1) (x3 := .int .i64 m.n) (x4 := .int .i64 m.draws) (x5 := .slice B1 m.sent.length d1) (by omega))
  replace ZA := mkHid (ZA.out.other6 (g := w.heap.size) (x0 := .int .i64 m.h) (x1 := .int .i64 m.cap) (x2 := .slice A1 m.l.length c1) (x3 := .int .i64 m.n) (x4 := .int .i64 m.draws) (x5 := .slice B1 m.sent.length d1) (by omega))
  replace KB := mkHid (below_six KB.out (Nat.le_refl _) (.int .i64 m.h) (.int .i64 m.cap) (.slice A1 m.l.length c1) (.int .i64 m.n) (.int .i64 m.draws) (.slice B1 m.sent.length d1))
  replace HO := mkHid (HO.out.past6 (g := w.heap.size) (by omega) (.int .i64 m.h) (.int .i64 m.cap) (.slice A1 m.l.length c1) (.int .i64 m.n) (.int .i64 m.draws) (.slice B1 m.sent.length d1))
  clear lZA cX cP fX0 fX1 fX2 fX3 fX4 fX5
  generalize ((((((w2.setCell ⟨w.heap.size, 0, none⟩ (.int .i64 m.h)).setCell ⟨w.heap.size, 1, none⟩ (.int .i64 m.cap)).setCell ⟨w.heap.size, 2, none⟩ (.slice A1 m.l.length c1)).setCell ⟨w.heap.size, 3, none⟩ (.int .i64 m.n)).setCell ⟨w.heap.size, 4, none⟩ (.int .i64 m.draws)).setCell ⟨w.heap.size, 5, none⟩ (.slice B1 m.sent.length d1)) = w3 at *
  have lZA : w.heap.size + 1 + 1 + 1 < w3.heap.size := ZA.out.lt
  have cX := ZX.out.six
  have cP := ZP.out.five
  have cA := ZA.out.five
  have HRd := mkHid HO.out.reads
  have fa := ZA.out.frozen 0
  go_wp2_with fail
  refine (cw_err_true f r0 r6 w.heap.size A1 c1 B1 d1 _ ZX.out HRd.out).mono ?_
  rintro e w4 ⟨rfl, hb⟩
  clear HRd fa
  replace ZX := mkHid (ZX.out.keep hb)
  replace ZP := mkHid (ZP.out.keep hb)
  replace ZZ := mkHid (ZZ.out.keep hb)
  replace ZA := mkHid (ZA.out.keep hb)
  replace KB := mkHid (KB.out.step hb)
  replace HO := mkHid (HO.out.below hb)
  clear hb
  clear lZA cX cP cA
  have lZA : w.heap.size + 1 + 1 + 1 < w4.heap.size := ZA.out.lt
  have cX := ZX.out.six
  have cP := ZP.out.five
  have cA := ZA.out.five
  have fa := ZA.out.frozen 0
  go_upto_region 23 with fail
  clear fa
  replace ZX : Hid (Blk (w4.setCell ⟨w.heap.size + 1 + 1 + 1, 0, none⟩ (.int .i64 r)) w.heap.size 45 #[.int .i64 m.h, .int .i64 m.cap, .slice A1 m.l.length c1, .int .i64 m.n, .int .i64 m.draws, .slice B1 m.sent.length d1]) := mkHid ((ZX.out.other _ (by omega)))
  replace ZP : Hid (Blk (w4.setCell ⟨w.heap.size + 1 + 1 + 1, 0, none⟩ (.int .i64 r)) (w.heap.size + 1) 53 #[.int .i64 1, .int .u64 (i : Int), .int .i64 n, .int .u64 (p1.toNat : Int), .int .u64 (p2.toNat : Int)]) := mkHid ((ZP.out.other _ (by omega)))
  replace ZZ : Hid (Blk (w4.setCell ⟨w.heap.size + 1 + 1 + 1, 0, none⟩ (.int .i64 r)) (w.heap.size + 1 + 1) 45 #[.int .i64 0, .int .i64 0, .slice none 0 0, .int .i64 0, .int .i64 0, .slice none 0 0]) := mkHid ((ZZ.out.other _ (by omega)))
  replace ZA : Hid (Blk (w4.setCell ⟨w.heap.size + 1 + 1 + 1, 0, none⟩ (.int .i64 r)) (w.heap.size + 1 + 1 + 1) 55 #[.int .i64 r, .int .i64 0, .int .i64 0, .int .u64 0, .int .u64 0]) := mkHid ((ZA.out.set 0 (.int .i64 r)))
  replace KB : Hid (Below w.heap.size w (w4.setCell ⟨w.heap.size + 1 + 1 + 1, 0, none⟩ (.int .i64 r))) := mkHid ((KB.out.setCell (by show w.heap.size ≤ w.heap.size + 1 + 1 + 1; omega) _))
  replace HO := mkHid ((HO.out.past (g := w.heap.size + 1 + 1 + 1) (by omega) 0 (.int .i64 r)))
  generalize (w4.setCell ⟨w.heap.size + 1 + 1 + 1, 0, none⟩ (.int .i64 r)) = w5 at *
  clear lZA cX cP cA
  have lZA : w.heap.size + 1 + 1 + 1 < w5.heap.size := ZA.out.lt
  have cX := ZX.out.six
  have cP := ZP.out.five
  have cA := ZA.out.five
  replace ZX : Hid (Blk w5.drew _ _ _) := mkHid ZX.out.drew
  replace ZA : Hid (Blk w5.drew _ _ _) := mkHid ZA.out.drew
  replace ZZ : Hid (Blk w5.drew _ _ _) := mkHid ZZ.out.drew
  replace KB : Hid (Below w.heap.size w w5.drew) := mkHid KB.out.drew
  replace HO := mkHid (HO.out.below (Below.drew (Below.refl _ w5)))
  clear cX cP cA
  have cZ := ZZ.out.six
  have cA := ZA.out.five
  have gz0 := ZZ.out.frozen 0
  have gz1 := ZZ.out.frozen 1
  have gz2 := ZZ.out.frozen 2
  have gz3 := ZZ.out.frozen 3
  have gz4 := ZZ.out.frozen 4
  have gz5 := ZZ.out.frozen 5
  have ga0 := ZA.out.frozen 0
  have ga1 := ZA.out.frozen 1
  have ga2 := ZA.out.frozen 2
  have ga3 := ZA.out.frozen 3
  have ga4 := ZA.out.frozen 4
  clear ZP
  refine wp_region_late (late := fun i => decide (3 ≤ i)) (S := fun w' => Hid (Blk w' w.heap.size 45 #[.int .i64 m.h, .int .i64 m.cap, .slice A1 m.l.length c1, .int .i64 m.n, .int .i64 m.draws, .slice B1 m.sent.length d1]) ∧ Hid (Blk w' (w.heap.size + 1 + 1 + 1) 55 #[.int .i64 r, .int .i64 0, .int .i64 0, .int .u64 0, .int .u64 0])) (by kernel_rfl) ?_ (fun hHeld => ?_)
  · ((try dsimp only); refine ⟨?_, ?_⟩ <;> first | with_reducible assumption | (with_reducible refine mkHid (Blk.other6 (Hid.out ?_) ?_) <;> first | with_reducible assumption | omega))
  generalize w5.drew = u at *
  refine Any.take (i := 0) (v := ?_) rfl (by kernel_rfl) (by kernel_rfl) (by kernel_rfl) (by kernel_rfl) (fun _ _ _ h => h) (Or.inl ⟨by rfl, ?_⟩) hHeld ?_
  rotate_left
  · intro w hSw
    (try dsimp only at hSw)
    have q := hSw.1.out.six
    clear hSw
    go_simp
    all_goals with_reducible rfl
  try simp only [List.getElem_toArray, List.getElem_cons_succ, List.getElem_cons_zero, Act.put, List.setIfInBounds_toArray, List.set_cons_zero, List.set_cons_succ]
  refine Any.take (i := 1) (v := ?_) rfl (by kernel_rfl) (by kernel_rfl) (by kernel_rfl) (by kernel_rfl) (fun _ _ _ h => h) (Or.inl ⟨by rfl, ?_⟩) hHeld ?_
  rotate_left
  · intro w hSw
    (try dsimp only at hSw)
    have q := hSw.2.out.five
    clear hSw
    go_simp
    all_goals with_reducible rfl
  try simp only [List.getElem_toArray, List.getElem_cons_succ, List.getElem_cons_zero, Act.put, List.setIfInBounds_toArray, List.set_cons_zero, List.set_cons_succ]
  refine Any.ready (rs := [2]) (by kernel_rfl) (by simp) ?_
  refine AllAny.cons rfl rfl (fun K hK => ?_) AllAny.nil
  go_simp
  refine hK.out _ _ ?_ (fun hHeld => ?_)
  · ((try dsimp only); refine ⟨?_, ?_⟩ <;> first | with_reducible assumption | (with_reducible refine mkHid (Blk.other6 (Hid.out ?_) ?_) <;> first | with_reducible assumption | omega))
  clear hK K
  try simp only [List.getElem_toArray, List.getElem_cons_succ, List.getElem_cons_zero, Act.put, List.setIfInBounds_toArray, List.set_cons_zero, List.set_cons_succ]
  refine Any.ready (rs := [3]) (by kernel_rfl) (by simp) ?_
  refine AllAny.lateCons rfl rfl (fun K hK => ?_) AllAny.nil
  go_simp
  refine hK.out _ _ ?_
  clear hK K
  try simp only [List.getElem_toArray, List.getElem_cons_succ, List.getElem_cons_zero, Act.put, List.setIfInBounds_toArray, List.set_cons_zero, List.set_cons_succ]
  refine Any.ready (rs := [4]) (by kernel_rfl) (by simp) ?_
  refine AllAny.lateCons rfl rfl (fun K hK => ?_) AllAny.nil
  go_simp
  refine hK.out _ _ ?_
  clear hK K
  try simp only [List.getElem_toArray, List.getElem_cons_succ, List.getElem_cons_zero, Act.put, List.setIfInBounds_toArray, List.set_cons_zero, List.set_cons_succ]
  refine Any.done (by kernel_rfl) ?_ _
  have qR := ((ZZ.out.fill6 (b0 := .int .i64 m.h) (b1 := .int .i64 m.cap) (b2 := .slice A1 m.l.length c1) (b3 := .int .i64 m.n) (b4 := .int .i64 m.draws) (b5 := .slice B1 m.sent.length d1)).other5 (g := w.heap.size + 1 + 1 + 1) (x0 := .int .i64 r) (x1 := .int .i64 0) (x2 := .int .i64 0) (x3 := .int .u64 0) (x4 := .int .u64 0) (by omega)).six
  have qA := ((ZA.out.other6 (g := w.heap.size + 1 + 1) (x0 := .int .i64 m.h) (x1 := .int .i64 m.cap) (x2 := .slice A1 m.l.length c1) (x3 := .int .i64 m.n) (x4 := .int .i64 m.draws) (x5 := .slice B1 m.sent.length d1) (by omega)).fill5 (b0 := .int .i64 r) (b1 := .int .i64 0) (b2 := .int .i64 0) (b3 := .int .u64 0) (b4 := .int .u64 0)).five
  go_wp2_with fail
  refine bodyPost_ret (v := .tuple #[.agg #[.int .i64 m.h, .int .i64 m.cap, .slice A1 m.l.length c1, .int .i64 m.n, .int .i64 m.draws, .slice B1 m.sent.length d1], .agg #[.int .i64 r, .int .i64 0, .int .i64 0, .int .u64 0, .int .u64 0], .int .i64 0]) (by simp [results, Try.results29, go_sem, qR, qA]) rfl ⟨_, _, _, _, X1, rfl, OwnM.base (b' := w.heap.size + 4) ?_ (by omega), below_five (below_six KB.out (by omega) _ _ _ _ _ _) (by omega) _ _ _ _ _⟩
  exact (HO.out.past6 (by omega) _ _ _ _ _ _).past5 (by omega) _ _ _ _ _

set_option linter.unusedSimpArgs false in
set_option maxRecDepth 100000 in
set_option maxHeartbeats 4000000 in
theorem do1_err_false {m : ModD} {i : Nat} {n : Int} {p1 p2 : BitVec 64} (e : Hid ((if okM m then (0 : Int) else 1) = 0)) {L : List Nat} {r : Int} (f : Hid (withAll m.h m.l i = (L, r))) (r0 : r ≠ 0) (r6 : r ≠ 6) (h1 : ¬ (m.l.length : Int) < m.cap) (A : Option Addr) (c : Nat) (B : Option Addr) (d : Nat) (w : World) (hM : MemM w A c B d m) :
    Calls Try.prog 29 #[.agg #[.int .i64 m.h, .int .i64 m.cap, .slice A m.l.length c, .int .i64 m.n, .int .i64 m.draws, .slice B m.sent.length d], .agg #[.int .i64 1, .int .u64 (i : Int), .int .i64 n, .int .u64 (p1.toNat : Int), .int .u64 (p2.toNat : Int)]] w (DoPost m (ansE r) 0 w) := by
  have HS := mkHid (okM_sizes (m := m) (by cases hk : okM m with | true => rfl | false => exact absurd e.out (by rw [hk]; simp)))
  have t1 : decide ((m.l.length : Int) < m.cap) = false := decide_eq_false h1
  have ZX : Hid (Blk ((((w.alloc (.cells #[.int .i64 m.h, .int .i64 m.cap, .slice A m.l.length c, .int .i64 m.n, .int .i64 m.draws, .slice B m.sent.length d] 45)).alloc (.cells #[.int .i64 1, .int .u64 (i : Int), .int .i64 n, .int .u64 (p1.toNat : Int), .int .u64 (p2.toNat : Int)] 53)).alloc (.cells #[.int .i64 0, .int .i64 0, .slice none 0 0, .int .i64 0, .int .i64 0, .slice none 0 0] 45)).alloc (.cells #[.int .i64 0, .int .i64 0, .int .i64 0, .int .u64 0, .int .u64 0] 55)) w.heap.size 45 #[.int .i64 m.h, .int .i64 m.cap, .slice A m.l.length c, .int .i64 m.n, .int .i64 m.draws, .slice B m.sent.length d]) := mkHid ((((Blk.new _ _ _).alloc _).alloc _).alloc _)
  have ZP : Hid (Blk ((((w.alloc (.cells #[.int .i64 m.h, .int .i64 m.cap, .slice A m.l.length c, .int .i64 m.n, .int .i64 m.draws, .slice B m.sent.length d] 45)).alloc (.cells #[.int .i64 1, .int .u64 (i : Int), .int .i64 n, .int .u64 (p1.toNat : Int), .int .u64 (p2.toNat : Int)] 53)).alloc (.cells #[.int .i64 0, .int .i64 0, .slice none 0 0, .int .i64 0, .int .i64 0, .slice none 0 0] 45)).alloc (.cells #[.int .i64 0, .int .i64 0, .int .i64 0, .int .u64 0, .int .u64 0] 55)) (w.heap.size + 1) 53 #[.int .i64 1, .int .u64 (i : Int), .int .i64 n, .int .u64 (p1.toNat : Int), .int .u64 (p2.toNat : Int)]) := mkHid (((Blk.at _ _ _ (by simp)).alloc _).alloc _)
  have ZZ : Hid (Blk ((((w.alloc (.cells #[.int .i64 m.h, .int .i64 m.cap, .slice A m.l.length c, .int .i64 m.n, .int .i64 m.draws, .slice B m.sent.length d] 45)).alloc (.cells #[.int .i64 1, .int .u64 (i : Int), .int .i64 n, .int .u64 (p1.toNat : Int), .int .u64 (p2.toNat : Int)] 53)).alloc (.cells #[.int .i64 0, .int .i64 0, .slice none 0 0, .int .i64 0, .int .i64 0, .slice none 0 0] 45)).alloc (.cells #[.int .i64 0, .int .i64 0, .int .i64 0, .int .u64 0, .int .u64 0] 55)) (w.heap.size + 1 + 1) 45 #[.int .i64 0, .int .i64 0, .slice none 0 0, .int .i64 0, .int .i64 0, .slice none 0 0]) := mkHid ((Blk.at _ _ _ (by simp)).alloc _)
  have ZA : Hid (Blk ((((w.alloc (.cells #[.int .i64 m.h, .int .i64 m.cap, .slice A m.l.length c, .int .i64 m.n, .int .i64 m.draws, .slice B m.sent.length d] 45)).alloc (.cells #[.int .i64 1, .int .u64 (i : Int), .int .i64 n, .int .u64 (p1.toNat : Int), .int .u64 (p2.toNat : Int)] 53)).alloc (.cells #[.int .i64 0, .int .i64 0, .slice none 0 0, .int .i64 0, .int .i64 0, .slice none 0 0] 45)).alloc (.cells #[.int .i64 0, .int .i64 0, .int .i64 0, .int .u64 0, .int .u64 0] 55)) (w.heap.size + 1 + 1 + 1) 55 #[.int .i64 0, .int .i64 0, .int .i64 0, .int .u64 0, .int .u64 0]) := mkHid (Blk.at _ _ _ (by simp))
  have KB : Hid (Below w.heap.size w ((((w.alloc (.cells #[.int .i64 m.h, .int .i64 m.cap, .slice A m.l.length c, .int .i64 m.n, .int .i64 m.draws, .slice B m.sent.length d] 45)).alloc (.cells #[.int .i64 1, .int .u64 (i : Int), .int .i64 n, .int .u64 (p1.toNat : Int), .int .u64 (p2.toNat : Int)] 53)).alloc (.cells #[.int .i64 0, .int .i64 0, .slice none 0 0, .int .i64 0, .int .i64 0, .slice none 0 0] 45)).alloc (.cells #[.int .i64 0, .int .i64 0, .int .i64 0, .int .u64 0, .int .u64 0] 55))) := mkHid (((((Below.refl _ _).alloc (Nat.le_refl _) (.cells #[.int .i64 m.h, .int .i64 m.cap, .slice A m.l.length c, .int .i64 m.n, .int .i64 m.draws, .slice B m.sent.length d] 45)).alloc (by simp) (.cells #[.int .i64 1, .int .u64 (i : Int), .int .i64 n, .int .u64 (p1.toNat : Int), .int .u64 (p2.toNat : Int)] 53)).alloc (by simp; omega) (.cells #[.int .i64 0, .int .i64 0, .slice none 0 0, .int .i64 0, .int .i64 0, .slice none 0 0] 45)).alloc (by simp; omega) (.cells #[.int .i64 0, .int .i64 0, .int .i64 0, .int .u64 0, .int .u64 0] 55))
  have HM := mkHid (hM.below (((((Below.refl _ _).alloc (Nat.le_refl _) (.cells #[.int .i64 m.h, .int .i64 m.cap, .slice A m.l.length c, .int .i64 m.n, .int .i64 m.draws, .slice B m.sent.length d] 45)).alloc (by simp) (.cells #[.int .i64 1, .int .u64 (i : Int), .int .i64 n, .int .u64 (p1.toNat : Int), .int .u64 (p2.toNat : Int)] 53)).alloc (by simp; omega) (.cells #[.int .i64 0, .int .i64 0, .slice none 0 0, .int .i64 0, .int .i64 0, .slice none 0 0] 45)).alloc (by simp; omega) (.cells #[.int .i64 0, .int .i64 0, .int .i64 0, .int .u64 0, .int .u64 0] 55)))
  clear hM
  go_enter Try.func29, Try.ntmps29
  go_upto_region 1 with fail
  generalize ((((w.alloc (.cells #[.int .i64 m.h, .int .i64 m.cap, .slice A m.l.length c, .int .i64 m.n, .int .i64 m.draws, .slice B m.sent.length d] 45)).alloc (.cells #[.int .i64 1, .int .u64 (i : Int), .int .i64 n, .int .u64 (p1.toNat : Int), .int .u64 (p2.toNat : Int)] 53)).alloc (.cells #[.int .i64 0, .int .i64 0, .slice none 0 0, .int .i64 0, .int .i64 0, .slice none 0 0] 45)).alloc (.cells #[.int .i64 0, .int .i64 0, .int .i64 0, .int .u64 0, .int .u64 0] 55)) = w0 at *
  have lZA : w.heap.size + 1 + 1 + 1 < w0.heap.size := ZA.out.lt
  have cX := ZX.out.six
  have cP := ZP.out.five
  go_wp2_with fail
  refine (mchk e _ _ _ _ _ HM.out).mono ?_
  rintro e w1 ⟨rfl, hb⟩
  replace ZX := mkHid (ZX.out.keep hb)
  replace ZP := mkHid (ZP.out.keep hb)
  replace ZZ := mkHid (ZZ.out.keep hb)
  replace ZA := mkHid (ZA.out.keep hb)
  replace KB := mkHid (KB.out.step hb)
  replace HM := mkHid (HM.out.below hb)
  clear hb
  clear lZA cX cP
  have lZA : w.heap.size + 1 + 1 + 1 < w1.heap.size := ZA.out.lt
  have cX := ZX.out.six
  have cP := ZP.out.five
  go_wp2_with fail
  refine (mown HS.out.1 HS.out.2.1 HS.out.2.2 _ _ _ _ _ HM.out).mono ?_
  rintro e w2 ⟨⟨A1, c1, B1, d1, X1, rfl, ho⟩, hb⟩
  have HO := mkHid (ho.base (b := w.heap.size + 4) (by omega))
  clear ho HM
  replace ZX := mkHid (ZX.out.keep hb)
  replace ZP := mkHid (ZP.out.keep hb)
  replace ZZ := mkHid (ZZ.out.keep hb)
  replace ZA := mkHid (ZA.out.keep hb)
  replace KB := mkHid (KB.out.step hb)
  clear hb
  clear lZA cX cP
  have lZA : w.heap.size + 1 + 1 + 1 < w2.heap.size := ZA.out.lt
  have cX := ZX.out.six
  have cP := ZP.out.five
  have fX0 := ZX.out.frozen 0
  have fX1 := ZX.out.frozen 1
  have fX2 := ZX.out.frozen 2
  have fX3 := ZX.out.frozen 3
  have fX4 := ZX.out.frozen 4
  have fX5 := ZX.out.frozen 5
  go_upto_region 4 with fail
  replace ZX := mkHid (ZX.out.fill6 (b0 := .int .i64 m.h) (b1 := .int .i64 m.cap) (b2 := .slice A1 m.l.length c1) (b3 := .int .i64 m.n) (b4 := .int .i64 m.draws) (b5 := .slice B1 m.sent.length d1))
  replace ZP := mkHid (ZP.out.other6 (g := w.heap.size) (x0 := .int .i64 m.h) (x1 := .int .i64 m.cap) (x2 := .slice A1 m.l.length c1) (x3 := .int .i64 m.n) (x4 := .int .i64 m.draws) (x5 := .slice B1 m.sent.length d1) (by omega))
  replace ZZ := mkHid (ZZ.out.other6 (g := w.heap.size) (x0 := .int .i64 m.h) (x1 := .int .i64 m.cap) (x2 := .slice A1 m.l.length c1) (x3 := .int .i64 m.n) (x4 := .int .i64 m.draws) (x5 := .slice B1 m.sent.length d1) (by omega))
  replace ZA := mkHid (ZA.out.other6 (g := w.heap.size) (x0 := .int .i64 m.h) (x1 := .int .i64 m.cap) (x2 := .slice A1 m.l.length c1) (x3 := .int .i64 m.n) (x4 := .int .i64 m.draws) (x5 := .slice B1 m.sent.length d1) (by omega))
  replace KB := mkHid (below_six KB.out (Nat.le_refl _) (.int .i64 m.h) (.int .i64 m.cap) (.slice A1 m.l.length c1) (.int .i64 m.n) (.int .i64 m.draws) (.slice B1 m.sent.length d1))
  replace HO := mkHid (HO.out.past6 (g := w.heap.size) (by omega) (.int .i64 m.h) (.int .i64 m.cap) (.slice A1 m.l.length c1) (.int .i64 m.n) (.int .i64 m.draws) (.slice B1 m.sent.length d1))
  clear lZA cX cP fX0 fX1 fX2 fX3 fX4 fX5
  generalize ((((((w2.setCell ⟨w.heap.size, 0, none⟩ (.int .i64 m.h)).setCell ⟨w.heap.size, 1, none⟩ (.int .i64 m.cap)).setCell ⟨w.heap.size, 2, none⟩ (.slice A1 m.l.length c1)).setCell ⟨w.heap.size, 3, none⟩ (.int .i64 m.n)).setCell ⟨w.heap.size, 4, none⟩ (.int .i64 m.draws)).setCell ⟨w.heap.size, 5, none⟩ (.slice B1 m.sent.length d1)) = w3 at *
  have lZA : w.heap.size + 1 + 1 + 1 < w3.heap.size := ZA.out.lt
  have cX := ZX.out.six
  have cP := ZP.out.five
  have cA := ZA.out.five
  have HRd := mkHid HO.out.reads
  have fa := ZA.out.frozen 0
  go_wp2_with fail
  refine (cw_err_false f r0 r6 w.heap.size A1 c1 B1 d1 _ ZX.out HRd.out).mono ?_
  rintro e w4 ⟨rfl, hb⟩
  clear HRd fa
  replace ZX := mkHid (ZX.out.keep hb)
  replace ZP := mkHid (ZP.out.keep hb)
  replace ZZ := mkHid (ZZ.out.keep hb)
  replace ZA := mkHid (ZA.out.keep hb)
  replace KB := mkHid (KB.out.step hb)
  replace HO := mkHid (HO.out.below hb)
  clear hb
  clear lZA cX cP cA
  have lZA : w.heap.size + 1 + 1 + 1 < w4.heap.size := ZA.out.lt
  have cX := ZX.out.six
  have cP := ZP.out.five
  have cA := ZA.out.five
  have fa := ZA.out.frozen 0
  go_upto_region 23 with fail
  clear fa
  replace ZX : Hid (Blk (w4.setCell ⟨w.heap.size + 1 + 1 + 1, 0, none⟩ (.int .i64 r)) w.heap.size 45 #[.int .i64 m.h, .int .i64 m.cap, .slice A1 m.l.length c1, .int .i64 m.n, .int .i64 m.draws, .slice B1 m.sent.length d1]) := mkHid ((ZX.out.other _ (by omega)))
  replace ZP : Hid (Blk (w4.setCell ⟨w.heap.size + 1 + 1 + 1, 0, none⟩ (.int .i64 r)) (w.heap.size + 1) 53 #[.int .i64 1, .int .u64 (i : Int), .int .i64 n, .int .u64 (p1.toNat : Int), .int .u64 (p2.toNat : Int)]) := mkHid ((ZP.out.other _ (by omega)))
  replace ZZ : Hid (Blk (w4.setCell ⟨w.heap.size + 1 + 1 + 1, 0, none⟩ (.int .i64 r)) (w.heap.size + 1 + 1) 45 #[.int .i64 0, .int .i64 0, .slice none 0 0, .int .i64 0, .int .i64 0, .slice none 0 0]) := mkHid ((ZZ.out.other _ (by omega)))
  replace ZA : Hid (Blk (w4.setCell ⟨w.heap.size + 1 + 1 + 1, 0, none⟩ (.int .i64 r)) (w.heap.size + 1 + 1 + 1) 55 #[.int .i64 r, .int .i64 0, .int .i64 0, .int .u64 0, .int .u64 0]) := mkHid ((ZA.out.set 0 (.int .i64 r)))
  replace KB : Hid (Below w.heap.size w (w4.setCell ⟨w.heap.size + 1 + 1 + 1, 0, none⟩ (.int .i64 r))) := mkHid ((KB.out.setCell (by show w.heap.size ≤ w.heap.size + 1 + 1 + 1; omega) _))
  replace HO := mkHid ((HO.out.past (g := w.heap.size + 1 + 1 + 1) (by omega) 0 (.int .i64 r)))
  generalize (w4.setCell ⟨w.heap.size + 1 + 1 + 1, 0, none⟩ (.int .i64 r)) = w5 at *
  clear lZA cX cP cA
  have lZA : w.heap.size + 1 + 1 + 1 < w5.heap.size := ZA.out.lt
  have cX := ZX.out.six
  have cP := ZP.out.five
  have cA := ZA.out.five
  replace ZX : Hid (Blk w5.drew _ _ _) := mkHid ZX.out.drew
  replace ZA : Hid (Blk w5.drew _ _ _) := mkHid ZA.out.drew
  replace ZZ : Hid (Blk w5.drew _ _ _) := mkHid ZZ.out.drew
  replace KB : Hid (Below w.heap.size w w5.drew) := mkHid KB.out.drew
  replace HO := mkHid (HO.out.below (Below.drew (Below.refl _ w5)))
  clear cX cP cA
  have cZ := ZZ.out.six
  have cA := ZA.out.five
  have gz0 := ZZ.out.frozen 0
  have gz1 := ZZ.out.frozen 1
  have gz2 := ZZ.out.frozen 2
  have gz3 := ZZ.out.frozen 3
  have gz4 := ZZ.out.frozen 4
  have gz5 := ZZ.out.frozen 5
  have ga0 := ZA.out.frozen 0
  have ga1 := ZA.out.frozen 1
  have ga2 := ZA.out.frozen 2
  have ga3 := ZA.out.frozen 3
  have ga4 := ZA.out.frozen 4
  clear ZP
  refine wp_region_late (late := fun i => decide (3 ≤ i)) (S := fun w' => Hid (Blk w' w.heap.size 45 #[.int .i64 m.h, .int .i64 m.cap, .slice A1 m.l.length c1, .int .i64 m.n, .int .i64 m.draws, .slice B1 m.sent.length d1]) ∧ Hid (Blk w' (w.heap.size + 1 + 1 + 1) 55 #[.int .i64 r, .int .i64 0, .int .i64 0, .int .u64 0, .int .u64 0])) (by kernel_rfl) ?_ (fun hHeld => ?_)
  · ((try dsimp only); refine ⟨?_, ?_⟩ <;> first | with_reducible assumption | (with_reducible refine mkHid (Blk.other6 (Hid.out ?_) ?_) <;> first | with_reducible assumption | omega))
  generalize w5.drew = u at *
  refine Any.take (i := 0) (v := ?_) rfl (by kernel_rfl) (by kernel_rfl) (by kernel_rfl) (by kernel_rfl) (fun _ _ _ h => h) (Or.inl ⟨by rfl, ?_⟩) hHeld ?_
  rotate_left
  · intro w hSw
    (try dsimp only at hSw)
    have q := hSw.1.out.six
    clear hSw
    go_simp
    all_goals with_reducible rfl
  try simp only [List.getElem_toArray, List.getElem_cons_succ, List.getElem_cons_zero, Act.put, List.setIfInBounds_toArray, List.set_cons_zero, List.set_cons_succ]
  refine Any.take (i := 1) (v := ?_) rfl (by kernel_rfl) (by kernel_rfl) (by kernel_rfl) (by kernel_rfl) (fun _ _ _ h => h) (Or.inl ⟨by rfl, ?_⟩) hHeld ?_
  rotate_left
  · intro w hSw
    (try dsimp only at hSw)
    have q := hSw.2.out.five
    clear hSw
    go_simp
    all_goals with_reducible rfl
  try simp only [List.getElem_toArray, List.getElem_cons_succ, List.getElem_cons_zero, Act.put, List.setIfInBounds_toArray, List.set_cons_zero, List.set_cons_succ]
  refine Any.ready (rs := [2]) (by kernel_rfl) (by simp) ?_
  refine AllAny.cons rfl rfl (fun K hK => ?_) AllAny.nil
  go_simp
  refine hK.out _ _ ?_ (fun hHeld => ?_)
  · ((try dsimp only); refine ⟨?_, ?_⟩ <;> first | with_reducible assumption | (with_reducible refine mkHid (Blk.other6 (Hid.out ?_) ?_) <;> first | with_reducible assumption | omega))
  clear hK K
  try simp only [List.getElem_toArray, List.getElem_cons_succ, List.getElem_cons_zero, Act.put, List.setIfInBounds_toArray, List.set_cons_zero, List.set_cons_succ]
  refine Any.ready (rs := [3]) (by kernel_rfl) (by simp) ?_
  refine AllAny.lateCons rfl rfl (fun K hK => ?_) AllAny.nil
  go_simp
  refine hK.out _ _ ?_
  clear hK K
  try simp only [List.getElem_toArray, List.getElem_cons_succ, List.getElem_cons_zero, Act.put, List.setIfInBounds_toArray, List.set_cons_zero, List.set_cons_succ]
  refine Any.ready (rs := [4]) (by kernel_rfl) (by simp) ?_
  refine AllAny.lateCons rfl rfl (fun K hK => ?_) AllAny.nil
  go_simp
  refine hK.out _ _ ?_
  clear hK K
  try simp only [List.getElem_toArray, List.getElem_cons_succ, List.getElem_cons_zero, Act.put, List.setIfInBounds_toArray, List.set_cons_zero, List.set_cons_succ]
  refine Any.done (by kernel_rfl) ?_ _
  have qR := ((ZZ.out.fill6 (b0 := .int .i64 m.h) (b1 := .int .i64 m.cap) (b2 := .slice A1 m.l.length c1) (b3 := .int .i64 m.n) (b4 := .int .i64 m.draws) (b5 := .slice B1 m.sent.length d1)).other5 (g := w.heap.size + 1 + 1 + 1) (x0 := .int .i64 r) (x1 := .int .i64 0) (x2 := .int .i64 0) (x3 := .int .u64 0) (x4 := .int .u64 0) (by omega)).six
  have qA := ((ZA.out.other6 (g := w.heap.size + 1 + 1) (x0 := .int .i64 m.h) (x1 := .int .i64 m.cap) (x2 := .slice A1 m.l.length c1) (x3 := .int .i64 m.n) (x4 := .int .i64 m.draws) (x5 := .slice B1 m.sent.length d1) (by omega)).fill5 (b0 := .int .i64 r) (b1 := .int .i64 0) (b2 := .int .i64 0) (b3 := .int .u64 0) (b4 := .int .u64 0)).five
  go_wp2_with fail
  refine bodyPost_ret (v := .tuple #[.agg #[.int .i64 m.h, .int .i64 m.cap, .slice A1 m.l.length c1, .int .i64 m.n, .int .i64 m.draws, .slice B1 m.sent.length d1], .agg #[.int .i64 r, .int .i64 0, .int .i64 0, .int .u64 0, .int .u64 0], .int .i64 0]) (by simp [results, Try.results29, go_sem, qR, qA]) rfl ⟨_, _, _, _, X1, rfl, OwnM.base (b' := w.heap.size + 4) ?_ (by omega), below_five (below_six KB.out (by omega) _ _ _ _ _ _) (by omega) _ _ _ _ _⟩
  exact (HO.out.past6 (by omega) _ _ _ _ _ _).past5 (by omega) _ _ _ _ _

set_option linter.unusedSimpArgs false in
set_option maxRecDepth 100000 in
set_option maxHeartbeats 4000000 in
theorem do1_full0 {m : ModD} {i : Nat} {n : Int} {p1 p2 : BitVec 64} (e : Hid ((if okM m then (0 : Int) else 1) = 0)) {L : List Nat} (f : Hid (withAll m.h m.l i = (L, 0))) (h1 : ¬ (m.l.length : Int) < m.cap) (A : Option Addr) (c : Nat) (B : Option Addr) (d : Nat) (w : World) (hM : MemM w A c B d m) :
    Calls Try.prog 29 #[.agg #[.int .i64 m.h, .int .i64 m.cap, .slice A m.l.length c, .int .i64 m.n, .int .i64 m.draws, .slice B m.sent.length d], .agg #[.int .i64 1, .int .u64 (i : Int), .int .i64 n, .int .u64 (p1.toNat : Int), .int .u64 (p2.toNat : Int)]] w (DoPost m (ansE 6) 0 w) := by
  have HS := mkHid (okM_sizes (m := m) (by cases hk : okM m with | true => rfl | false => exact absurd e.out (by rw [hk]; simp)))
  have t1 : decide ((m.l.length : Int) < m.cap) = false := decide_eq_false h1
  have ZX : Hid (Blk ((((w.alloc (.cells #[.int .i64 m.h, .int .i64 m.cap, .slice A m.l.length c, .int .i64 m.n, .int .i64 m.draws, .slice B m.sent.length d] 45)).alloc (.cells #[.int .i64 1, .int .u64 (i : Int), .int .i64 n, .int .u64 (p1.toNat : Int), .int .u64 (p2.toNat : Int)] 53)).alloc (.cells #[.int .i64 0, .int .i64 0, .slice none 0 0, .int .i64 0, .int .i64 0, .slice none 0 0] 45)).alloc (.cells #[.int .i64 0, .int .i64 0, .int .i64 0, .int .u64 0, .int .u64 0] 55)) w.heap.size 45 #[.int .i64 m.h, .int .i64 m.cap, .slice A m.l.length c, .int .i64 m.n, .int .i64 m.draws, .slice B m.sent.length d]) := mkHid ((((Blk.new _ _ _).alloc _).alloc _).alloc _)
  have ZP : Hid (Blk ((((w.alloc (.cells #[.int .i64 m.h, .int .i64 m.cap, .slice A m.l.length c, .int .i64 m.n, .int .i64 m.draws, .slice B m.sent.length d] 45)).alloc (.cells #[.int .i64 1, .int .u64 (i : Int), .int .i64 n, .int .u64 (p1.toNat : Int), .int .u64 (p2.toNat : Int)] 53)).alloc (.cells #[.int .i64 0, .int .i64 0, .slice none 0 0, .int .i64 0, .int .i64 0, .slice none 0 0] 45)).alloc (.cells #[.int .i64 0, .int .i64 0, .int .i64 0, .int .u64 0, .int .u64 0] 55)) (w.heap.size + 1) 53 #[.int .i64 1, .int .u64 (i : Int), .int .i64 n, .int .u64 (p1.toNat : Int), .int .u64 (p2.toNat : Int)]) := mkHid (((Blk.at _ _ _ (by simp)).alloc _).alloc _)
  have ZZ : Hid (Blk ((((w.alloc (.cells #[.int .i64 m.h, .int .i64 m.cap, .slice A m.l.length c, .int .i64 m.n, .int .i64 m.draws, .slice B m.sent.length d] 45)).alloc (.cells #[.int .i64 1, .int .u64 (i : Int), .int .i64 n, .int .u64 (p1.toNat : Int), .int .u64 (p2.toNat : Int)] 53)).alloc (.cells #[.int .i64 0, .int .i64 0, .slice none 0 0, .int .i64 0, .int .i64 0, .slice none 0 0] 45)).alloc (.cells #[.int .i64 0, .int .i64 0, .int .i64 0, .int .u64 0, .int .u64 0] 55)) (w.heap.size + 1 + 1) 45 #[.int .i64 0, .int .i64 0, .slice none 0 0, .int .i64 0, .int .i64 0, .slice none 0 0]) := mkHid ((Blk.at _ _ _ (by simp)).alloc _)
  have ZA : Hid (Blk ((((w.alloc (.cells #[.int .i64 m.h, .int .i64 m.cap, .slice A m.l.length c, .int .i64 m.n, .int .i64 m.draws, .slice B m.sent.length d] 45)).alloc (.cells #[.int .i64 1, .int .u64 (i : Int), .int .i64 n, .int .u64 (p1.toNat : Int), .int .u64 (p2.toNat : Int)] 53)).alloc (.cells #[.int .i64 0, .int .i64 0, .slice none 0 0, .int .i64 0, .int .i64 0, .slice none 0 0] 45)).alloc (.cells #[.int .i64 0, .int .i64 0, .int .i64 0, .int .u64 0, .int .u64 0] 55)) (w.heap.size + 1 + 1 + 1) 55 #[.int .i64 0, .int .i64 0, .int .i64 0, .int .u64 0, .int .u64 0]) := mkHid (Blk.at _ _ _ (by simp))
  have KB : Hid (Below w.heap.size w ((((w.alloc (.cells #[.int .i64 m.h, .int .i64 m.cap, .slice A m.l.length c, .int .i64 m.n, .int .i64 m.draws, .slice B m.sent.length d] 45)).alloc (.cells #[.int .i64 1, .int .u64 (i : Int), .int .i64 n, .int .u64 (p1.toNat : Int), .int .u64 (p2.toNat : Int)] 53)).alloc (.cells #[.int .i64 0, .int .i64 0, .slice none 0 0, .int .i64 0, .int .i64 0, .slice none 0 0] 45)).alloc (.cells #[.int .i64 0, .int .i64 0, .int .i64 0, .int .u64 0, .int .u64 0] 55))) := mkHid (((((Below.refl _ _).alloc (Nat.le_refl _) (.cells #[.int .i64 m.h, .int .i64 m.cap, .slice A m.l.length c, .int .i64 m.n, .int .i64 m.draws, .slice B m.sent.length d] 45)).alloc (by simp) (.cells #[.int .i64 1, .int .u64 (i : Int), .int .i64 n, .int .u64 (p1.toNat : Int), .int .u64 (p2.toNat : Int)] 53)).alloc (by simp; omega) (.cells #[.int .i64 0, .int .i64 0, .slice none 0 0, .int .i64 0, .int .i64 0, .slice none 0 0] 45)).alloc (by simp; omega) (.cells #[.int .i64 0, .int .i64 0, .int .i64 0, .int .u64 0, .int .u64 0] 55))
  have HM := mkHid (hM.below (((((Below.refl _ _).alloc (Nat.le_refl _) (.cells #[.int .i64 m.h, .int .i64 m.cap, .slice A m.l.length c, .int .i64 m.n, .int .i64 m.draws, .slice B m.sent.length d] 45)).alloc (by simp) (.cells #[.int .i64 1, .int .u64 (i : Int), .int .i64 n, .int .u64 (p1.toNat : Int), .int .u64 (p2.toNat : Int)] 53)).alloc (by simp; omega) (.cells #[.int .i64 0, .int .i64 0, .slice none 0 0, .int .i64 0, .int .i64 0, .slice none 0 0] 45)).alloc (by simp; omega) (.cells #[.int .i64 0, .int .i64 0, .int .i64 0, .int .u64 0, .int .u64 0] 55)))
  clear hM
  go_enter Try.func29, Try.ntmps29
  go_upto_region 1 with fail
  generalize ((((w.alloc (.cells #[.int .i64 m.h, .int .i64 m.cap, .slice A m.l.length c, .int .i64 m.n, .int .i64 m.draws, .slice B m.sent.length d] 45)).alloc (.cells #[.int .i64 1, .int .u64 (i : Int), .int .i64 n, .int .u64 (p1.toNat : Int), .int .u64 (p2.toNat : Int)] 53)).alloc (.cells #[.int .i64 0, .int .i64 0, .slice none 0 0, .int .i64 0, .int .i64 0, .slice none 0 0] 45)).alloc (.cells #[.int .i64 0, .int .i64 0, .int .i64 0, .int .u64 0, .int .u64 0] 55)) = w0 at *
  have lZA : w.heap.size + 1 + 1 + 1 < w0.heap.size := ZA.out.lt
  have cX := ZX.out.six
  have cP := ZP.out.five
  go_wp2_with fail
  refine (mchk e _ _ _ _ _ HM.out).mono ?_
  rintro e w1 ⟨rfl, hb⟩
  replace ZX := mkHid (ZX.out.keep hb)
  replace ZP := mkHid (ZP.out.keep hb)
  replace ZZ := mkHid (ZZ.out.keep hb)
  replace ZA := mkHid (ZA.out.keep hb)
  replace KB := mkHid (KB.out.step hb)
  replace HM := mkHid (HM.out.below hb)
  clear hb
  clear lZA cX cP
  have lZA : w.heap.size + 1 + 1 + 1 < w1.heap.size := ZA.out.lt
  have cX := ZX.out.six
  have cP := ZP.out.five
  go_wp2_with fail
  refine (mown HS.out.1 HS.out.2.1 HS.out.2.2 _ _ _ _ _ HM.out).mono ?_
  rintro e w2 ⟨⟨A1, c1, B1, d1, X1, rfl, ho⟩, hb⟩
  have HO := mkHid (ho.base (b := w.heap.size + 4) (by omega))
  clear ho HM
  replace ZX := mkHid (ZX.out.keep hb)
  replace ZP := mkHid (ZP.out.keep hb)
  replace ZZ := mkHid (ZZ.out.keep hb)
  replace ZA := mkHid (ZA.out.keep hb)
  replace KB := mkHid (KB.out.step hb)
  clear hb
  clear lZA cX cP
  have lZA : w.heap.size + 1 + 1 + 1 < w2.heap.size := ZA.out.lt
  have cX := ZX.out.six
  have cP := ZP.out.five
  have fX0 := ZX.out.frozen 0
  have fX1 := ZX.out.frozen 1
  have fX2 := ZX.out.frozen 2
  have fX3 := ZX.out.frozen 3
  have fX4 := ZX.out.frozen 4
  have fX5 := ZX.out.frozen 5
  go_upto_region 4 with fail
  replace ZX := mkHid (ZX.out.fill6 (b0 := .int .i64 m.h) (b1 := .int .i64 m.cap) (b2 := .slice A1 m.l.length c1) (b3 := .int .i64 m.n) (b4 := .int .i64 m.draws) (b5 := .slice B1 m.sent.length d1))
  replace ZP := mkHid (ZP.out.other6 (g := w.heap.size) (x0 := .int .i64 m.h) (x1 := .int .i64 m.cap) (x2 := .slice A1 m.l.length c1) (x3 := .int .i64 m.n) (x4 := .int .i64 m.draws) (x5 := .slice B1 m.sent.length d1) (by omega))
  replace ZZ := mkHid (ZZ.out.other6 (g := w.heap.size) (x0 := .int .i64 m.h) (x1 := .int .i64 m.cap) (x2 := .slice A1 m.l.length c1) (x3 := .int .i64 m.n) (x4 := .int .i64 m.draws) (x5 := .slice B1 m.sent.length d1) (by omega))
  replace ZA := mkHid (ZA.out.other6 (g := w.heap.size) (x0 := .int .i64 m.h) (x1 := .int .i64 m.cap) (x2 := .slice A1 m.l.length c1) (x3 := .int .i64 m.n) (x4 := .int .i64 m.draws) (x5 := .slice B1 m.sent.length d1) (by omega))
  replace KB := mkHid (below_six KB.out (Nat.le_refl _) (.int .i64 m.h) (.int .i64 m.cap) (.slice A1 m.l.length c1) (.int .i64 m.n) (.int .i64 m.draws) (.slice B1 m.sent.length d1))
  replace HO := mkHid (HO.out.past6 (g := w.heap.size) (by omega) (.int .i64 m.h) (.int .i64 m.cap) (.slice A1 m.l.length c1) (.int .i64 m.n) (.int .i64 m.draws) (.slice B1 m.sent.length d1))
  clear lZA cX cP fX0 fX1 fX2 fX3 fX4 fX5
  generalize ((((((w2.setCell ⟨w.heap.size, 0, none⟩ (.int .i64 m.h)).setCell ⟨w.heap.size, 1, none⟩ (.int .i64 m.cap)).setCell ⟨w.heap.size, 2, none⟩ (.slice A1 m.l.length c1)).setCell ⟨w.heap.size, 3, none⟩ (.int .i64 m.n)).setCell ⟨w.heap.size, 4, none⟩ (.int .i64 m.draws)).setCell ⟨w.heap.size, 5, none⟩ (.slice B1 m.sent.length d1)) = w3 at *
  have lZA : w.heap.size + 1 + 1 + 1 < w3.heap.size := ZA.out.lt
  have cX := ZX.out.six
  have cP := ZP.out.five
  have cA := ZA.out.five
  have HRd := mkHid HO.out.reads
  have fa := ZA.out.frozen 0
  go_wp2_with fail
  refine (cw_full0 f w.heap.size A1 c1 B1 d1 _ ZX.out HRd.out).mono ?_
  rintro e w4 ⟨rfl, hb⟩
  clear HRd fa
  replace ZX := mkHid (ZX.out.keep hb)
  replace ZP := mkHid (ZP.out.keep hb)
  replace ZZ := mkHid (ZZ.out.keep hb)
  replace ZA := mkHid (ZA.out.keep hb)
  replace KB := mkHid (KB.out.step hb)
  replace HO := mkHid (HO.out.below hb)
  clear hb
  clear lZA cX cP cA
  have lZA : w.heap.size + 1 + 1 + 1 < w4.heap.size := ZA.out.lt
  have cX := ZX.out.six
  have cP := ZP.out.five
  have cA := ZA.out.five
  have fa := ZA.out.frozen 0
  go_upto_region 23 with fail
  clear fa
  replace ZX : Hid (Blk (w4.setCell ⟨w.heap.size + 1 + 1 + 1, 0, none⟩ (.int .i64 6)) w.heap.size 45 #[.int .i64 m.h, .int .i64 m.cap, .slice A1 m.l.length c1, .int .i64 m.n, .int .i64 m.draws, .slice B1 m.sent.length d1]) := mkHid ((ZX.out.other _ (by omega)))
  replace ZP : Hid (Blk (w4.setCell ⟨w.heap.size + 1 + 1 + 1, 0, none⟩ (.int .i64 6)) (w.heap.size + 1) 53 #[.int .i64 1, .int .u64 (i : Int), .int .i64 n, .int .u64 (p1.toNat : Int), .int .u64 (p2.toNat : Int)]) := mkHid ((ZP.out.other _ (by omega)))
  replace ZZ : Hid (Blk (w4.setCell ⟨w.heap.size + 1 + 1 + 1, 0, none⟩ (.int .i64 6)) (w.heap.size + 1 + 1) 45 #[.int .i64 0, .int .i64 0, .slice none 0 0, .int .i64 0, .int .i64 0, .slice none 0 0]) := mkHid ((ZZ.out.other _ (by omega)))
  replace ZA : Hid (Blk (w4.setCell ⟨w.heap.size + 1 + 1 + 1, 0, none⟩ (.int .i64 6)) (w.heap.size + 1 + 1 + 1) 55 #[.int .i64 6, .int .i64 0, .int .i64 0, .int .u64 0, .int .u64 0]) := mkHid ((ZA.out.set 0 (.int .i64 6)))
  replace KB : Hid (Below w.heap.size w (w4.setCell ⟨w.heap.size + 1 + 1 + 1, 0, none⟩ (.int .i64 6))) := mkHid ((KB.out.setCell (by show w.heap.size ≤ w.heap.size + 1 + 1 + 1; omega) _))
  replace HO := mkHid ((HO.out.past (g := w.heap.size + 1 + 1 + 1) (by omega) 0 (.int .i64 6)))
  generalize (w4.setCell ⟨w.heap.size + 1 + 1 + 1, 0, none⟩ (.int .i64 6)) = w5 at *
  clear lZA cX cP cA
  have lZA : w.heap.size + 1 + 1 + 1 < w5.heap.size := ZA.out.lt
  have cX := ZX.out.six
  have cP := ZP.out.five
  have cA := ZA.out.five
  replace ZX : Hid (Blk w5.drew _ _ _) := mkHid ZX.out.drew
  replace ZA : Hid (Blk w5.drew _ _ _) := mkHid ZA.out.drew
  replace ZZ : Hid (Blk w5.drew _ _ _) := mkHid ZZ.out.drew
  replace KB : Hid (Below w.heap.size w w5.drew) := mkHid KB.out.drew
  replace HO := mkHid (HO.out.below (Below.drew (Below.refl _ w5)))
  clear cX cP cA
  have cZ := ZZ.out.six
  have cA := ZA.out.five
  have gz0 := ZZ.out.frozen 0
  have gz1 := ZZ.out.frozen 1
  have gz2 := ZZ.out.frozen 2
  have gz3 := ZZ.out.frozen 3
  have gz4 := ZZ.out.frozen 4
  have gz5 := ZZ.out.frozen 5
  have ga0 := ZA.out.frozen 0
  have ga1 := ZA.out.frozen 1
  have ga2 := ZA.out.frozen 2
  have ga3 := ZA.out.frozen 3
  have ga4 := ZA.out.frozen 4
  clear ZP
  refine wp_region_late (late := fun i => decide (3 ≤ i)) (S := fun w' => Hid (Blk w' w.heap.size 45 #[.int .i64 m.h, .int .i64 m.cap, .slice A1 m.l.length c1, .int .i64 m.n, .int .i64 m.draws, .slice B1 m.sent.length d1]) ∧ Hid (Blk w' (w.heap.size + 1 + 1 + 1) 55 #[.int .i64 6, .int .i64 0, .int .i64 0, .int .u64 0, .int .u64 0])) (by kernel_rfl) ?_ (fun hHeld => ?_)
  · ((try dsimp only); refine ⟨?_, ?_⟩ <;> first | with_reducible assumption | (with_reducible refine mkHid (Blk.other6 (Hid.out ?_) ?_) <;> first | with_reducible assumption | omega))
  generalize w5.drew = u at *
  refine Any.take (i := 0) (v := ?_) rfl (by kernel_rfl) (by kernel_rfl) (by kernel_rfl) (by kernel_rfl) (fun _ _ _ h => h) (Or.inl ⟨by rfl, ?_⟩) hHeld ?_
  rotate_left
  · intro w hSw
    (try dsimp only at hSw)
    have q := hSw.1.out.six
    clear hSw
    go_simp
    all_goals with_reducible rfl
  try simp only [List.getElem_toArray, List.getElem_cons_succ, List.getElem_cons_zero, Act.put, List.setIfInBounds_toArray, List.set_cons_zero, List.set_cons_succ]
  refine Any.take (i := 1) (v := ?_) rfl (by kernel_rfl) (by kernel_rfl) (by kernel_rfl) (by kernel_rfl) (fun _ _ _ h => h) (Or.inl ⟨by rfl, ?_⟩) hHeld ?_
  rotate_left
  · intro w hSw
    (try dsimp only at hSw)
    have q := hSw.2.out.five
    clear hSw
    go_simp
    all_goals with_reducible rfl
  try simp only [List.getElem_toArray, List.getElem_cons_succ, List.getElem_cons_zero, Act.put, List.setIfInBounds_toArray, List.set_cons_zero, List.set_cons_succ]
  refine Any.ready (rs := [2]) (by kernel_rfl) (by simp) ?_
  refine AllAny.cons rfl rfl (fun K hK => ?_) AllAny.nil
  go_simp
  refine hK.out _ _ ?_ (fun hHeld => ?_)
  · ((try dsimp only); refine ⟨?_, ?_⟩ <;> first | with_reducible assumption | (with_reducible refine mkHid (Blk.other6 (Hid.out ?_) ?_) <;> first | with_reducible assumption | omega))
  clear hK K
  try simp only [List.getElem_toArray, List.getElem_cons_succ, List.getElem_cons_zero, Act.put, List.setIfInBounds_toArray, List.set_cons_zero, List.set_cons_succ]
  refine Any.ready (rs := [3]) (by kernel_rfl) (by simp) ?_
  refine AllAny.lateCons rfl rfl (fun K hK => ?_) AllAny.nil
  go_simp
  refine hK.out _ _ ?_
  clear hK K
  try simp only [List.getElem_toArray, List.getElem_cons_succ, List.getElem_cons_zero, Act.put, List.setIfInBounds_toArray, List.set_cons_zero, List.set_cons_succ]
  refine Any.ready (rs := [4]) (by kernel_rfl) (by simp) ?_
  refine AllAny.lateCons rfl rfl (fun K hK => ?_) AllAny.nil
  go_simp
  refine hK.out _ _ ?_
  clear hK K
  try simp only [List.getElem_toArray, List.getElem_cons_succ, List.getElem_cons_zero, Act.put, List.setIfInBounds_toArray, List.set_cons_zero, List.set_cons_succ]
  refine Any.done (by kernel_rfl) ?_ _
  have qR := ((ZZ.out.fill6 (b0 := .int .i64 m.h) (b1 := .int .i64 m.cap) (b2 := .slice A1 m.l.length c1) (b3 := .int .i64 m.n) (b4 := .int .i64 m.draws) (b5 := .slice B1 m.sent.length d1)).other5 (g := w.heap.size + 1 + 1 + 1) (x0 := .int .i64 6) (x1 := .int .i64 0) (x2 := .int .i64 0) (x3 := .int .u64 0) (x4 := .int .u64 0) (by omega)).six
  have qA := ((ZA.out.other6 (g := w.heap.size + 1 + 1) (x0 := .int .i64 m.h) (x1 := .int .i64 m.cap) (x2 := .slice A1 m.l.length c1) (x3 := .int .i64 m.n) (x4 := .int .i64 m.draws) (x5 := .slice B1 m.sent.length d1) (by omega)).fill5 (b0 := .int .i64 6) (b1 := .int .i64 0) (b2 := .int .i64 0) (b3 := .int .u64 0) (b4 := .int .u64 0)).five
  go_wp2_with fail
  refine bodyPost_ret (v := .tuple #[.agg #[.int .i64 m.h, .int .i64 m.cap, .slice A1 m.l.length c1, .int .i64 m.n, .int .i64 m.draws, .slice B1 m.sent.length d1], .agg #[.int .i64 6, .int .i64 0, .int .i64 0, .int .u64 0, .int .u64 0], .int .i64 0]) (by simp [results, Try.results29, go_sem, qR, qA]) rfl ⟨_, _, _, _, X1, rfl, OwnM.base (b' := w.heap.size + 4) ?_ (by omega), below_five (below_six KB.out (by omega) _ _ _ _ _ _) (by omega) _ _ _ _ _⟩
  exact (HO.out.past6 (by omega) _ _ _ _ _ _).past5 (by omega) _ _ _ _ _

set_option linter.unusedSimpArgs false in
set_option maxRecDepth 100000 in
set_option maxHeartbeats 4000000 in
theorem do1_full6 {m : ModD} {i : Nat} {n : Int} {p1 p2 : BitVec 64} (e : Hid ((if okM m then (0 : Int) else 1) = 0)) {L : List Nat} (f : Hid (withAll m.h m.l i = (L, 6))) (h1 : ¬ (m.l.length : Int) < m.cap) (A : Option Addr) (c : Nat) (B : Option Addr) (d : Nat) (w : World) (hM : MemM w A c B d m) :
    Calls Try.prog 29 #[.agg #[.int .i64 m.h, .int .i64 m.cap, .slice A m.l.length c, .int .i64 m.n, .int .i64 m.draws, .slice B m.sent.length d], .agg #[.int .i64 1, .int .u64 (i : Int), .int .i64 n, .int .u64 (p1.toNat : Int), .int .u64 (p2.toNat : Int)]] w (DoPost m (ansE 6) 0 w) := by
  have HS := mkHid (okM_sizes (m := m) (by cases hk : okM m with | true => rfl | false => exact absurd e.out (by rw [hk]; simp)))
  have t1 : decide ((m.l.length : Int) < m.cap) = false := decide_eq_false h1
  have ZX : Hid (Blk ((((w.alloc (.cells #[.int .i64 m.h, .int .i64 m.cap, .slice A m.l.length c, .int .i64 m.n, .int .i64 m.draws, .slice B m.sent.length d] 45)).alloc (.cells #[.int .i64 1, .int .u64 (i : Int), .int .i64 n, .int .u64 (p1.toNat : Int), .int .u64 (p2.toNat : Int)] 53)).alloc (.cells #[.int .i64 0, .int .i64 0, .slice none 0 0, .int .i64 0, .int .i64 0, .slice none 0 0] 45)).alloc (.cells #[.int .i64 0, .int .i64 0, .int .i64 0, .int .u64 0, .int .u64 0] 55)) w.heap.size 45 #[.int .i64 m.h, .int .i64 m.cap, .slice A m.l.length c, .int .i64 m.n, .int .i64 m.draws, .slice B m.sent.length d]) := mkHid ((((Blk.new _ _ _).alloc _).alloc _).alloc _)
  have ZP : Hid (Blk ((((w.alloc (.cells #[.int .i64 m.h, .int .i64 m.cap, .slice A m.l.length c, .int .i64 m.n, .int .i64 m.draws, .slice B m.sent.length d] 45)).alloc (.cells #[.int .i64 1, .int .u64 (i : Int), .int .i64 n, .int .u64 (p1.toNat : Int), .int .u64 (p2.toNat : Int)] 53)).alloc (.cells #[.int .i64 0, .int .i64 0, .slice none 0 0, .int .i64 0, .int .i64 0, .slice none 0 0] 45)).alloc (.cells #[.int .i64 0, .int .i64 0, .int .i64 0, .int .u64 0, .int .u64 0] 55)) (w.heap.size + 1) 53 #[.int .i64 1, .int .u64 (i : Int), .int .i64 n, .int .u64 (p1.toNat : Int), .int .u64 (p2.toNat : Int)]) := mkHid (((Blk.at _ _ _ (by simp)).alloc _).alloc _)
  have ZZ : Hid (Blk ((((w.alloc (.cells #[.int .i64 m.h, .int .i64 m.cap, .slice A m.l.length c, .int .i64 m.n, .int .i64 m.draws, .slice B m.sent.length d] 45)).alloc (.cells #[.int .i64 1, .int .u64 (i : Int), .int .i64 n, .int .u64 (p1.toNat : Int), .int .u64 (p2.toNat : Int)] 53)).alloc (.cells #[.int .i64 0, .int .i64 0, .slice none 0 0, .int .i64 0, .int .i64 0, .slice none 0 0] 45)).alloc (.cells #[.int .i64 0, .int .i64 0, .int .i64 0, .int .u64 0, .int .u64 0] 55)) (w.heap.size + 1 + 1) 45 #[.int .i64 0, .int .i64 0, .slice none 0 0, .int .i64 0, .int .i64 0, .slice none 0 0]) := mkHid ((Blk.at _ _ _ (by simp)).alloc _)
  have ZA : Hid (Blk ((((w.alloc (.cells #[.int .i64 m.h, .int .i64 m.cap, .slice A m.l.length c, .int .i64 m.n, .int .i64 m.draws, .slice B m.sent.length d] 45)).alloc (.cells #[.int .i64 1, .int .u64 (i : Int), .int .i64 n, .int .u64 (p1.toNat : Int), .int .u64 (p2.toNat : Int)] 53)).alloc (.cells #[.int .i64 0, .int .i64 0, .slice none 0 0, .int .i64 0, .int .i64 0, .slice none 0 0] 45)).alloc (.cells #[.int .i64 0, .int .i64 0, .int .i64 0, .int .u64 0, .int .u64 0] 55)) (w.heap.size + 1 + 1 + 1) 55 #[.int .i64 0, .int .i64 0, .int .i64 0, .int .u64 0, .int .u64 0]) := mkHid (Blk.at _ _ _ (by simp))
  have KB : Hid (Below w.heap.size w ((((w.alloc (.cells #[.int .i64 m.h, .int .i64 m.cap, .slice A m.l.length c, .int .i64 m.n, .int .i64 m.draws, .slice B m.sent.length d] 45)).alloc (.cells #[.int .i64 1, .int .u64 (i : Int), .int .i64 n, .int .u64 (p1.toNat : Int), .int .u64 (p2.toNat : Int)] 53)).alloc (.cells #[.int .i64 0, .int .i64 0, .slice none 0 0, .int .i64 0, .int .i64 0, .slice none 0 0] 45)).alloc (.cells #[.int .i64 0, .int .i64 0, .int .i64 0, .int .u64 0, .int .u64 0] 55))) := mkHid (((((Below.refl _ _).alloc (Nat.le_refl _) (.cells #[.int .i64 m.h, .int .i64 m.cap, .slice A m.l.length c, .int .i64 m.n, .int .i64 m.draws, .slice B m.sent.length d] 45)).alloc (by simp) (.cells #[.int .i64 1, .int .u64 (i : Int), .int .i64 n, .int .u64 (p1.toNat : Int), .int .u64 (p2.toNat : Int)] 53)).alloc (by simp; omega) (.cells #[.int .i64 0, .int .i64 0, .slice none 0 0, .int .i64 0, .int .i64 0, .slice none 0 0] 45)).alloc (by simp; omega) (.cells #[.int .i64 0, .int .i64 0, .int .i64 0, .int .u64 0, .int .u64 0] 55))
  have HM := mkHid (hM.below (((((Below.refl _ _).alloc (Nat.le_refl _) (.cells #[.int .i64 m.h, .int .i64 m.cap, .slice A m.l.length c, .int .i64 m.n, .int .i64 m.draws, .slice B m.sent.length d] 45)).alloc (by simp) (.cells #[.int .i64 1, .int .u64 (i : Int), .int .i64 n, .int .u64 (p1.toNat : Int), .int .u64 (p2.toNat : Int)] 53)).alloc (by simp; omega) (.cells #[.int .i64 0, .int .i64 0, .slice none 0 0, .int .i64 0, .int .i64 0, .slice none 0 0] 45)).alloc (by simp; omega) (.cells #[.int .i64 0, .int .i64 0, .int .i64 0, .int .u64 0, .int .u64 0] 55)))
  clear hM
  go_enter Try.func29, Try.ntmps29
  go_upto_region 1 with fail
  generalize ((((w.alloc (.cells #[.int .i64 m.h, .int .i64 m.cap, .slice A m.l.length c, .int .i64 m.n, .int .i64 m.draws, .slice B m.sent.length d] 45)).alloc (.cells #[.int .i64 1, .int .u64 (i : Int), .int .i64 n, .int .u64 (p1.toNat : Int), .int .u64 (p2.toNat : Int)] 53)).alloc (.cells #[.int .i64 0, .int .i64 0, .slice none 0 0, .int .i64 0, .int .i64 0, .slice none 0 0] 45)).alloc (.cells #[.int .i64 0, .int .i64 0, .int .i64 0, .int .u64 0, .int .u64 0] 55)) = w0 at *
  have lZA : w.heap.size + 1 + 1 + 1 < w0.heap.size := ZA.out.lt
  have cX := ZX.out.six
  have cP := ZP.out.five
  go_wp2_with fail
  refine (mchk e _ _ _ _ _ HM.out).mono ?_
  rintro e w1 ⟨rfl, hb⟩
  replace ZX := mkHid (ZX.out.keep hb)
  replace ZP := mkHid (ZP.out.keep hb)
  replace ZZ := mkHid (ZZ.out.keep hb)
  replace ZA := mkHid (ZA.out.keep hb)
  replace KB := mkHid (KB.out.step hb)
  replace HM := mkHid (HM.out.below hb)
  clear hb
  clear lZA cX cP
  have lZA : w.heap.size + 1 + 1 + 1 < w1.heap.size := ZA.out.lt
  have cX := ZX.out.six
  have cP := ZP.out.five
  go_wp2_with fail
  refine (mown HS.out.1 HS.out.2.1 HS.out.2.2 _ _ _ _ _ HM.out).mono ?_
  rintro e w2 ⟨⟨A1, c1, B1, d1, X1, rfl, ho⟩, hb⟩
  have HO := mkHid (ho.base (b := w.heap.size + 4) (by omega))
  clear ho HM
  replace ZX := mkHid (ZX.out.keep hb)
  replace ZP := mkHid (ZP.out.keep hb)
  replace ZZ := mkHid (ZZ.out.keep hb)
  replace ZA := mkHid (ZA.out.keep hb)
  replace KB := mkHid (KB.out.step hb)
  clear hb
  clear lZA cX cP
  have lZA : w.heap.size + 1 + 1 + 1 < w2.heap.size := ZA.out.lt
  have cX := ZX.out.six
  have cP := ZP.out.five
  have fX0 := ZX.out.frozen 0
  have fX1 := ZX.out.frozen 1
  have fX2 := ZX.out.frozen 2
  have fX3 := ZX.out.frozen 3
  have fX4 := ZX.out.frozen 4
  have fX5 := ZX.out.frozen 5
  go_upto_region 4 with fail
  replace ZX := mkHid (ZX.out.fill6 (b0 := .int .i64 m.h) (b1 := .int .i64 m.cap) (b2 := .slice A1 m.l.length c1) (b3 := .int .i64 m.n) (b4 := .int .i64 m.draws) (b5 := .slice B1 m.sent.length d1))
  replace ZP := mkHid (ZP.out.other6 (g := w.heap.size) (x0 := .int .i64 m.h) (x1 := .int .i64 m.cap) (x2 := .slice A1 m.l.length c1) (x3 := .int .i64 m.n) (x4 := .int .i64 m.draws) (x5 := .slice B1 m.sent.length d1) (by omega))
  replace ZZ := mkHid (ZZ.out.other6 (g := w.heap.size) (x0 := .int .i64 m.h) (x1 := .int .i64 m.cap) (x2 := .slice A1 m.l.length c1) (x3 := .int .i64 m.n) (x4 := .int .i64 m.draws) (x5 := .slice B1 m.sent.length d1) (by omega))
  replace ZA := mkHid (ZA.out.other6 (g := w.heap.size) (x0 := .int .i64 m.h) (x1 := .int .i64 m.cap) (x2 := .slice A1 m.l.length c1) (x3 := .int .i64 m.n) (x4 := .int .i64 m.draws) (x5 := .slice B1 m.sent.length d1) (by omega))
  replace KB := mkHid (below_six KB.out (Nat.le_refl _) (.int .i64 m.h) (.int .i64 m.cap) (.slice A1 m.l.length c1) (.int .i64 m.n) (.int .i64 m.draws) (.slice B1 m.sent.length d1))
  replace HO := mkHid (HO.out.past6 (g := w.heap.size) (by omega) (.int .i64 m.h) (.int .i64 m.cap) (.slice A1 m.l.length c1) (.int .i64 m.n) (.int .i64 m.draws) (.slice B1 m.sent.length d1))
  clear lZA cX cP fX0 fX1 fX2 fX3 fX4 fX5
  generalize ((((((w2.setCell ⟨w.heap.size, 0, none⟩ (.int .i64 m.h)).setCell ⟨w.heap.size, 1, none⟩ (.int .i64 m.cap)).setCell ⟨w.heap.size, 2, none⟩ (.slice A1 m.l.length c1)).setCell ⟨w.heap.size, 3, none⟩ (.int .i64 m.n)).setCell ⟨w.heap.size, 4, none⟩ (.int .i64 m.draws)).setCell ⟨w.heap.size, 5, none⟩ (.slice B1 m.sent.length d1)) = w3 at *
  have lZA : w.heap.size + 1 + 1 + 1 < w3.heap.size := ZA.out.lt
  have cX := ZX.out.six
  have cP := ZP.out.five
  have cA := ZA.out.five
  have HRd := mkHid HO.out.reads
  have fa := ZA.out.frozen 0
  go_wp2_with fail
  refine (cw_full6 f w.heap.size A1 c1 B1 d1 _ ZX.out HRd.out).mono ?_
  rintro e w4 ⟨rfl, hb⟩
  clear HRd fa
  replace ZX := mkHid (ZX.out.keep hb)
  replace ZP := mkHid (ZP.out.keep hb)
  replace ZZ := mkHid (ZZ.out.keep hb)
  replace ZA := mkHid (ZA.out.keep hb)
  replace KB := mkHid (KB.out.step hb)
  replace HO := mkHid (HO.out.below hb)
  clear hb
  clear lZA cX cP cA
  have lZA : w.heap.size + 1 + 1 + 1 < w4.heap.size := ZA.out.lt
  have cX := ZX.out.six
  have cP := ZP.out.five
  have cA := ZA.out.five
  have fa := ZA.out.frozen 0
  go_upto_region 23 with fail
  clear fa
  replace ZX : Hid (Blk (w4.setCell ⟨w.heap.size + 1 + 1 + 1, 0, none⟩ (.int .i64 6)) w.heap.size 45 #[.int .i64 m.h, .int .i64 m.cap, .slice A1 m.l.length c1, .int .i64 m.n, .int .i64 m.draws, .slice B1 m.sent.length d1]) := mkHid ((ZX.out.other _ (by omega)))
  replace ZP : Hid (Blk (w4.setCell ⟨w.heap.size + 1 + 1 + 1, 0, none⟩ (.int .i64 6)) (w.heap.size + 1) 53 #[.int .i64 1, .int .u64 (i : Int), .int .i64 n, .int .u64 (p1.toNat : Int), .int .u64 (p2.toNat : Int)]) := mkHid ((ZP.out.other _ (by omega)))
  replace ZZ : Hid (Blk (w4.setCell ⟨w.heap.size + 1 + 1 + 1, 0, none⟩ (.int .i64 6)) (w.heap.size + 1 + 1) 45 #[.int .i64 0, .int .i64 0, .slice none 0 0, .int .i64 0, .int .i64 0, .slice none 0 0]) := mkHid ((ZZ.out.other _ (by omega)))
  replace ZA : Hid (Blk (w4.setCell ⟨w.heap.size + 1 + 1 + 1, 0, none⟩ (.int .i64 6)) (w.heap.size + 1 + 1 + 1) 55 #[.int .i64 6, .int .i64 0, .int .i64 0, .int .u64 0, .int .u64 0]) := mkHid ((ZA.out.set 0 (.int .i64 6)))
  replace KB : Hid (Below w.heap.size w (w4.setCell ⟨w.heap.size + 1 + 1 + 1, 0, none⟩ (.int .i64 6))) := mkHid ((KB.out.setCell (by show w.heap.size ≤ w.heap.size + 1 + 1 + 1; omega) _))
  replace HO := mkHid ((HO.out.past (g := w.heap.size + 1 + 1 + 1) (by omega) 0 (.int .i64 6)))
  generalize (w4.setCell ⟨w.heap.size + 1 + 1 + 1, 0, none⟩ (.int .i64 6)) = w5 at *
  clear lZA cX cP cA
  have lZA : w.heap.size + 1 + 1 + 1 < w5.heap.size := ZA.out.lt
  have cX := ZX.out.six
  have cP := ZP.out.five
  have cA := ZA.out.five
  replace ZX : Hid (Blk w5.drew _ _ _) := mkHid ZX.out.drew
  replace ZA : Hid (Blk w5.drew _ _ _) := mkHid ZA.out.drew
  replace ZZ : Hid (Blk w5.drew _ _ _) := mkHid ZZ.out.drew
  replace KB : Hid (Below w.heap.size w w5.drew) := mkHid KB.out.drew
  replace HO := mkHid (HO.out.below (Below.drew (Below.refl _ w5)))
  clear cX cP cA
  have cZ := ZZ.out.six
  have cA := ZA.out.five
  have gz0 := ZZ.out.frozen 0
  have gz1 := ZZ.out.frozen 1
  have gz2 := ZZ.out.frozen 2
  have gz3 := ZZ.out.frozen 3
  have gz4 := ZZ.out.frozen 4
  have gz5 := ZZ.out.frozen 5
  have ga0 := ZA.out.frozen 0
  have ga1 := ZA.out.frozen 1
  have ga2 := ZA.out.frozen 2
  have ga3 := ZA.out.frozen 3
  have ga4 := ZA.out.frozen 4
  clear ZP
  refine wp_region_late (late := fun i => decide (3 ≤ i)) (S := fun w' => Hid (Blk w' w.heap.size 45 #[.int .i64 m.h, .int .i64 m.cap, .slice A1 m.l.length c1, .int .i64 m.n, .int .i64 m.draws, .slice B1 m.sent.length d1]) ∧ Hid (Blk w' (w.heap.size + 1 + 1 + 1) 55 #[.int .i64 6, .int .i64 0, .int .i64 0, .int .u64 0, .int .u64 0])) (by kernel_rfl) ?_ (fun hHeld => ?_)
  · ((try dsimp only); refine ⟨?_, ?_⟩ <;> first | with_reducible assumption | (with_reducible refine mkHid (Blk.other6 (Hid.out ?_) ?_) <;> first | with_reducible assumption | omega))
  generalize w5.drew = u at *
  refine Any.take (i := 0) (v := ?_) rfl (by kernel_rfl) (by kernel_rfl) (by kernel_rfl) (by kernel_rfl) (fun _ _ _ h => h) (Or.inl ⟨by rfl, ?_⟩) hHeld ?_
  rotate_left
  · intro w hSw
    (try dsimp only at hSw)
    have q := hSw.1.out.six
    clear hSw
    go_simp
    all_goals with_reducible rfl
  try simp only [List.getElem_toArray, List.getElem_cons_succ, List.getElem_cons_zero, Act.put, List.setIfInBounds_toArray, List.set_cons_zero, List.set_cons_succ]
  refine Any.take (i := 1) (v := ?_) rfl (by kernel_rfl) (by kernel_rfl) (by kernel_rfl) (by kernel_rfl) (fun _ _ _ h => h) (Or.inl ⟨by rfl, ?_⟩) hHeld ?_
  rotate_left
  · intro w hSw
    (try dsimp only at hSw)
    have q := hSw.2.out.five
    clear hSw
    go_simp
    all_goals with_reducible rfl
  try simp only [List.getElem_toArray, List.getElem_cons_succ, List.getElem_cons_zero, Act.put, List.setIfInBounds_toArray, List.set_cons_zero, List.set_cons_succ]
  refine Any.ready (rs := [2]) (by kernel_rfl) (by simp) ?_
  refine AllAny.cons rfl rfl (fun K hK => ?_) AllAny.nil
  go_simp
  refine hK.out _ _ ?_ (fun hHeld => ?_)
  · ((try dsimp only); refine ⟨?_, ?_⟩ <;> first | with_reducible assumption | (with_reducible refine mkHid (Blk.other6 (Hid.out ?_) ?_) <;> first | with_reducible assumption | omega))
  clear hK K
  try simp only [List.getElem_toArray, List.getElem_cons_succ, List.getElem_cons_zero, Act.put, List.setIfInBounds_toArray, List.set_cons_zero, List.set_cons_succ]
  refine Any.ready (rs := [3]) (by kernel_rfl) (by simp) ?_
  refine AllAny.lateCons rfl rfl (fun K hK => ?_) AllAny.nil
  go_simp
  refine hK.out _ _ ?_
  clear hK K
  try simp only [List.getElem_toArray, List.getElem_cons_succ, List.getElem_cons_zero, Act.put, List.setIfInBounds_toArray, List.set_cons_zero, List.set_cons_succ]
  refine Any.ready (rs := [4]) (by kernel_rfl) (by simp) ?_
  refine AllAny.lateCons rfl rfl (fun K hK => ?_) AllAny.nil
  go_simp
  refine hK.out _ _ ?_
  clear hK K
  try simp only [List.getElem_toArray, List.getElem_cons_succ, List.getElem_cons_zero, Act.put, List.setIfInBounds_toArray, List.set_cons_zero, List.set_cons_succ]
  refine Any.done (by kernel_rfl) ?_ _
  have qR := ((ZZ.out.fill6 (b0 := .int .i64 m.h) (b1 := .int .i64 m.cap) (b2 := .slice A1 m.l.length c1) (b3 := .int .i64 m.n) (b4 := .int .i64 m.draws) (b5 := .slice B1 m.sent.length d1)).other5 (g := w.heap.size + 1 + 1 + 1) (x0 := .int .i64 6) (x1 := .int .i64 0) (x2 := .int .i64 0) (x3 := .int .u64 0) (x4 := .int .u64 0) (by omega)).six
  have qA := ((ZA.out.other6 (g := w.heap.size + 1 + 1) (x0 := .int .i64 m.h) (x1 := .int .i64 m.cap) (x2 := .slice A1 m.l.length c1) (x3 := .int .i64 m.n) (x4 := .int .i64 m.draws) (x5 := .slice B1 m.sent.length d1) (by omega)).fill5 (b0 := .int .i64 6) (b1 := .int .i64 0) (b2 := .int .i64 0) (b3 := .int .u64 0) (b4 := .int .u64 0)).five
  go_wp2_with fail
  refine bodyPost_ret (v := .tuple #[.agg #[.int .i64 m.h, .int .i64 m.cap, .slice A1 m.l.length c1, .int .i64 m.n, .int .i64 m.draws, .slice B1 m.sent.length d1], .agg #[.int .i64 6, .int .i64 0, .int .i64 0, .int .u64 0, .int .u64 0], .int .i64 0]) (by simp [results, Try.results29, go_sem, qR, qA]) rfl ⟨_, _, _, _, X1, rfl, OwnM.base (b' := w.heap.size + 4) ?_ (by omega), below_five (below_six KB.out (by omega) _ _ _ _ _ _) (by omega) _ _ _ _ _⟩
  exact (HO.out.past6 (by omega) _ _ _ _ _ _).past5 (by omega) _ _ _ _ _

set_option linter.unusedSimpArgs false in
set_option maxRecDepth 100000 in
set_option maxHeartbeats 4000000 in
theorem do1_over {m : ModD} {i : Nat} {n : Int} {p1 p2 : BitVec 64} (e : Hid ((if okM m then (0 : Int) else 1) = 0)) {L : List Nat} (f : Hid (withAll m.h m.l i = (L, 0))) (h1 : (m.l.length : Int) < m.cap) (hn : Hid (m.n = 1099511627776)) (A : Option Addr) (c : Nat) (B : Option Addr) (d : Nat) (w : World) (hM : MemM w A c B d m) :
    Calls Try.prog 29 #[.agg #[.int .i64 m.h, .int .i64 m.cap, .slice A m.l.length c, .int .i64 m.n, .int .i64 m.draws, .slice B m.sent.length d], .agg #[.int .i64 1, .int .u64 (i : Int), .int .i64 n, .int .u64 (p1.toNat : Int), .int .u64 (p2.toNat : Int)]] w (DoPost m (ansE 9) 0 w) := by
  have HS := mkHid (okM_sizes (m := m) (by cases hk : okM m with | true => rfl | false => exact absurd e.out (by rw [hk]; simp)))
  have t1 : decide ((m.l.length : Int) < m.cap) = true := decide_eq_true h1
  have ZX : Hid (Blk ((((w.alloc (.cells #[.int .i64 m.h, .int .i64 m.cap, .slice A m.l.length c, .int .i64 m.n, .int .i64 m.draws, .slice B m.sent.length d] 45)).alloc (.cells #[.int .i64 1, .int .u64 (i : Int), .int .i64 n, .int .u64 (p1.toNat : Int), .int .u64 (p2.toNat : Int)] 53)).alloc (.cells #[.int .i64 0, .int .i64 0, .slice none 0 0, .int .i64 0, .int .i64 0, .slice none 0 0] 45)).alloc (.cells #[.int .i64 0, .int .i64 0, .int .i64 0, .int .u64 0, .int .u64 0] 55)) w.heap.size 45 #[.int .i64 m.h, .int .i64 m.cap, .slice A m.l.length c, .int .i64 m.n, .int .i64 m.draws, .slice B m.sent.length d]) := mkHid ((((Blk.new _ _ _).alloc _).alloc _).alloc _)
  have ZP : Hid (Blk ((((w.alloc (.cells #[.int .i64 m.h, .int .i64 m.cap, .slice A m.l.length c, .int .i64 m.n, .int .i64 m.draws, .slice B m.sent.length d] 45)).alloc (.cells #[.int .i64 1, .int .u64 (i : Int), .int .i64 n, .int .u64 (p1.toNat : Int), .int .u64 (p2.toNat : Int)] 53)).alloc (.cells #[.int .i64 0, .int .i64 0, .slice none 0 0, .int .i64 0, .int .i64 0, .slice none 0 0] 45)).alloc (.cells #[.int .i64 0, .int .i64 0, .int .i64 0, .int .u64 0, .int .u64 0] 55)) (w.heap.size + 1) 53 #[.int .i64 1, .int .u64 (i : Int), .int .i64 n, .int .u64 (p1.toNat : Int), .int .u64 (p2.toNat : Int)]) := mkHid (((Blk.at _ _ _ (by simp)).alloc _).alloc _)
  have ZZ : Hid (Blk ((((w.alloc (.cells #[.int .i64 m.h, .int .i64 m.cap, .slice A m.l.length c, .int .i64 m.n, .int .i64 m.draws, .slice B m.sent.length d] 45)).alloc (.cells #[.int .i64 1, .int .u64 (i : Int), .int .i64 n, .int .u64 (p1.toNat : Int), .int .u64 (p2.toNat : Int)] 53)).alloc (.cells #[.int .i64 0, .int .i64 0, .slice none 0 0, .int .i64 0, .int .i64 0, .slice none 0 0] 45)).alloc (.cells #[.int .i64 0, .int .i64 0, .int .i64 0, .int .u64 0, .int .u64 0] 55)) (w.heap.size + 1 + 1) 45 #[.int .i64 0, .int .i64 0, .slice none 0 0, .int .i64 0, .int .i64 0, .slice none 0 0]) := mkHid ((Blk.at _ _ _ (by simp)).alloc _)
  have ZA : Hid (Blk ((((w.alloc (.cells #[.int .i64 m.h, .int .i64 m.cap, .slice A m.l.length c, .int .i64 m.n, .int .i64 m.draws, .slice B m.sent.length d] 45)).alloc (.cells #[.int .i64 1, .int .u64 (i : Int), .int .i64 n, .int .u64 (p1.toNat : Int), .int .u64 (p2.toNat : Int)] 53)).alloc (.cells #[.int .i64 0, .int .i64 0, .slice none 0 0, .int .i64 0, .int .i64 0, .slice none 0 0] 45)).alloc (.cells #[.int .i64 0, .int .i64 0, .int .i64 0, .int .u64 0, .int .u64 0] 55)) (w.heap.size + 1 + 1 + 1) 55 #[.int .i64 0, .int .i64 0, .int .i64 0, .int .u64 0, .int .u64 0]) := mkHid (Blk.at _ _ _ (by simp))
  have KB : Hid (Below w.heap.size w ((((w.alloc (.cells #[.int .i64 m.h, .int .i64 m.cap, .slice A m.l.length c, .int .i64 m.n, .int .i64 m.draws, .slice B m.sent.length d] 45)).alloc (.cells #[.int .i64 1, .int .u64 (i : Int), .int .i64 n, .int .u64 (p1.toNat : Int), .int .u64 (p2.toNat : Int)] 53)).alloc (.cells #[.int .i64 0, .int .i64 0, .slice none 0 0, .int .i64 0, .int .i64 0, .slice none 0 0] 45)).alloc (.cells #[.int .i64 0, .int .i64 0, .int .i64 0, .int .u64 0, .int .u64 0] 55))) := mkHid (((((Below.refl _ _).alloc (Nat.le_refl _) (.cells #[.int .i64 m.h, .int .i64 m.cap, .slice A m.l.length c, .int .i64 m.n, .int .i64 m.draws, .slice B m.sent.length d] 45)).alloc (by simp) (.cells #[.int .i64 1, .int .u64 (i : Int), .int .i64 n, .int .u64 (p1.toNat : Int), .int .u64 (p2.toNat : Int)] 53)).alloc (by simp; omega) (.cells #[.int .i64 0, .int .i64 0, .slice none 0 0, .int .i64 0, .int .i64 0, .slice none 0 0] 45)).alloc (by simp; omega) (.cells #[.int .i64 0, .int .i64 0, .int .i64 0, .int .u64 0, .int .u64 0] 55))
  have HM := mkHid (hM.below (((((Below.refl _ _).alloc (Nat.le_refl _) (.cells #[.int .i64 m.h, .int .i64 m.cap, .slice A m.l.length c, .int .i64 m.n, .int .i64 m.draws, .slice B m.sent.length d] 45)).alloc (by simp) (.cells #[.int .i64 1, .int .u64 (i : Int), .int .i64 n, .int .u64 (p1.toNat : Int), .int .u64 (p2.toNat : Int)] 53)).alloc (by simp; omega) (.cells #[.int .i64 0, .int .i64 0, .slice none 0 0, .int .i64 0, .int .i64 0, .slice none 0 0] 45)).alloc (by simp; omega) (.cells #[.int .i64 0, .int .i64 0, .int .i64 0, .int .u64 0, .int .u64 0] 55)))
  clear hM
  go_enter Try.func29, Try.ntmps29
  go_upto_region 1 with fail
  generalize ((((w.alloc (.cells #[.int .i64 m.h, .int .i64 m.cap, .slice A m.l.length c, .int .i64 m.n, .int .i64 m.draws, .slice B m.sent.length d] 45)).alloc (.cells #[.int .i64 1, .int .u64 (i : Int), .int .i64 n, .int .u64 (p1.toNat : Int), .int .u64 (p2.toNat : Int)] 53)).alloc (.cells #[.int .i64 0, .int .i64 0, .slice none 0 0, .int .i64 0, .int .i64 0, .slice none 0 0] 45)).alloc (.cells #[.int .i64 0, .int .i64 0, .int .i64 0, .int .u64 0, .int .u64 0] 55)) = w0 at *
  have lZA : w.heap.size + 1 + 1 + 1 < w0.heap.size := ZA.out.lt
  have cX := ZX.out.six
  have cP := ZP.out.five
  go_wp2_with fail
  refine (mchk e _ _ _ _ _ HM.out).mono ?_
  rintro e w1 ⟨rfl, hb⟩
  replace ZX := mkHid (ZX.out.keep hb)
  replace ZP := mkHid (ZP.out.keep hb)
  replace ZZ := mkHid (ZZ.out.keep hb)
  replace ZA := mkHid (ZA.out.keep hb)
  replace KB := mkHid (KB.out.step hb)
  replace HM := mkHid (HM.out.below hb)
  clear hb
  clear lZA cX cP
  have lZA : w.heap.size + 1 + 1 + 1 < w1.heap.size := ZA.out.lt
  have cX := ZX.out.six
  have cP := ZP.out.five
  go_wp2_with fail
  refine (mown HS.out.1 HS.out.2.1 HS.out.2.2 _ _ _ _ _ HM.out).mono ?_
  rintro e w2 ⟨⟨A1, c1, B1, d1, X1, rfl, ho⟩, hb⟩
  have HO := mkHid (ho.base (b := w.heap.size + 4) (by omega))
  clear ho HM
  replace ZX := mkHid (ZX.out.keep hb)
  replace ZP := mkHid (ZP.out.keep hb)
  replace ZZ := mkHid (ZZ.out.keep hb)
  replace ZA := mkHid (ZA.out.keep hb)
  replace KB := mkHid (KB.out.step hb)
  clear hb
  clear lZA cX cP
  have lZA : w.heap.size + 1 + 1 + 1 < w2.heap.size := ZA.out.lt
  have cX := ZX.out.six
  have cP := ZP.out.five
  have fX0 := ZX.out.frozen 0
  have fX1 := ZX.out.frozen 1
  have fX2 := ZX.out.frozen 2
  have fX3 := ZX.out.frozen 3
  have fX4 := ZX.out.frozen 4
  have fX5 := ZX.out.frozen 5
  go_upto_region 4 with fail
  replace ZX := mkHid (ZX.out.fill6 (b0 := .int .i64 m.h) (b1 := .int .i64 m.cap) (b2 := .slice A1 m.l.length c1) (b3 := .int .i64 m.n) (b4 := .int .i64 m.draws) (b5 := .slice B1 m.sent.length d1))
  replace ZP := mkHid (ZP.out.other6 (g := w.heap.size) (x0 := .int .i64 m.h) (x1 := .int .i64 m.cap) (x2 := .slice A1 m.l.length c1) (x3 := .int .i64 m.n) (x4 := .int .i64 m.draws) (x5 := .slice B1 m.sent.length d1) (by omega))
  replace ZZ := mkHid (ZZ.out.other6 (g := w.heap.size) (x0 := .int .i64 m.h) (x1 := .int .i64 m.cap) (x2 := .slice A1 m.l.length c1) (x3 := .int .i64 m.n) (x4 := .int .i64 m.draws) (x5 := .slice B1 m.sent.length d1) (by omega))
  replace ZA := mkHid (ZA.out.other6 (g := w.heap.size) (x0 := .int .i64 m.h) (x1 := .int .i64 m.cap) (x2 := .slice A1 m.l.length c1) (x3 := .int .i64 m.n) (x4 := .int .i64 m.draws) (x5 := .slice B1 m.sent.length d1) (by omega))
  replace KB := mkHid (below_six KB.out (Nat.le_refl _) (.int .i64 m.h) (.int .i64 m.cap) (.slice A1 m.l.length c1) (.int .i64 m.n) (.int .i64 m.draws) (.slice B1 m.sent.length d1))
  replace HO := mkHid (HO.out.past6 (g := w.heap.size) (by omega) (.int .i64 m.h) (.int .i64 m.cap) (.slice A1 m.l.length c1) (.int .i64 m.n) (.int .i64 m.draws) (.slice B1 m.sent.length d1))
  clear lZA cX cP fX0 fX1 fX2 fX3 fX4 fX5
  generalize ((((((w2.setCell ⟨w.heap.size, 0, none⟩ (.int .i64 m.h)).setCell ⟨w.heap.size, 1, none⟩ (.int .i64 m.cap)).setCell ⟨w.heap.size, 2, none⟩ (.slice A1 m.l.length c1)).setCell ⟨w.heap.size, 3, none⟩ (.int .i64 m.n)).setCell ⟨w.heap.size, 4, none⟩ (.int .i64 m.draws)).setCell ⟨w.heap.size, 5, none⟩ (.slice B1 m.sent.length d1)) = w3 at *
  have lZA : w.heap.size + 1 + 1 + 1 < w3.heap.size := ZA.out.lt
  have cX := ZX.out.six
  have cP := ZP.out.five
  have cA := ZA.out.five
  have HRd := mkHid HO.out.reads
  have fa := ZA.out.frozen 0
  go_wp2_with fail
  refine (cw_over f hn.out w.heap.size A1 c1 B1 d1 _ ZX.out HRd.out).mono ?_
  rintro e w4 ⟨rfl, hb⟩
  clear HRd fa
  replace ZX := mkHid (ZX.out.keep hb)
  replace ZP := mkHid (ZP.out.keep hb)
  replace ZZ := mkHid (ZZ.out.keep hb)
  replace ZA := mkHid (ZA.out.keep hb)
  replace KB := mkHid (KB.out.step hb)
  replace HO := mkHid (HO.out.below hb)
  clear hb
  clear lZA cX cP cA
  have lZA : w.heap.size + 1 + 1 + 1 < w4.heap.size := ZA.out.lt
  have cX := ZX.out.six
  have cP := ZP.out.five
  have cA := ZA.out.five
  have fa := ZA.out.frozen 0
  go_upto_region 23 with fail
  clear fa
  replace ZX : Hid (Blk (w4.setCell ⟨w.heap.size + 1 + 1 + 1, 0, none⟩ (.int .i64 9)) w.heap.size 45 #[.int .i64 m.h, .int .i64 m.cap, .slice A1 m.l.length c1, .int .i64 m.n, .int .i64 m.draws, .slice B1 m.sent.length d1]) := mkHid ((ZX.out.other _ (by omega)))
  replace ZP : Hid (Blk (w4.setCell ⟨w.heap.size + 1 + 1 + 1, 0, none⟩ (.int .i64 9)) (w.heap.size + 1) 53 #[.int .i64 1, .int .u64 (i : Int), .int .i64 n, .int .u64 (p1.toNat : Int), .int .u64 (p2.toNat : Int)]) := mkHid ((ZP.out.other _ (by omega)))
  replace ZZ : Hid (Blk (w4.setCell ⟨w.heap.size + 1 + 1 + 1, 0, none⟩ (.int .i64 9)) (w.heap.size + 1 + 1) 45 #[.int .i64 0, .int .i64 0, .slice none 0 0, .int .i64 0, .int .i64 0, .slice none 0 0]) := mkHid ((ZZ.out.other _ (by omega)))
  replace ZA : Hid (Blk (w4.setCell ⟨w.heap.size + 1 + 1 + 1, 0, none⟩ (.int .i64 9)) (w.heap.size + 1 + 1 + 1) 55 #[.int .i64 9, .int .i64 0, .int .i64 0, .int .u64 0, .int .u64 0]) := mkHid ((ZA.out.set 0 (.int .i64 9)))
  replace KB : Hid (Below w.heap.size w (w4.setCell ⟨w.heap.size + 1 + 1 + 1, 0, none⟩ (.int .i64 9))) := mkHid ((KB.out.setCell (by show w.heap.size ≤ w.heap.size + 1 + 1 + 1; omega) _))
  replace HO := mkHid ((HO.out.past (g := w.heap.size + 1 + 1 + 1) (by omega) 0 (.int .i64 9)))
  generalize (w4.setCell ⟨w.heap.size + 1 + 1 + 1, 0, none⟩ (.int .i64 9)) = w5 at *
  clear lZA cX cP cA
  have lZA : w.heap.size + 1 + 1 + 1 < w5.heap.size := ZA.out.lt
  have cX := ZX.out.six
  have cP := ZP.out.five
  have cA := ZA.out.five
  replace ZX : Hid (Blk w5.drew _ _ _) := mkHid ZX.out.drew
  replace ZA : Hid (Blk w5.drew _ _ _) := mkHid ZA.out.drew
  replace ZZ : Hid (Blk w5.drew _ _ _) := mkHid ZZ.out.drew
  replace KB : Hid (Below w.heap.size w w5.drew) := mkHid KB.out.drew
  replace HO := mkHid (HO.out.below (Below.drew (Below.refl _ w5)))
  clear cX cP cA
  have cZ := ZZ.out.six
  have cA := ZA.out.five
  have gz0 := ZZ.out.frozen 0
  have gz1 := ZZ.out.frozen 1
  have gz2 := ZZ.out.frozen 2
  have gz3 := ZZ.out.frozen 3
  have gz4 := ZZ.out.frozen 4
  have gz5 := ZZ.out.frozen 5
  have ga0 := ZA.out.frozen 0
  have ga1 := ZA.out.frozen 1
  have ga2 := ZA.out.frozen 2
  have ga3 := ZA.out.frozen 3
  have ga4 := ZA.out.frozen 4
  clear ZP
  refine wp_region_late (late := fun i => decide (3 ≤ i)) (S := fun w' => Hid (Blk w' w.heap.size 45 #[.int .i64 m.h, .int .i64 m.cap, .slice A1 m.l.length c1, .int .i64 m.n, .int .i64 m.draws, .slice B1 m.sent.length d1]) ∧ Hid (Blk w' (w.heap.size + 1 + 1 + 1) 55 #[.int .i64 9, .int .i64 0, .int .i64 0, .int .u64 0, .int .u64 0])) (by kernel_rfl) ?_ (fun hHeld => ?_)
  · ((try dsimp only); refine ⟨?_, ?_⟩ <;> first | with_reducible assumption | (with_reducible refine mkHid (Blk.other6 (Hid.out ?_) ?_) <;> first | with_reducible assumption | omega))
  generalize w5.drew = u at *
  refine Any.take (i := 0) (v := ?_) rfl (by kernel_rfl) (by kernel_rfl) (by kernel_rfl) (by kernel_rfl) (fun _ _ _ h => h) (Or.inl ⟨by rfl, ?_⟩) hHeld ?_
  rotate_left
  · intro w hSw
    (try dsimp only at hSw)
    have q := hSw.1.out.six
    clear hSw
    go_simp
    all_goals with_reducible rfl
  try simp only [List.getElem_toArray, List.getElem_cons_succ, List.getElem_cons_zero, Act.put, List.setIfInBounds_toArray, List.set_cons_zero, List.set_cons_succ]
  refine Any.take (i := 1) (v := ?_) rfl (by kernel_rfl) (by kernel_rfl) (by kernel_rfl) (by kernel_rfl) (fun _ _ _ h => h) (Or.inl ⟨by rfl, ?_⟩) hHeld ?_
  rotate_left
  · intro w hSw
    (try dsimp only at hSw)
    have q := hSw.2.out.five
    clear hSw
    go_simp
    all_goals with_reducible rfl
  try simp only [List.getElem_toArray, List.getElem_cons_succ, List.getElem_cons_zero, Act.put, List.setIfInBounds_toArray, List.set_cons_zero, List.set_cons_succ]
  refine Any.ready (rs := [2]) (by kernel_rfl) (by simp) ?_
  refine AllAny.cons rfl rfl (fun K hK => ?_) AllAny.nil
  go_simp
  refine hK.out _ _ ?_ (fun hHeld => ?_)
  · ((try dsimp only); refine ⟨?_, ?_⟩ <;> first | with_reducible assumption | (with_reducible refine mkHid (Blk.other6 (Hid.out ?_) ?_) <;> first | with_reducible assumption | omega))
  clear hK K
  try simp only [List.getElem_toArray, List.getElem_cons_succ, List.getElem_cons_zero, Act.put, List.setIfInBounds_toArray, List.set_cons_zero, List.set_cons_succ]
  refine Any.ready (rs := [3]) (by kernel_rfl) (by simp) ?_
  refine AllAny.lateCons rfl rfl (fun K hK => ?_) AllAny.nil
  go_simp
  refine hK.out _ _ ?_
  clear hK K
  try simp only [List.getElem_toArray, List.getElem_cons_succ, List.getElem_cons_zero, Act.put, List.setIfInBounds_toArray, List.set_cons_zero, List.set_cons_succ]
  refine Any.ready (rs := [4]) (by kernel_rfl) (by simp) ?_
  refine AllAny.lateCons rfl rfl (fun K hK => ?_) AllAny.nil
  go_simp
  refine hK.out _ _ ?_
  clear hK K
  try simp only [List.getElem_toArray, List.getElem_cons_succ, List.getElem_cons_zero, Act.put, List.setIfInBounds_toArray, List.set_cons_zero, List.set_cons_succ]
  refine Any.done (by kernel_rfl) ?_ _
  have qR := ((ZZ.out.fill6 (b0 := .int .i64 m.h) (b1 := .int .i64 m.cap) (b2 := .slice A1 m.l.length c1) (b3 := .int .i64 m.n) (b4 := .int .i64 m.draws) (b5 := .slice B1 m.sent.length d1)).other5 (g := w.heap.size + 1 + 1 + 1) (x0 := .int .i64 9) (x1 := .int .i64 0) (x2 := .int .i64 0) (x3 := .int .u64 0) (x4 := .int .u64 0) (by omega)).six
  have qA := ((ZA.out.other6 (g := w.heap.size + 1 + 1) (x0 := .int .i64 m.h) (x1 := .int .i64 m.cap) (x2 := .slice A1 m.l.length c1) (x3 := .int .i64 m.n) (x4 := .int .i64 m.draws) (x5 := .slice B1 m.sent.length d1) (by omega)).fill5 (b0 := .int .i64 9) (b1 := .int .i64 0) (b2 := .int .i64 0) (b3 := .int .u64 0) (b4 := .int .u64 0)).five
  go_wp2_with fail
  refine bodyPost_ret (v := .tuple #[.agg #[.int .i64 m.h, .int .i64 m.cap, .slice A1 m.l.length c1, .int .i64 m.n, .int .i64 m.draws, .slice B1 m.sent.length d1], .agg #[.int .i64 9, .int .i64 0, .int .i64 0, .int .u64 0, .int .u64 0], .int .i64 0]) (by simp [results, Try.results29, go_sem, qR, qA]) rfl ⟨_, _, _, _, X1, rfl, OwnM.base (b' := w.heap.size + 4) ?_ (by omega), below_five (below_six KB.out (by omega) _ _ _ _ _ _) (by omega) _ _ _ _ _⟩
  exact (HO.out.past6 (by omega) _ _ _ _ _ _).past5 (by omega) _ _ _ _ _

set_option linter.unusedSimpArgs false in
set_option maxRecDepth 100000 in
set_option maxHeartbeats 4000000 in
theorem do1_ok {m : ModD} {i : Nat} {n : Int} {p1 p2 : BitVec 64} (e : Hid ((if okM m then (0 : Int) else 1) = 0)) {L : List Nat} (f : Hid (withAll m.h m.l i = (L, 0))) (h1 : (m.l.length : Int) < m.cap) (hn : m.n ≠ 1099511627776) (n0 : 0 ≤ m.n) (n1 : m.n ≤ 1099511627776) (A : Option Addr) (c : Nat) (B : Option Addr) (d : Nat) (w : World) (hM : MemM w A c B d m) :
    Calls Try.prog 29 #[.agg #[.int .i64 m.h, .int .i64 m.cap, .slice A m.l.length c, .int .i64 m.n, .int .i64 m.draws, .slice B m.sent.length d], .agg #[.int .i64 1, .int .u64 (i : Int), .int .i64 n, .int .u64 (p1.toNat : Int), .int .u64 (p2.toNat : Int)]] w (DoPost { m with l := L, n := m.n + 1 } (ansE 0) 0 w) := by
  have HS := mkHid (okM_sizes (m := m) (by cases hk : okM m with | true => rfl | false => exact absurd e.out (by rw [hk]; simp)))
  have t1 : decide ((m.l.length : Int) < m.cap) = true := decide_eq_true h1
  have ZX : Hid (Blk ((((w.alloc (.cells #[.int .i64 m.h, .int .i64 m.cap, .slice A m.l.length c, .int .i64 m.n, .int .i64 m.draws, .slice B m.sent.length d] 45)).alloc (.cells #[.int .i64 1, .int .u64 (i : Int), .int .i64 n, .int .u64 (p1.toNat : Int), .int .u64 (p2.toNat : Int)] 53)).alloc (.cells #[.int .i64 0, .int .i64 0, .slice none 0 0, .int .i64 0, .int .i64 0, .slice none 0 0] 45)).alloc (.cells #[.int .i64 0, .int .i64 0, .int .i64 0, .int .u64 0, .int .u64 0] 55)) w.heap.size 45 #[.int .i64 m.h, .int .i64 m.cap, .slice A m.l.length c, .int .i64 m.n, .int .i64 m.draws, .slice B m.sent.length d]) := mkHid ((((Blk.new _ _ _).alloc _).alloc _).alloc _)
  have ZP : Hid (Blk ((((w.alloc (.cells #[.int .i64 m.h, .int .i64 m.cap, .slice A m.l.length c, .int .i64 m.n, .int .i64 m.draws, .slice B m.sent.length d] 45)).alloc (.cells #[.int .i64 1, .int .u64 (i : Int), .int .i64 n, .int .u64 (p1.toNat : Int), .int .u64 (p2.toNat : Int)] 53)).alloc (.cells #[.int .i64 0, .int .i64 0, .slice none 0 0, .int .i64 0, .int .i64 0, .slice none 0 0] 45)).alloc (.cells #[.int .i64 0, .int .i64 0, .int .i64 0, .int .u64 0, .int .u64 0] 55)) (w.heap.size + 1) 53 #[.int .i64 1, .int .u64 (i : Int), .int .i64 n, .int .u64 (p1.toNat : Int), .int .u64 (p2.toNat : Int)]) := mkHid (((Blk.at _ _ _ (by simp)).alloc _).alloc _)
  have ZZ : Hid (Blk ((((w.alloc (.cells #[.int .i64 m.h, .int .i64 m.cap, .slice A m.l.length c, .int .i64 m.n, .int .i64 m.draws, .slice B m.sent.length d] 45)).alloc (.cells #[.int .i64 1, .int .u64 (i : Int), .int .i64 n, .int .u64 (p1.toNat : Int), .int .u64 (p2.toNat : Int)] 53)).alloc (.cells #[.int .i64 0, .int .i64 0, .slice none 0 0, .int .i64 0, .int .i64 0, .slice none 0 0] 45)).alloc (.cells #[.int .i64 0, .int .i64 0, .int .i64 0, .int .u64 0, .int .u64 0] 55)) (w.heap.size + 1 + 1) 45 #[.int .i64 0, .int .i64 0, .slice none 0 0, .int .i64 0, .int .i64 0, .slice none 0 0]) := mkHid ((Blk.at _ _ _ (by simp)).alloc _)
  have ZA : Hid (Blk ((((w.alloc (.cells #[.int .i64 m.h, .int .i64 m.cap, .slice A m.l.length c, .int .i64 m.n, .int .i64 m.draws, .slice B m.sent.length d] 45)).alloc (.cells #[.int .i64 1, .int .u64 (i : Int), .int .i64 n, .int .u64 (p1.toNat : Int), .int .u64 (p2.toNat : Int)] 53)).alloc (.cells #[.int .i64 0, .int .i64 0, .slice none 0 0, .int .i64 0, .int .i64 0, .slice none 0 0] 45)).alloc (.cells #[.int .i64 0, .int .i64 0, .int .i64 0, .int .u64 0, .int .u64 0] 55)) (w.heap.size + 1 + 1 + 1) 55 #[.int .i64 0, .int .i64 0, .int .i64 0, .int .u64 0, .int .u64 0]) := mkHid (Blk.at _ _ _ (by simp))
  have KB : Hid (Below w.heap.size w ((((w.alloc (.cells #[.int .i64 m.h, .int .i64 m.cap, .slice A m.l.length c, .int .i64 m.n, .int .i64 m.draws, .slice B m.sent.length d] 45)).alloc (.cells #[.int .i64 1, .int .u64 (i : Int), .int .i64 n, .int .u64 (p1.toNat : Int), .int .u64 (p2.toNat : Int)] 53)).alloc (.cells #[.int .i64 0, .int .i64 0, .slice none 0 0, .int .i64 0, .int .i64 0, .slice none 0 0] 45)).alloc (.cells #[.int .i64 0, .int .i64 0, .int .i64 0, .int .u64 0, .int .u64 0] 55))) := mkHid (((((Below.refl _ _).alloc (Nat.le_refl _) (.cells #[.int .i64 m.h, .int .i64 m.cap, .slice A m.l.length c, .int .i64 m.n, .int .i64 m.draws, .slice B m.sent.length d] 45)).alloc (by simp) (.cells #[.int .i64 1, .int .u64 (i : Int), .int .i64 n, .int .u64 (p1.toNat : Int), .int .u64 (p2.toNat : Int)] 53)).alloc (by simp; omega) (.cells #[.int .i64 0, .int .i64 0, .slice none 0 0, .int .i64 0, .int .i64 0, .slice none 0 0] 45)).alloc (by simp; omega) (.cells #[.int .i64 0, .int .i64 0, .int .i64 0, .int .u64 0, .int .u64 0] 55))
  have HM := mkHid (hM.below (((((Below.refl _ _).alloc (Nat.le_refl _) (.cells #[.int .i64 m.h, .int .i64 m.cap, .slice A m.l.length c, .int .i64 m.n, .int .i64 m.draws, .slice B m.sent.length d] 45)).alloc (by simp) (.cells #[.int .i64 1, .int .u64 (i : Int), .int .i64 n, .int .u64 (p1.toNat : Int), .int .u64 (p2.toNat : Int)] 53)).alloc (by simp; omega) (.cells #[.int .i64 0, .int .i64 0, .slice none 0 0, .int .i64 0, .int .i64 0, .slice none 0 0] 45)).alloc (by simp; omega) (.cells #[.int .i64 0, .int .i64 0, .int .i64 0, .int .u64 0, .int .u64 0] 55)))
  clear hM
  go_enter Try.func29, Try.ntmps29
  go_upto_region 1 with fail
  generalize ((((w.alloc (.cells #[.int .i64 m.h, .int .i64 m.cap, .slice A m.l.length c, .int .i64 m.n, .int .i64 m.draws, .slice B m.sent.length d] 45)).alloc (.cells #[.int .i64 1, .int .u64 (i : Int), .int .i64 n, .int .u64 (p1.toNat : Int), .int .u64 (p2.toNat : Int)] 53)).alloc (.cells #[.int .i64 0, .int .i64 0, .slice none 0 0, .int .i64 0, .int .i64 0, .slice none 0 0] 45)).alloc (.cells #[.int .i64 0, .int .i64 0, .int .i64 0, .int .u64 0, .int .u64 0] 55)) = w0 at *
  have lZA : w.heap.size + 1 + 1 + 1 < w0.heap.size := ZA.out.lt
  have cX := ZX.out.six
  have cP := ZP.out.five
  go_wp2_with fail
  refine (mchk e _ _ _ _ _ HM.out).mono ?_
  rintro e w1 ⟨rfl, hb⟩
  replace ZX := mkHid (ZX.out.keep hb)
  replace ZP := mkHid (ZP.out.keep hb)
  replace ZZ := mkHid (ZZ.out.keep hb)
  replace ZA := mkHid (ZA.out.keep hb)
  replace KB := mkHid (KB.out.step hb)
  replace HM := mkHid (HM.out.below hb)
  clear hb
  clear lZA cX cP
  have lZA : w.heap.size + 1 + 1 + 1 < w1.heap.size := ZA.out.lt
  have cX := ZX.out.six
  have cP := ZP.out.five
  go_wp2_with fail
  refine (mown HS.out.1 HS.out.2.1 HS.out.2.2 _ _ _ _ _ HM.out).mono ?_
  rintro e w2 ⟨⟨A1, c1, B1, d1, X1, rfl, ho⟩, hb⟩
  have HO := mkHid (ho.base (b := w.heap.size + 4) (by omega))
  clear ho HM
  replace ZX := mkHid (ZX.out.keep hb)
  replace ZP := mkHid (ZP.out.keep hb)
  replace ZZ := mkHid (ZZ.out.keep hb)
  replace ZA := mkHid (ZA.out.keep hb)
  replace KB := mkHid (KB.out.step hb)
  clear hb
  clear lZA cX cP
  have lZA : w.heap.size + 1 + 1 + 1 < w2.heap.size := ZA.out.lt
  have cX := ZX.out.six
  have cP := ZP.out.five
  have fX0 := ZX.out.frozen 0
  have fX1 := ZX.out.frozen 1
  have fX2 := ZX.out.frozen 2
  have fX3 := ZX.out.frozen 3
  have fX4 := ZX.out.frozen 4
  have fX5 := ZX.out.frozen 5
  go_upto_region 4 with fail
  replace ZX := mkHid (ZX.out.fill6 (b0 := .int .i64 m.h) (b1 := .int .i64 m.cap) (b2 := .slice A1 m.l.length c1) (b3 := .int .i64 m.n) (b4 := .int .i64 m.draws) (b5 := .slice B1 m.sent.length d1))
  replace ZP := mkHid (ZP.out.other6 (g := w.heap.size) (x0 := .int .i64 m.h) (x1 := .int .i64 m.cap) (x2 := .slice A1 m.l.length c1) (x3 := .int .i64 m.n) (x4 := .int .i64 m.draws) (x5 := .slice B1 m.sent.length d1) (by omega))
  replace ZZ := mkHid (ZZ.out.other6 (g := w.heap.size) (x0 := .int .i64 m.h) (x1 := .int .i64 m.cap) (x2 := .slice A1 m.l.length c1) (x3 := .int .i64 m.n) (x4 := .int .i64 m.draws) (x5 := .slice B1 m.sent.length d1) (by omega))
  replace ZA := mkHid (ZA.out.other6 (g := w.heap.size) (x0 := .int .i64 m.h) (x1 := .int .i64 m.cap) (x2 := .slice A1 m.l.length c1) (x3 := .int .i64 m.n) (x4 := .int .i64 m.draws) (x5 := .slice B1 m.sent.length d1) (by omega))
  replace KB := mkHid (below_six KB.out (Nat.le_refl _) (.int .i64 m.h) (.int .i64 m.cap) (.slice A1 m.l.length c1) (.int .i64 m.n) (.int .i64 m.draws) (.slice B1 m.sent.length d1))
  replace HO := mkHid (HO.out.past6 (g := w.heap.size) (by omega) (.int .i64 m.h) (.int .i64 m.cap) (.slice A1 m.l.length c1) (.int .i64 m.n) (.int .i64 m.draws) (.slice B1 m.sent.length d1))
  clear lZA cX cP fX0 fX1 fX2 fX3 fX4 fX5
  generalize ((((((w2.setCell ⟨w.heap.size, 0, none⟩ (.int .i64 m.h)).setCell ⟨w.heap.size, 1, none⟩ (.int .i64 m.cap)).setCell ⟨w.heap.size, 2, none⟩ (.slice A1 m.l.length c1)).setCell ⟨w.heap.size, 3, none⟩ (.int .i64 m.n)).setCell ⟨w.heap.size, 4, none⟩ (.int .i64 m.draws)).setCell ⟨w.heap.size, 5, none⟩ (.slice B1 m.sent.length d1)) = w3 at *
  have lZA : w.heap.size + 1 + 1 + 1 < w3.heap.size := ZA.out.lt
  have cX := ZX.out.six
  have cP := ZP.out.five
  have cA := ZA.out.five
  have HRd := mkHid HO.out.reads
  have fa := ZA.out.frozen 0
  go_wp2_with fail
  refine (cw_ok f hn n0 n1 w.heap.size A1 c1 B1 d1 _ ZX.out HRd.out).mono ?_
  rintro e w4 ⟨A2, c2, rfl, hrow, hz, hg⟩
  clear HRd fa
  replace ZX := mkHid hz
  replace ZP := mkHid (ZP.out.grown hg (by omega))
  replace ZZ := mkHid (ZZ.out.grown hg (by omega))
  replace ZA := mkHid (ZA.out.grown hg (by omega))
  replace KB := mkHid (KB.out.grown hg (by omega) (fun k hk => by cases hk; omega))
  replace HO := mkHid ((HO.out.grown hg (by omega)).newL (k := m.n + 1) (RowOf.rebase hrow (by omega)))
  clear hz hg hrow lZA cX cP cA
  have lZA : w.heap.size + 1 + 1 + 1 < w4.heap.size := ZA.out.lt
  have cX := ZX.out.six
  have cP := ZP.out.five
  have cA := ZA.out.five
  have fa := ZA.out.frozen 0
  go_upto_region 23 with fail
  clear fa
  replace ZX : Hid (Blk (w4.setCell ⟨w.heap.size + 1 + 1 + 1, 0, none⟩ (.int .i64 0)) w.heap.size 45 #[.int .i64 m.h, .int .i64 m.cap, .slice A2 L.length c2, .int .i64 (m.n + 1), .int .i64 m.draws, .slice B1 m.sent.length d1]) := mkHid ((ZX.out.other _ (by omega)))
  replace ZP : Hid (Blk (w4.setCell ⟨w.heap.size + 1 + 1 + 1, 0, none⟩ (.int .i64 0)) (w.heap.size + 1) 53 #[.int .i64 1, .int .u64 (i : Int), .int .i64 n, .int .u64 (p1.toNat : Int), .int .u64 (p2.toNat : Int)]) := mkHid ((ZP.out.other _ (by omega)))
  replace ZZ : Hid (Blk (w4.setCell ⟨w.heap.size + 1 + 1 + 1, 0, none⟩ (.int .i64 0)) (w.heap.size + 1 + 1) 45 #[.int .i64 0, .int .i64 0, .slice none 0 0, .int .i64 0, .int .i64 0, .slice none 0 0]) := mkHid ((ZZ.out.other _ (by omega)))
  replace ZA : Hid (Blk (w4.setCell ⟨w.heap.size + 1 + 1 + 1, 0, none⟩ (.int .i64 0)) (w.heap.size + 1 + 1 + 1) 55 #[.int .i64 0, .int .i64 0, .int .i64 0, .int .u64 0, .int .u64 0]) := mkHid ((ZA.out.set 0 (.int .i64 0)))
  replace KB : Hid (Below w.heap.size w (w4.setCell ⟨w.heap.size + 1 + 1 + 1, 0, none⟩ (.int .i64 0))) := mkHid ((KB.out.setCell (by show w.heap.size ≤ w.heap.size + 1 + 1 + 1; omega) _))
  replace HO := mkHid ((HO.out.past (g := w.heap.size + 1 + 1 + 1) (by omega) 0 (.int .i64 0)))
  generalize (w4.setCell ⟨w.heap.size + 1 + 1 + 1, 0, none⟩ (.int .i64 0)) = w5 at *
  clear lZA cX cP cA
  have lZA : w.heap.size + 1 + 1 + 1 < w5.heap.size := ZA.out.lt
  have cX := ZX.out.six
  have cP := ZP.out.five
  have cA := ZA.out.five
  replace ZX : Hid (Blk w5.drew _ _ _) := mkHid ZX.out.drew
  replace ZA : Hid (Blk w5.drew _ _ _) := mkHid ZA.out.drew
  replace ZZ : Hid (Blk w5.drew _ _ _) := mkHid ZZ.out.drew
  replace KB : Hid (Below w.heap.size w w5.drew) := mkHid KB.out.drew
  replace HO := mkHid (HO.out.below (Below.drew (Below.refl _ w5)))
  clear cX cP cA
  have cZ := ZZ.out.six
  have cA := ZA.out.five
  have gz0 := ZZ.out.frozen 0
  have gz1 := ZZ.out.frozen 1
  have gz2 := ZZ.out.frozen 2
  have gz3 := ZZ.out.frozen 3
  have gz4 := ZZ.out.frozen 4
  have gz5 := ZZ.out.frozen 5
  have ga0 := ZA.out.frozen 0
  have ga1 := ZA.out.frozen 1
  have ga2 := ZA.out.frozen 2
  have ga3 := ZA.out.frozen 3
  have ga4 := ZA.out.frozen 4
  clear ZP
  refine wp_region_late (late := fun i => decide (3 ≤ i)) (S := fun w' => Hid (Blk w' w.heap.size 45 #[.int .i64 m.h, .int .i64 m.cap, .slice A2 L.length c2, .int .i64 (m.n + 1), .int .i64 m.draws, .slice B1 m.sent.length d1]) ∧ Hid (Blk w' (w.heap.size + 1 + 1 + 1) 55 #[.int .i64 0, .int .i64 0, .int .i64 0, .int .u64 0, .int .u64 0])) (by kernel_rfl) ?_ (fun hHeld => ?_)
  · ((try dsimp only); refine ⟨?_, ?_⟩ <;> first | with_reducible assumption | (with_reducible refine mkHid (Blk.other6 (Hid.out ?_) ?_) <;> first | with_reducible assumption | omega))
  generalize w5.drew = u at *
  refine Any.take (i := 0) (v := ?_) rfl (by kernel_rfl) (by kernel_rfl) (by kernel_rfl) (by kernel_rfl) (fun _ _ _ h => h) (Or.inl ⟨by rfl, ?_⟩) hHeld ?_
  rotate_left
  · intro w hSw
    (try dsimp only at hSw)
    have q := hSw.1.out.six
    clear hSw
    go_simp
    all_goals with_reducible rfl
  try simp only [List.getElem_toArray, List.getElem_cons_succ, List.getElem_cons_zero, Act.put, List.setIfInBounds_toArray, List.set_cons_zero, List.set_cons_succ]
  refine Any.take (i := 1) (v := ?_) rfl (by kernel_rfl) (by kernel_rfl) (by kernel_rfl) (by kernel_rfl) (fun _ _ _ h => h) (Or.inl ⟨by rfl, ?_⟩) hHeld ?_
  rotate_left
  · intro w hSw
    (try dsimp only at hSw)
    have q := hSw.2.out.five
    clear hSw
    go_simp
    all_goals with_reducible rfl
  try simp only [List.getElem_toArray, List.getElem_cons_succ, List.getElem_cons_zero, Act.put, List.setIfInBounds_toArray, List.set_cons_zero, List.set_cons_succ]
  refine Any.ready (rs := [2]) (by kernel_rfl) (by simp) ?_
  refine AllAny.cons rfl rfl (fun K hK => ?_) AllAny.nil
  go_simp
  refine hK.out _ _ ?_ (fun hHeld => ?_)
  · ((try dsimp only); refine ⟨?_, ?_⟩ <;> first | with_reducible assumption | (with_reducible refine mkHid (Blk.other6 (Hid.out ?_) ?_) <;> first | with_reducible assumption | omega))
  clear hK K
  try simp only [List.getElem_toArray, List.getElem_cons_succ, List.getElem_cons_zero, Act.put, List.setIfInBounds_toArray, List.set_cons_zero, List.set_cons_succ]
  refine Any.ready (rs := [3]) (by kernel_rfl) (by simp) ?_
  refine AllAny.lateCons rfl rfl (fun K hK => ?_) AllAny.nil
  go_simp
  refine hK.out _ _ ?_
  clear hK K
  try simp only [List.getElem_toArray, List.getElem_cons_succ, List.getElem_cons_zero, Act.put, List.setIfInBounds_toArray, List.set_cons_zero, List.set_cons_succ]
  refine Any.ready (rs := [4]) (by kernel_rfl) (by simp) ?_
  refine AllAny.lateCons rfl rfl (fun K hK => ?_) AllAny.nil
  go_simp
  refine hK.out _ _ ?_
  clear hK K
  try simp only [List.getElem_toArray, List.getElem_cons_succ, List.getElem_cons_zero, Act.put, List.setIfInBounds_toArray, List.set_cons_zero, List.set_cons_succ]
  refine Any.done (by kernel_rfl) ?_ _
  have qR := ((ZZ.out.fill6 (b0 := .int .i64 m.h) (b1 := .int .i64 m.cap) (b2 := .slice A2 L.length c2) (b3 := .int .i64 (m.n + 1)) (b4 := .int .i64 m.draws) (b5 := .slice B1 m.sent.length d1)).other5 (g := w.heap.size + 1 + 1 + 1) (x0 := .int .i64 0) (x1 := .int .i64 0) (x2 := .int .i64 0) (x3 := .int .u64 0) (x4 := .int .u64 0) (by omega)).six
  have qA := ((ZA.out.other6 (g := w.heap.size + 1 + 1) (x0 := .int .i64 m.h) (x1 := .int .i64 m.cap) (x2 := .slice A2 L.length c2) (x3 := .int .i64 (m.n + 1)) (x4 := .int .i64 m.draws) (x5 := .slice B1 m.sent.length d1) (by omega)).fill5 (b0 := .int .i64 0) (b1 := .int .i64 0) (b2 := .int .i64 0) (b3 := .int .u64 0) (b4 := .int .u64 0)).five
  go_wp2_with fail
  refine bodyPost_ret (v := .tuple #[.agg #[.int .i64 m.h, .int .i64 m.cap, .slice A2 L.length c2, .int .i64 (m.n + 1), .int .i64 m.draws, .slice B1 m.sent.length d1], .agg #[.int .i64 0, .int .i64 0, .int .i64 0, .int .u64 0, .int .u64 0], .int .i64 0]) (by simp [results, Try.results29, go_sem, qR, qA]) rfl ⟨_, _, _, _, X1, rfl, OwnM.base (b' := w.heap.size + 4) ?_ (by omega), below_five (below_six KB.out (by omega) _ _ _ _ _ _) (by omega) _ _ _ _ _⟩
  exact (HO.out.past6 (by omega) _ _ _ _ _ _).past5 (by omega) _ _ _ _ _
end Go.Proofs.Ytmehbonjpmlmfaa
