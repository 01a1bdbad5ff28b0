/- Words for the laws of models: what a script does, in memory; rows beside blocks of other types. -/
import Derived.Test.YtmehbonjpmlmfaaLib5
namespace Go.Proofs.Ytmehbonjpmlmfaa
open Go.RowKit

theorem min_or {a b c : Int} (h : a = min b c) : (b ≤ c ∧ a = b) ∨ (c ≤ b ∧ a = c) := by
  rw [Int.min_def] at h
  split at h
  · exact .inl ⟨by assumption, h⟩
  · exact .inr ⟨by omega, h⟩
theorem min_of {a b c : Int} (h : (b ≤ c ∧ a = b) ∨ (c ≤ b ∧ a = c)) : a = min b c := by
  rw [Int.min_def]
  split <;> omega
set_option maxRecDepth 100000 in
theorem OpsAt.at {w : World} {A : Option Addr} {L : List OpD} (h : OpsAt w A L) {i : Nat} (hi : i < L.length) : ∃ b off, A = some ⟨b, off, none⟩ ∧ w.cell? ⟨b, off + i * 5, none⟩ = some (.int .i64 L[i].kind) ∧ w.cell? ⟨b, off + i * 5 + 1, none⟩ = some (.int .u64 (L[i].i : Int)) ∧
    w.cell? ⟨b, off + i * 5 + 2, none⟩ = some (.int .i64 L[i].n) ∧ w.cell? ⟨b, off + i * 5 + 3, none⟩ = some (.int .u64 (L[i].p.1.toNat : Int)) ∧ w.cell? ⟨b, off + i * 5 + 4, none⟩ = some (.int .u64 (L[i].p.2.toNat : Int)) := by
  obtain ⟨⟨b, off, sp⟩, rfl, hc⟩ := h i hi
  have c0 := hc 0 _ rfl
  have c1 := hc 1 _ rfl
  have c2 := hc 2 _ rfl
  have c3 := hc 3 _ rfl
  have c4 := hc 4 _ rfl
  have : sp = none := by
    obtain ⟨ad, e, hz⟩ := h 0 (by omega)
    cases e
    have := World.cell?_spot (hz 0 _ rfl)
    simpa [Addr.add] using this
  subst this
  rw [addr_add] at c0 c1 c2 c3 c4
  refine ⟨b, off, rfl, ?_, ?_, ?_, ?_, ?_⟩
  · rw [← Nat.add_assoc] at c0; exact c0
  · rw [Nat.add_assoc]; exact c1
  · rw [Nat.add_assoc]; exact c2
  · rw [Nat.add_assoc]; exact c3
  · rw [Nat.add_assoc]; exact c4

theorem own_apart {w : World} {base : Nat} {e : TypeId} {size n : Nat} {v : Value} {cs : List Value} (h : w.ownsRow base e size v n cs) {g : Nat} {t : TypeId} {bs : Array Value} (hb : Blk w g t bs) (ht : t ≠ e) : v.ownBlock = none ∨ v.ownBlock ≠ some g := by
  rcases h.2 with ⟨rfl, _⟩ | ⟨g1, c1, cur1, rfl, _, q1, _⟩
  · exact .inl rfl
  · refine .inr fun q => ?_
    simp only [Value.ownBlock, Option.some.injEq] at q
    subst q
    unfold Blk at hb
    rw [q1] at hb
    cases hb
    exact ht rfl
theorem own_set {w : World} {base : Nat} {e : TypeId} {size n : Nat} {v : Value} {cs : List Value} (h : w.ownsRow base e size v n cs) {g : Nat} {t : TypeId} {bs : Array Value} (hb : Blk w g t bs) (ht : t ≠ e) (j : Nat) (u : Value) : (w.setCell ⟨g, j, none⟩ u).ownsRow base e size v n cs :=
  World.ownsRow.kept (row := some g) h ⟨rfl, rfl, rfl, by simp, fun k _ hk => heap_setCell_other w ⟨g, j, none⟩ k u (fun q => hk (by simp [q]))⟩ (own_apart h hb ht)
theorem OwnM.set {w : World} {base : Nat} {A B : Option Addr} {c d : Nat} {X : List SX} {m : ModD} (h : OwnM w base A c B d X m) {g : Nat} {t : TypeId} {bs : Array Value} (hb : Blk w g t bs) (h1 : t ≠ 30) (h2 : t ≠ 66) (j : Nat) (u : Value) : OwnM (w.setCell ⟨g, j, none⟩ u) base A c B d X m :=
  ⟨own_set h.row hb h1 j u, own_set h.sents hb h2 j u, h.eq, fun x hx => own_set (h.each x hx) hb h1 j u⟩
theorem own_past4 {w : World} {base : Nat} {A B : Option Addr} {c d : Nat} {X : List SX} {m : ModD} (h : OwnM w base A c B d X m) {g : Nat} {bs : Array Value} (hb : Blk w g 25 bs) (x y z u : Value) : OwnM ((((w.setCell ⟨g, 0, none⟩ x).setCell ⟨g, 1, none⟩ y).setCell ⟨g, 2, none⟩ z).setCell ⟨g, 3, none⟩ u) base A c B d X m :=
  (((h.set hb (by decide) (by decide) 0 x).set (hb.set 0 x) (by decide) (by decide) 1 y).set ((hb.set 0 x).set 1 y) (by decide) (by decide) 2 z).set (((hb.set 0 x).set 1 y).set 2 z) (by decide) (by decide) 3 u
theorem row_past4 {w : World} {base : Nat} {v : Value} {s : List Nat} (h : RowOf w base v s) {g : Nat} {bs : Array Value} (hb : Blk w g 25 bs) (x y z u : Value) : RowOf ((((w.setCell ⟨g, 0, none⟩ x).setCell ⟨g, 1, none⟩ y).setCell ⟨g, 2, none⟩ z).setCell ⟨g, 3, none⟩ u) base v s :=
  own_set (own_set (own_set (own_set h hb (by decide) 0 x) (hb.set 0 x) (by decide) 1 y) ((hb.set 0 x).set 1 y) (by decide) 2 z) (((hb.set 0 x).set 1 y).set 2 z) (by decide) 3 u
theorem row_past6 {w : World} {base : Nat} {v : Value} {s : List Nat} (h : RowOf w base v s) {g : Nat} {bs : Array Value} (hb : Blk w g 45 bs) (x0 x1 x2 x3 x4 x5 : Value) : RowOf ((((((w.setCell ⟨g, 0, none⟩ x0).setCell ⟨g, 1, none⟩ x1).setCell ⟨g, 2, none⟩ x2).setCell ⟨g, 3, none⟩ x3).setCell ⟨g, 4, none⟩ x4).setCell ⟨g, 5, none⟩ x5) base v s :=
  own_set (own_set (own_set (own_set (own_set (own_set h hb (by decide) 0 x0) (hb.set 0 x0) (by decide) 1 x1) ((hb.set 0 x0).set 1 x1) (by decide) 2 x2) (((hb.set 0 x0).set 1 x1).set 2 x2) (by decide) 3 x3) ((((hb.set 0 x0).set 1 x1).set 2 x2).set 3 x3) (by decide) 4 x4) (((((hb.set 0 x0).set 1 x1).set 2 x2).set 3 x3).set 4 x4) (by decide) 5 x5
theorem blk_other4 {w : World} {n g : Nat} {t : TypeId} {cs : Array Value} (h : Blk w n t cs) (hn : n ≠ g) (x y z u : Value) : Blk ((((w.setCell ⟨g, 0, none⟩ x).setCell ⟨g, 1, none⟩ y).setCell ⟨g, 2, none⟩ z).setCell ⟨g, 3, none⟩ u) n t cs := (((h.other x hn).other y hn).other z hn).other u hn
theorem reads_row {w : World} {base c : Nat} {A : Option Addr} {s : List Nat} (h : RowOf w base (.slice A s.length c) s) : Reads w A s := by
  obtain ⟨A', c', e, h1, h2, h3, h4⟩ := Reads.of_row' h
  obtain ⟨e1, _, e2⟩ := Value.slice.inj e
  subst e1 e2
  exact h3
theorem rollSame_self (h room : Int) (s : List Nat) (n : Int) : Hid (rollSame h room s n h room s n = true) := decide_eq_true ⟨rfl, rfl, rfl, rfl⟩
/-- what Do does, by the roll's words -/
theorem roll_step {m m' : ModD} {o : OpD} {a : AnsD} {r : Int} (hok : okM m = true) (e : doM m o = (m', a, r)) :
    (r = 1 ∧ True ∧ True) ∨ (r = 0 ∧ okM m' = true ∧ ((o.kind = 1 ∧ ∃ L, m' = { m with l := L, n := m.n + 1 } ∧ a = ansE 0 ∧ rollAdd m.h m.cap m.l m.n o.i = (⟨m.h, m.cap, L, m.n + 1⟩, 0)) ∨
      (o.kind = 1 ∧ ∃ q, q ≠ 0 ∧ m' = m ∧ a = ansE q ∧ rollAdd m.h m.cap m.l m.n o.i = (⟨0, 0, [], 0⟩, q)) ∨
      (o.kind = 2 ∧ ∃ L, m' = { m with l := L, n := m.n + 1 } ∧ a = ansE 0 ∧ rollDel m.h m.cap m.l m.n o.i = (⟨m.h, m.cap, L, m.n + 1⟩, 0)) ∨
      (o.kind = 2 ∧ ∃ q, q ≠ 0 ∧ m' = m ∧ a = ansE q ∧ rollDel m.h m.cap m.l m.n o.i = (⟨0, 0, [], 0⟩, q)) ∨
      (o.kind ≠ 1 ∧ o.kind ≠ 2 ∧ ∃ S, m' = { m with sent := S }))) := by
  rcases doM_step hok e with ⟨h1, _⟩ | ⟨h0, k1, k4, hst, hok'⟩
  · exact .inl ⟨h1, trivial, trivial⟩
  · refine .inr ⟨h0, hok', ?_⟩
    unfold doM at e
    rw [if_pos ⟨hok, k1, k4⟩] at e
    by_cases c1 : o.kind = 1
    · rw [if_pos c1] at e
      obtain ⟨R, q, hX⟩ : ∃ R q, rollAdd m.h m.cap m.l m.n o.i = (R, q) := ⟨_, _, rfl⟩
      rw [hX] at e
      unfold chM at e
      dsimp only at e
      by_cases hq : q = 0
      · subst hq
        rw [if_pos rfl] at e
        obtain ⟨kk, G, hi, hx, hl, hn, rfl⟩ := add_ok hX
        cases e
        exact .inl ⟨c1, _, rfl, rfl, hX⟩
      · rw [if_neg hq] at e
        cases e
        obtain rfl := add_err hX hq
        exact .inr (.inl ⟨c1, q, hq, rfl, rfl, hX⟩)
    · rw [if_neg c1] at e
      by_cases c2 : o.kind = 2
      · rw [if_pos c2] at e
        obtain ⟨R, q, hX⟩ : ∃ R q, rollDel m.h m.cap m.l m.n o.i = (R, q) := ⟨_, _, rfl⟩
        rw [hX] at e
        unfold chM at e
        dsimp only at e
        by_cases hq : q = 0
        · subst hq
          rw [if_pos rfl] at e
          obtain ⟨kk, G, hi, hx, hn, rfl⟩ := del_ok hX
          cases e
          exact .inr (.inr (.inl ⟨c2, _, rfl, rfl, hX⟩))
        · rw [if_neg hq] at e
          cases e
          have hR : R = ⟨0, 0, [], 0⟩ := by
            unfold rollDel at hX
            split at hX
            · split at hX
              · cases hX; rfl
              · split at hX
                · cases hX; rfl
                · cases hX; exact absurd rfl hq
            · cases hX; rfl
          subst hR
          exact .inr (.inr (.inr (.inl ⟨c2, q, hq, rfl, rfl, hX⟩)))
      · rw [if_neg c2] at e
        refine .inr (.inr (.inr (.inr ⟨c1, c2, ?_⟩)))
        by_cases c3 : o.kind = 3
        · rw [if_pos c3] at e
          unfold sendM at e
          split at e
          · cases e; exact ⟨m.sent, rfl⟩
          · cases e; exact ⟨_, rfl⟩
        · rw [if_neg c3] at e
          cases e; exact ⟨m.sent, rfl⟩
end Go.Proofs.Ytmehbonjpmlmfaa
