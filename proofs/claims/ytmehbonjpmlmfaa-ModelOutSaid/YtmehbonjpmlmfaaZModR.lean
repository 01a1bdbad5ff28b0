/- Package model: what is told of what was sent, in plain; rows of booleans and of blocks. -/
import Derived.Test.YtmehbonjpmlmfaaZMLaw
import Derived.Test.YtmehbonjpmlmfaaLib5
import Derived.Deep.RegionHeld3
namespace Go.Proofs.Ytmehbonjpmlmfaa
open Go.RowKit

theorem may_cases {m : ModD} (hok : okM m = true) {k : Nat} (hk : k < m.sent.length) (i : Nat) :
    (mayM m i ((k : Int) + 1) = (false, 1) ∧ readM m i ((k : Int) + 1) = ansE 1) ∨
    (i ∈ m.sent[k].out ∧ mayM m i ((k : Int) + 1) = (false, 0) ∧ readM m i ((k : Int) + 1) = ⟨4, (k : Int) + 1, 0, (0, 0)⟩) ∨
    (i ∉ m.sent[k].out ∧ mayM m i ((k : Int) + 1) = (true, 0) ∧ readM m i ((k : Int) + 1) = ⟨0, (k : Int) + 1, (k : Int) + 1, m.sent[k].p⟩) := by
  have hd := (sentOk_at (okM_parts hok).2.2.2.2.2.2.2 hk).2.2
  have hn : ((k : Int) + 1 - 1).toNat = k := by omega
  have hM : mayM m i ((k : Int) + 1) = (decide ((hasAll m.h m.sent[k].out i).2 = 0) && !(hasAll m.h m.sent[k].out i).1, (hasAll m.h m.sent[k].out i).2) := by
    unfold mayM
    rw [if_pos ⟨hok, by omega⟩, hn, List.getElem?_eq_getElem hk]
  rcases hasAll_or m.h m.sent[k].out i with ha | ⟨q, _, _, _, _, _, ha⟩
  · rw [ha] at hM
    have hM' : mayM m i ((k : Int) + 1) = (false, 1) := hM
    refine .inl ⟨hM', ?_⟩
    unfold readM
    rw [hM', if_pos (by decide)]
  · rw [ha] at hM
    by_cases hx : i ∈ m.sent[k].out
    · rw [decide_eq_true hx] at hM
      have hM' : mayM m i ((k : Int) + 1) = (false, 0) := hM
      refine .inr (.inl ⟨hx, hM', ?_⟩)
      unfold readM
      rw [hM', if_neg (by decide), if_pos rfl]
    · rw [decide_eq_false hx] at hM
      have hM' : mayM m i ((k : Int) + 1) = (true, 0) := hM
      refine .inr (.inr ⟨hx, hM', ?_⟩)
      unfold readM
      rw [hM', if_neg (by decide), if_neg (by decide), hn, List.getElem?_eq_getElem hk]
      dsimp only
      rw [hd]
theorem doM_read {m : ModD} (hok : okM m = true) (i : Nat) (n : Int) : doM m ⟨4, i, n, (0, 0)⟩ = (m, readM m i n, 0) := by
  unfold doM
  rw [if_pos ⟨hok, by show (1 : Int) ≤ 4; decide, by show (4 : Int) ≤ 4; decide⟩, if_neg (by show ¬ (4 : Int) = 1; decide), if_neg (by show ¬ (4 : Int) = 2; decide), if_neg (by show ¬ (4 : Int) = 3; decide)]
/-- the statements' end is shown once, for whatever the seven ahead of it leave -/
theorem ahead7 {P : Program} {s1 s2 s3 s4 s5 s6 s7 rest : Code} {Q : Exit → Act → World → Prop} {a : Act} {w : World} (inv : Act → World → Prop) (R : ∀ a w, inv a w → Code.wp P rest Q a w)
    (main : Shut (∀ a w, inv a w → Code.wp P rest Q a w) → Code.wp P (s1.seq (s2.seq (s3.seq (s4.seq (s5.seq (s6.seq (s7.seq rest))))))) Q a w) : Code.wp P (s1.seq (s2.seq (s3.seq (s4.seq (s5.seq (s6.seq (s7.seq rest))))))) Q a w := main R
theorem exU {a : Act} {p : (Nat → Value) → Prop} {f : (Nat → Value) → Act} (h : p (fun q => a.tmps.getD q undef)) (hf : a = f (fun q => a.tmps.getD q undef)) : ∃ u, p u ∧ a = f u := ⟨_, h, hf⟩
theorem endAt {P : Program} {rest : Code} {Q : Exit → Act → World → Prop} {K : Act → World → Prop} {inv : Act → World → Prop} {a : Act} {w : World} (REST : Shut (∀ a w, inv a w → Code.wp P rest Q a w)) (hK : ∀ a w, Code.wp P rest Q a w → K a w) (h : inv a w) : K a w := hK _ _ (REST.out _ _ h)
theorem endAt2 {P : Program} {rest : Code} {Q Q' : Exit → Act → World → Prop} {K : Act → World → Prop} {inv : Act → World → Prop} {a : Act} {w : World} (REST : Shut (∀ a w, inv a w → Code.wp P rest Q a w)) (hK : ∀ a w, Code.wp P rest Q a w → K a w) (h : inv a w) : Exit.then K Q' .normal a w := hK _ _ (REST.out _ _ h)
def boolCells (O : List Bool) : List Value := O.map Value.bool
def payCells (P : List (BitVec 64 × BitVec 64)) : List Value := P.flatMap fun p => [.int .u64 (p.1.toNat : Int), .int .u64 (p.2.toNat : Int)]
theorem boolCells_append (O P : List Bool) : boolCells (O ++ P) = boolCells O ++ boolCells P := by simp [boolCells]
theorem payCells_append (O P : List (BitVec 64 × BitVec 64)) : payCells (O ++ P) = payCells O ++ payCells P := by simp [payCells]
theorem payCells_get (P : List (BitVec 64 × BitVec 64)) : ∀ k (hk : k < P.length), (payCells P)[k * 2]? = some (.int .u64 (P[k].1.toNat : Int)) ∧ (payCells P)[k * 2 + 1]? = some (.int .u64 (P[k].2.toNat : Int)) := by
  induction P with
  | nil => intro k hk; simp at hk
  | cons x P ih =>
    intro k hk
    have e : payCells (x :: P) = .int .u64 (x.1.toNat : Int) :: .int .u64 (x.2.toNat : Int) :: payCells P := rfl
    rw [e]
    cases k with
    | zero => exact ⟨rfl, rfl⟩
    | succ k =>
      have := ih k (by simpa using hk)
      rw [show (k + 1) * 2 = k * 2 + 1 + 1 by omega]
      simpa using this
theorem boolCells_get (O : List Bool) (k : Nat) (hk : k < O.length) : (boolCells O)[k]? = some (.bool O[k]) := by
  unfold boolCells
  rw [List.getElem?_map, List.getElem?_eq_getElem hk]; rfl
theorem info_bool : (Try.prog.info? 4).map (fun i => (i.zero, i.size, i.bytes)) = some (some (.bool false), 1, 1) := by kernel_rfl
theorem info_block : (Try.prog.info? 51).map (fun i => (i.zero, i.size, i.bytes)) = some (some (.agg #[.int .u64 0, .int .u64 0]), 2, 16) := by kernel_rfl
theorem blk_grown {w w1 : World} {g : Nat} {t : TypeId} {bs : Array Value} (h : Blk w g t bs) {base : Nat} {e : TypeId} {size n : Nat} {v : Value} {cs : List Value} (hr : w.ownsRow base e size v n cs) (ht : t ≠ e) (hg : w.grownBy w1 v.ownBlock) : Blk w1 g t bs := by
  refine (hg.block g h.lt fun q => ?_).trans h
  rcases own_apart hr h ht with k | k
  · rw [k] at q; cases q
  · exact k q.symm
theorem own_grown2 {w w1 : World} {b1 b2 : Nat} {e1 e2 : TypeId} {s1 s2 n1 n2 : Nat} {v1 v2 : Value} {x1 x2 : List Value} (h1 : w.ownsRow b1 e1 s1 v1 n1 x1) (h2 : w.ownsRow b2 e2 s2 v2 n2 x2) (he : e1 ≠ e2) (hg : w.grownBy w1 v2.ownBlock) : w1.ownsRow b1 e1 s1 v1 n1 x1 :=
  World.ownsRow.kept h1 hg (rows_apart h1 h2 he)
theorem OwnM.grown2 {w w1 : World} {base : Nat} {A B : Option Addr} {c d : Nat} {X : List SX} {m : ModD} (h : OwnM w base A c B d X m) {b2 : Nat} {e2 : TypeId} {s2 n2 : Nat} {v2 : Value} {x2 : List Value} (h2 : w.ownsRow b2 e2 s2 v2 n2 x2) (q1 : 30 ≠ e2) (q2 : 66 ≠ e2) (hg : w.grownBy w1 v2.ownBlock) : OwnM w1 base A c B d X m :=
  ⟨own_grown2 h.row h2 q1 hg, own_grown2 h.sents h2 q2 hg, h.eq, fun x hx => own_grown2 (h.each x hx) h2 q1 hg⟩
theorem below_grown2 {w0 w w1 : World} (h : Below w0.heap.size w0 w) {b2 : Nat} {e2 : TypeId} {s2 n2 : Nat} {v2 : Value} {x2 : List Value} (h2 : w.ownsRow b2 e2 s2 v2 n2 x2) (hb : w0.heap.size ≤ b2) (hg : w.grownBy w1 v2.ownBlock) : Below w0.heap.size w0 w1 :=
  h.grown hg h.size fun k e => Nat.le_trans hb (World.ownsRow.lt h2 k e).1
theorem own_past6b {w : World} {base : Nat} {e : TypeId} {size n : Nat} {v : Value} {cs : List Value} (h : w.ownsRow base e size v n cs) {g : Nat} {t : TypeId} {bs : Array Value} (hb : Blk w g t bs) (ht : t ≠ e) (x0 x1 x2 x3 x4 x5 : Value) : ((((((w.setCell ⟨g, 0, none⟩ x0).setCell ⟨g, 1, none⟩ x1).setCell ⟨g, 2, none⟩ x2).setCell ⟨g, 3, none⟩ x3).setCell ⟨g, 4, none⟩ x4).setCell ⟨g, 5, none⟩ x5).ownsRow base e size v n cs :=
  own_set (own_set (own_set (own_set (own_set (own_set h hb ht 0 x0) (hb.set 0 x0) ht 1 x1) ((hb.set 0 x0).set 1 x1) ht 2 x2) (((hb.set 0 x0).set 1 x1).set 2 x2) ht 3 x3) ((((hb.set 0 x0).set 1 x1).set 2 x2).set 3 x3) ht 4 x4) (((((hb.set 0 x0).set 1 x1).set 2 x2).set 3 x3).set 4 x4) ht 5 x5
theorem own_some {w : World} {base : Nat} {e : TypeId} {size n c : Nat} {A : Option Addr} {cs : List Value} (h : w.ownsRow base e size (.slice A n c) n cs) (hn : 0 < n) : ∃ g, A = some ⟨g, 0, none⟩ ∧ base ≤ g := by
  rcases h.2 with ⟨q, _⟩ | ⟨g, cap, cur, q, q2, _⟩
  · obtain ⟨_, q, _⟩ := Value.slice.inj q
    omega
  · obtain ⟨q, _, _⟩ := Value.slice.inj q
    exact ⟨g, q, q2⟩
def outB (i : Nat) (S : List SentD) : List Bool := S.map fun s => decide (i ∈ s.out)
def payP (S : List SentD) : List (BitVec 64 × BitVec 64) := S.map fun s => s.p
/-- what is done, and who is out then -/
theorem out_step {m m' : ModD} {o : OpD} {a : AnsD} {r : Int} (hok : okM m = true) (e : doM m o = (m', a, r)) (i : Nat) :
    (r = 1 ∧ True ∧ True) ∨ (r = 0 ∧ okM m' = true ∧ (
      (o.kind = 1 ∧ o.i = i ∧ a = ansE 0 ∧ ∃ L N, m' = { m with l := L, n := N } ∧ decide (i ∈ L) = true) ∨
      (o.kind = 1 ∧ o.i ≠ i ∧ a = ansE 0 ∧ ∃ L N, m' = { m with l := L, n := N } ∧ decide (i ∈ L) = decide (i ∈ m.l)) ∨
      (o.kind = 2 ∧ o.i = i ∧ a = ansE 0 ∧ ∃ L N, m' = { m with l := L, n := N } ∧ decide (i ∈ L) = false) ∨
      (o.kind = 2 ∧ o.i ≠ i ∧ a = ansE 0 ∧ ∃ L N, m' = { m with l := L, n := N } ∧ decide (i ∈ L) = decide (i ∈ m.l)) ∨
      (o.kind = 3 ∧ a = ⟨0, (m.sent.length : Int) + 1, (m.sent.length : Int) + 1, (0, 0)⟩ ∧ m' = { m with sent := m.sent ++ [⟨m.l, (m.sent.length : Int) + 1, o.p⟩] }) ∨
      (a.e ≠ 0 ∧ m' = m) ∨ (a.e = 0 ∧ o.kind = 4 ∧ m' = m))) := by
  rcases doM_step hok e with ⟨h1, _⟩ | ⟨h0, k1, k4, hst, hok'⟩
  · exact .inl ⟨h1, trivial, trivial⟩
  · refine .inr ⟨h0, hok', ?_⟩
    cases hst with
    | add hk hi em ha =>
      subst em
      by_cases c : o.i = i
      · subst c
        exact .inl ⟨hk, rfl, ha, _, _, rfl, decide_eq_true (mem_addL.2 (.inl rfl))⟩
      · refine .inr (.inl ⟨hk, c, ha, _, _, rfl, ?_⟩)
        rw [Bool.eq_iff_iff, decide_eq_true_eq, decide_eq_true_eq]
        exact ⟨fun q => (mem_addL.1 q).resolve_left (fun z => c z.symm), fun q => mem_addL.2 (.inr q)⟩
    | del hk hi em ha =>
      subst em
      by_cases c : o.i = i
      · subst c
        exact .inr (.inr (.inl ⟨hk, rfl, ha, _, _, rfl, decide_eq_false fun q => (mem_remL.1 q).2 rfl⟩))
      · refine .inr (.inr (.inr (.inl ⟨hk, c, ha, _, _, rfl, ?_⟩)))
        rw [Bool.eq_iff_iff, decide_eq_true_eq, decide_eq_true_eq]
        exact ⟨fun q => (mem_remL.1 q).1, fun q => mem_remL.2 ⟨q, fun z => c z.symm⟩⟩
    | no hk em q hq ha => subst em ha; exact .inr (.inr (.inr (.inr (.inr (.inl ⟨hq, rfl⟩)))))
    | sent hk hd em ha => exact .inr (.inr (.inr (.inr (.inl ⟨hk, ha, em⟩))))
    | full hk hd em ha => subst em ha; exact .inr (.inr (.inr (.inr (.inr (.inl ⟨by decide, rfl⟩)))))
    | read hk em ha =>
      subst em
      by_cases c : a.e = 0
      · exact .inr (.inr (.inr (.inr (.inr (.inr ⟨c, hk, rfl⟩)))))
      · exact .inr (.inr (.inr (.inr (.inr (.inl ⟨c, rfl⟩)))))
end Go.Proofs.Ytmehbonjpmlmfaa
