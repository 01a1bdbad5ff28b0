/- A map of the call's own that tells a set of leaves: 1 at each of them, and nothing else. -/
import Derived.Test.YtmehbonjpmlmfaaRollP
import Derived.Maps.OwnOps
import Derived.Maps.OwnSet
import Derived.Maps.Views
namespace Go.Proofs.Ytmehbonjpmlmfaa
open Go.RowKit
open Go.Maps (Keyed Tidy has int_keyed keyOf_int_mk)

theorem u64_keyed : Keyed Try.prog 30 := int_keyed Try.underlying30
theorem key_u64 {x : Nat} (hx : x < 18446744073709551616) : keyOf Try.prog 30 (.int .u64 (x : Int)) = some (.int .u64 (x : Int)) := keyOf_int_mk Try.underlying30 (by
  have hmin : IntKind.u64.min = 0 := rfl
  have hmax : IntKind.u64.max = 18446744073709551615 := rfl
  simp only [Lit.wf, Bool.and_eq_true, decide_eq_true_eq, hmin, hmax]
  omega)
theorem isKey (x : Int) : WideAt.IsKeyLit (.int .u64 x) := by simp [WideAt.IsKeyLit]
/-- 1 at each of the set, nothing else -/
structure Tells (D : DataW Unit) (s : List Nat) : Prop where
  tidy : Tidy D
  has : ∀ x : Nat, Go.Maps.has D (.int .u64 (x : Int)) = decide (x ∈ s)
  at_ : ∀ x : Nat, D.atKey (.int .u64 (x : Int)) (.lit (.int .i64 0)) = .lit (.int .i64 (if x ∈ s then 1 else 0))
  size : Go.Maps.size D = s.length
theorem Tells.empty : Tells (.map []) [] := ⟨Go.Maps.tidy_empty, fun x => by simp [Go.Maps.has_eq], fun x => by simp [DataW.atKey], rfl⟩
theorem key_ne {x y : Nat} (h : x ≠ y) : (Lit.int .u64 (x : Int)) ≠ .int .u64 (y : Int) := fun e => h (by injection e with _ e; omega)
theorem Tells.put {D : DataW Unit} {s : List Nat} (T : Tells D s) {x : Nat} (hx : x ∉ s) (hl : (addL s x).length = s.length + 1) : Tells (D.put (.int .u64 (x : Int)) (.lit (.int .i64 1))) (addL s x) := by
  refine ⟨T.tidy.put (isKey _) _, fun y => ?_, fun y => ?_, ?_⟩
  · by_cases c : y = x
    · subst c
      rw [Go.Maps.has_put_same T.tidy.isMap (isKey _)]
      exact (decide_eq_true (mem_addL.2 (.inl rfl))).symm
    · rw [Go.Maps.has_put_other (key_ne c), T.has]
      refine decide_eq_decide.2 ⟨fun h => mem_addL.2 (.inr h), fun h => ?_⟩
      rcases mem_addL.1 h with h | h
      · exact absurd h c
      · exact h
  · by_cases c : y = x
    · subst c
      rw [Go.Maps.atKey_put_same T.tidy.isMap (isKey _), if_pos (mem_addL.2 (.inl rfl))]
    · rw [Go.Maps.atKey_put_other (key_ne c), T.at_]
      by_cases hy : y ∈ s
      · rw [if_pos hy, if_pos (mem_addL.2 (.inr hy))]
      · rw [if_neg hy, if_neg (fun h => by
          rcases mem_addL.1 h with h | h
          · exact c h
          · exact hy h)]
  · rw [Go.Maps.size_put T.tidy, T.has, decide_eq_false hx, T.size, hl]
    rfl
theorem Tells.del {D : DataW Unit} {s : List Nat} (T : Tells D s) {x : Nat} (hx : x ∈ s) (hl : (remL s x).length + 1 = s.length) : Tells (D.del (.int .u64 (x : Int))) (remL s x) := by
  refine ⟨T.tidy.del _, fun y => ?_, fun y => ?_, ?_⟩
  · by_cases c : y = x
    · subst c
      rw [Go.Maps.has_del_same]
      exact (decide_eq_false (fun h => (mem_remL.1 h).2 rfl)).symm
    · rw [Go.Maps.has_del_other (key_ne c), T.has]
      exact decide_eq_decide.2 ⟨fun h => mem_remL.2 ⟨h, c⟩, fun h => (mem_remL.1 h).1⟩
  · by_cases c : y = x
    · subst c
      rw [Go.Maps.atKey_del_same, if_neg (fun h => (mem_remL.1 h).2 rfl)]
    · rw [Go.Maps.atKey_del_other (key_ne c), T.at_]
      by_cases hy : y ∈ s
      · rw [if_pos hy, if_pos (mem_remL.2 ⟨hy, c⟩)]
      · rw [if_neg hy, if_neg (fun h => hy (mem_remL.1 h).1)]
  · have := Go.Maps.size_del (k := .int .u64 (x : Int)) T.tidy
    rw [T.has, decide_eq_true hx, if_pos rfl, T.size] at this
    omega
def MapOf (w : World) (m cap : Nat) (s : List Nat) : Prop := ∃ D : DataW Unit, w.ownsMap Try.prog 30 (plainElem Try.prog 3) m cap D ∧ Tells D s
theorem MapOf.made (w : World) : MapOf (w.alloc (.map #[] 0)) w.heap.size 0 [] := ⟨_, World.ownsMap_made _ _ _ _, Tells.empty⟩
theorem grown_of {w w1 : World} (hb : Below w.heap.size w w1) : w.grownBy w1 none := ⟨hb.os, hb.tape, hb.output, hb.size, fun k hk _ => hb.block k hk⟩
theorem MapOf.below {w w1 : World} {m cap : Nat} {s : List Nat} (h : MapOf w m cap s) (hb : Below w.heap.size w w1) : MapOf w1 m cap s := by
  obtain ⟨D, h1, h2⟩ := h
  exact ⟨D, h1.kept (grown_of hb) (by simp), h2⟩
theorem MapOf.setCell {w : World} {m cap g : Nat} {s : List Nat} (h : MapOf w m cap s) (hg : m ≠ g) (k : Nat) (v : Value) : MapOf (w.setCell ⟨g, k, none⟩ v) m cap s := by
  obtain ⟨D, h1, h2⟩ := h
  exact ⟨D, h1.setCell hg v, h2⟩
theorem MapOf.set4 {w : World} {m cap g : Nat} {s : List Nat} (h : MapOf w m cap s) (hg : m ≠ g) (a b c d : Value) : MapOf ((((w.setCell ⟨g, 0, none⟩ a).setCell ⟨g, 1, none⟩ b).setCell ⟨g, 2, none⟩ c).setCell ⟨g, 3, none⟩ d) m cap s := (((h.setCell hg 0 a).setCell hg 1 b).setCell hg 2 c).setCell hg 3 d
theorem MapOf.lt {w : World} {m cap : Nat} {s : List Nat} (h : MapOf w m cap s) : m < w.heap.size := by
  obtain ⟨D, h1, _⟩ := h
  exact h1.lt
theorem lt_of_le {a b c : Nat} (h : b ≤ c) (q : a < b) : a < c := Nat.lt_of_lt_of_le q h
theorem MapOf.mono {w : World} {m cap cap' : Nat} {s : List Nat} (h : MapOf w m cap s) (hc : cap ≤ cap') : MapOf w m cap' s := by
  obtain ⟨D, h1, h2⟩ := h
  exact ⟨D, h1.mono hc, h2⟩
theorem MapOf.not_cell {w : World} {m cap : Nat} {s : List Nat} (h : MapOf w m cap s) {a : Addr} {v : Value} (hc : w.cell? a = some v) : a.block ≠ m := by
  obtain ⟨D, ⟨es, clock, hb, _⟩, _⟩ := h
  intro e
  rw [← e] at hb
  simp [World.cell?, hb] at hc
/-- what else there is, over a change of the map -/
theorem Blk.turned {w w1 : World} {m n : Nat} {t : TypeId} {cs : Array Value} (h : Blk w n t cs) (hg : w.grownBy w1 (some m)) (hne : n ≠ m) : Blk w1 n t cs := (hg.block n h.lt (by simp [hne])).trans h
theorem Reads.turned {w w1 : World} {m cap : Nat} {s' : List Nat} (M : MapOf w m cap s') (hg : w.grownBy w1 (some m)) {A : Option Addr} {s : List Nat} (h : Reads w A s) : Reads w1 A s := by
  rcases Nat.eq_zero_or_pos s.length with h0 | h0
  · obtain rfl : s = [] := List.length_eq_zero_iff.1 h0
    exact ⟨rfl, by decide, fun h => absurd h (by decide)⟩
  · obtain ⟨ad, rfl, _⟩ := h.cell 0 h0
    refine Reads.of_cells h.2.1 fun j hj => ?_
    obtain ⟨ad', e, c⟩ := h.cell j hj
    cases e
    exact hg.cell c (by have := M.not_cell c; simp [this])
theorem Below.turned {w w1 w0 : World} {m base : Nat} (h : Below base w0 w) (hg : w.grownBy w1 (some m)) (hb : base ≤ w.heap.size) (hm : base ≤ m) : Below base w0 w1 := h.grown hg hb fun k e => by cases e; exact hm

theorem MapOf.len_run {w : World} {m cap : Nat} {s : List Nat} (h : MapOf w m cap s) (ty : TypeId) : (Builtin.len_ #[29] ty #[.map (some m)]).run Try.prog w = .ok (.int .i64 (s.length : Int)) w := by
  obtain ⟨D, h1, h2⟩ := h
  rw [← h2.size]
  exact h1.len Try.underlying29 ty
/-- the operations -/
theorem wp_look {ops : Array Oper} {rest : List Oper} {o : Oper} {a : Act} {w : World} {Q : Exit → Act → World → Prop} (hg : o.guard = none) (m x : Operand) (hop : o.op = Op.lookup 29 m x false)
    (b cap : Nat) (s : List Nat) (hm : a.eval m = .map (some b)) (hown : MapOf w b cap s) (i : Nat) (hx : a.eval x = .int .u64 (i : Int)) (hi : i < 18446744073709551616)
    (hK : wpList Try.prog ops Q rest (a.put o.dst (.int .i64 (if i ∈ s then 1 else 0))) w) : wpList Try.prog ops Q (o :: rest) a w := by
  obtain ⟨D, h1, h2⟩ := hown
  refine wpList_lookup_own_int w hg m x 29 hop 30 3 .i64 u64_keyed Try.underlying29 Try.underlying3 (by kernel_rfl) b cap D hm h1 _ _ hx (key_u64 hi) ?_
  intro c hat _
  rw [h2.at_ i] at hat
  injection hat with hat
  injection hat with _ hat
  rw [← hat]
  exact hK
theorem wp_put {ops : Array Oper} {rest : List Oper} {o : Oper} {a : Act} {w : World} {Q : Exit → Act → World → Prop} (hg : o.guard = none) (m x v : Operand) (hop : o.op = Op.mapUpdate 29 m x v)
    (b cap : Nat) (s : List Nat) (hm : a.eval m = .map (some b)) (hown : MapOf w b cap s) (hcap : cap ≤ 1000) (i : Nat) (hx : a.eval x = .int .u64 (i : Int)) (hv : a.eval v = .int .i64 1) (hi : i < 18446744073709551616) (his : i ∉ s) (hl : (addL s i).length = s.length + 1)
    (hK : ∀ w', MapOf w' b (cap + 1) (addL s i) → w.grownBy w' (some b) → wpList Try.prog ops Q rest (a.put o.dst undef) w') : wpList Try.prog ops Q (o :: rest) a w := by
  obtain ⟨D, h1, h2⟩ := hown
  refine wpList_mapUpdate_own w hg m x v 29 hop 30 3 u64_keyed Try.underlying29 _ b cap D hm h1 (by unfold maxLen; omega) _ _ _ hx hv (key_u64 hi) (.lit (.int .i64 1)) [] (plainElem_int Try.underlying3 (by decide)) ?_
  intro w' hw hg'
  exact hK w' ⟨_, hw, h2.put his hl⟩ hg'
theorem wp_del {ops : Array Oper} {rest : List Oper} {o : Oper} {a : Act} {w : World} {Q : Exit → Act → World → Prop} (hg : o.guard = none) (m x : Operand) (hop : o.op = Op.call { callee := Callee.builtin Builtin.delete, args := #[m, x], argTypes := #[29, 30] })
    (b cap : Nat) (s : List Nat) (hm : a.eval m = .map (some b)) (hown : MapOf w b cap s) (i : Nat) (hx : a.eval x = .int .u64 (i : Int)) (hi : i < 18446744073709551616) (his : i ∈ s) (hl : (remL s i).length + 1 = s.length)
    (hK : ∀ w', MapOf w' b cap (remL s i) → w.grownBy w' (some b) → wpList Try.prog ops Q rest (a.put o.dst (.tuple #[])) w') : wpList Try.prog ops Q (o :: rest) a w := by
  obtain ⟨D, h1, h2⟩ := hown
  refine wpList_delete_own w hg m x 29 30 hop 3 u64_keyed Try.underlying29 _ b cap D hm h1 _ _ hx (key_u64 hi) ?_
  intro w' hw hg'
  exact hK w' ⟨_, hw, h2.del his hl⟩ hg'.grown
theorem wp_len {ops : Array Oper} {rest : List Oper} {o : Oper} {a : Act} {w : World} {Q : Exit → Act → World → Prop} (hw : Region.wanted o (yielded ops a.tmps) = true) (m : Operand) (hop : o.op = Op.call { callee := Callee.builtin Builtin.len, args := #[m], argTypes := #[29] })
    (b cap : Nat) (s : List Nat) (hm : a.eval m = .map (some b)) (hown : MapOf w b cap s)
    (hK : wpList Try.prog ops Q rest (a.put o.dst (.int .i64 (s.length : Int))) w) : wpList Try.prog ops Q (o :: rest) a w := by
  obtain ⟨D, h1, h2⟩ := hown
  have hr := h1.len Try.underlying29 o.type
  rw [h2.size] at hr
  refine wpList_step fun K hK' => ?_
  rw [if_pos hw]
  unfold Oper.wp execOp
  simp only [hop, resolve, invoke, builtin, Sem.run_bind, Sem.run_pure, Result.andThen_ok, List.map_toArray, List.map_cons, List.map_nil, hm, hr]
  exact hK' _ _ hK
end Go.Proofs.Ytmehbonjpmlmfaa
