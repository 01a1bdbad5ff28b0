/- Appending one list of leaves to one of the call's own. -/
import Derived.Test.YtmehbonjpmlmfaaLBelow
import Derived.Laws.OwnMore
namespace Go.Proofs.Ytmehbonjpmlmfaa
open Go.RowKit Go.Proofs.YtmehbonjpmlmfaaW.PrintWords

theorem natCells_append (s t : List Nat) : natCells (s ++ t) = natCells s ++ natCells t := by simp [natCells]
theorem Reads.none_nil {w : World} {s : List Nat} (h : Reads w none s) : s = [] := by
  by_cases c : 0 < s.length
  · obtain ⟨ad, e, _⟩ := h.cell 0 c
    cases e
  · exact List.length_eq_zero_iff.1 (by omega)
theorem run_append_u64 {w : World} (ty : TypeId) (base : Nat) (v : Value) (S : List Nat) (hown : w.ownsRow base 30 1 v S.length (natCells S)) (A : Option Addr) (c : Nat) (L : List Nat)
    (hA : Reads w A L) (z : A = none → c = 0) (b1 : S.length + L.length ≤ 1048576) (hbase : base ≤ w.heap.size) :
    ∃ v' w', (Builtin.append_ #[22, 22] ty #[v, .slice A L.length c]).run Try.prog w = .ok v' w' ∧ w'.ownsRow base 30 1 v' (S ++ L).length (natCells (S ++ L)) ∧ Below base w w' := by
  obtain ⟨i0, hi, hz0, hz1, hz2⟩ := info_parts info_u64
  cases A with
  | none =>
    obtain rfl := hA.none_nil
    obtain rfl := z rfl
    refine ⟨v, w, run_append_owned_none (P := Try.prog) (w := w) base 22 ty 30 i0 1 Try.underlying22 hi v S.length (natCells S) hown, ?_, Below.refl _ _⟩
    rw [List.append_nil]; exact hown
  | some ad =>
    obtain ⟨v', w', hr, h2, h3, h4⟩ := run_append_own (P := Try.prog) w base 22 ty 30 i0 (.int .u64 0) 1 8 Try.underlying22 hi hz0 hz1 hz2 rfl (by decide) v S.length (natCells S) hown ad L.length c (natCells L) (by rw [natCells_length]; omega) (hA.news (Below.refl _ _)) (natCells_one L) (by unfold maxLen; omega) (by omega) hbase
    refine ⟨v', w', hr, by rw [List.length_append, natCells_append]; exact h2, (Below.refl base w).grown h3 hbase fun k e => own_base (h := hown) k e⟩
theorem wpList_append_u64 {ops : Array Oper} {rest : List Oper} {o : Oper} {a : Act} {w : World} {Q : Exit → Act → World → Prop} (hw : Region.wanted o (yielded ops a.tmps) = true) (s x : Operand)
    (ho : o.op = .call { callee := .builtin .append, args := #[s, x], argTypes := #[22, 22] }) (base : Nat) (v : Value) (S : List Nat) (hs : a.eval s = v) (hown : w.ownsRow base 30 1 v S.length (natCells S))
    (A : Option Addr) (c : Nat) (L : List Nat) (hx : a.eval x = .slice A L.length c) (hA : Reads w A L) (z : A = none → c = 0) (b1 : S.length + L.length ≤ 1048576) (hbase : base ≤ w.heap.size)
    (h : ∀ v' w', w'.ownsRow base 30 1 v' (S ++ L).length (natCells (S ++ L)) → Below base w w' → wpList Try.prog ops Q rest (a.put o.dst v') w') : wpList Try.prog ops Q (o :: rest) a w := by
  refine wpList_step fun K hK => ?_
  rw [if_pos hw]
  obtain ⟨v', w', hr, h1, h2⟩ := run_append_u64 o.type base v S hown A c L hA z b1 hbase
  unfold Oper.wp execOp
  simp only [ho, resolve, invoke, builtin, Sem.run_bind, Sem.run_pure, Result.andThen_ok, List.map_toArray, List.map_cons, List.map_nil, hs, hx, hr]
  exact hK _ _ (h v' w' h1 h2)
end Go.Proofs.Ytmehbonjpmlmfaa
