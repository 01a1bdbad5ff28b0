/- '==' on two spans of leaves. -/
import Derived.Test.YtkimbkcghmelgaaBase
import Derived.ChangeKeysEq
namespace Go.Proofs.Ytkimbkcghmelgaa
open Go.RowKit

theorem info_u64 : (Try.prog.info? 22).isSome = true := by kernel_rfl
theorem stood_span : Try.prog.stoodInHeld 25 = false := by kernel_rfl
theorem span0 (a b : Int) (w : World) : (part 22 #[.int .u64 a, .int .u64 b] 0).run Try.prog w = .ok (.int .u64 a) w := by kernel_rfl
theorem span1 (a b : Int) (w : World) : (part 22 #[.int .u64 a, .int .u64 b] 1).run Try.prog w = .ok (.int .u64 b) w := by kernel_rfl
theorem eqFields_step {P : Program} {d : Nat} {xs ys : Array Value} {f : Field} {fs : List Field} {w : World} {a b : Value} {r : Bool} (hn : f.name ≠ "_") (pa : (part f.type xs f.offset).run P w = .ok a w)
    (pb : (part f.type ys f.offset).run P w = .ok b w) (he : (Op.equalIn d f.type a b).run P w = .ok r w) : (Op.eqFields d xs ys (f :: fs)).run P w = if r = true then (Op.eqFields d xs ys fs).run P w else .ok false w := by
  rw [Op.eqFields, if_pos hn]
  simp only [Sem.run_bind, pa, pb, he, Result.andThen_ok]
  cases r <;> simp
theorem list_two {α β : Type} (g : α → β) (l : List α) (a b : β) (h : l.map g = [a, b]) : ∃ x y, l = [x, y] ∧ g x = a ∧ g y = b := by
  match l, h with
  | [x, y], h => exact ⟨x, y, rfl, (List.cons.inj h).1, (List.cons.inj (List.cons.inj h).2).1⟩
/-- '==' on two spans -/
theorem eq_spans (a b c d : Int) (w : World) : (Op.equalIn 10000 25 (.agg #[.int .u64 a, .int .u64 b]) (.agg #[.int .u64 c, .int .u64 d])).run Try.prog w = .ok (a == c && b == d) w := by
  rw [run_equalIn_struct w 9999 _ _ _ (by kernel_rfl) stood_span]
  have hf : (Try.prog.fieldsOf 25).toList.map (fun f => (f.name, f.type, f.offset)) = [("Low", 22, 0), ("High", 22, 1)] := by kernel_rfl
  obtain ⟨f0, f1, hl, h0, h1⟩ := list_two _ _ _ _ hf
  simp only [Prod.mk.injEq] at h0 h1
  obtain ⟨n0, t0, o0⟩ := h0
  obtain ⟨n1, t1, o1⟩ := h1
  have e1 := run_equalIn_int w 9998 22 .u64 .u64 a c Try.underlying22
  have e2 := run_equalIn_int w 9998 22 .u64 .u64 b d Try.underlying22
  rw [hl, eqFields_step (a := .int .u64 a) (b := .int .u64 c) (r := (a == c)) (by rw [n0]; decide) (by rw [t0, o0]; exact span0 _ _ _) (by rw [t0, o0]; exact span0 _ _ _) (by rw [t0]; exact e1)]
  rw [eqFields_step (a := .int .u64 b) (b := .int .u64 d) (r := (b == d)) (by rw [n1]; decide) (by rw [t1, o1]; exact span1 _ _ _) (by rw [t1, o1]; exact span1 _ _ _) (by rw [t1]; exact e2)]
  generalize (a == c) = p
  generalize (b == d) = q
  cases p <;> cases q <;> simp [Op.eqFields]
end Go.Proofs.Ytkimbkcghmelgaa
