/- What is beside a side: no other number has no bit but the lowest. -/
import Derived.Test.YtkimbkcghmelgaaRefL
namespace Go.Proofs.Ytkimbkcghmelgaa
open Go.RowKit
theorem and_not_one (x : BitVec 64) (h : x &&& ~~~1#64 = 0#64) : x.toNat ≤ 1 := by
  have e : x = x &&& 1#64 := by
    apply BitVec.eq_of_getLsbD_eq
    intro i hi
    have h1 := congrArg (fun y => y.getLsbD i) h
    simp only [BitVec.getLsbD_and, BitVec.getLsbD_not, BitVec.getLsbD_zero, hi, decide_true, Bool.true_and] at h1
    rw [BitVec.getLsbD_and]
    cases h2 : (1#64).getLsbD i with
    | true => simp
    | false => rw [h2] at h1; simpa using h1
  have e2 := congrArg BitVec.toNat e
  rw [BitVec.toNat_and] at e2
  have : x.toNat &&& 1 = x.toNat % 2 := Nat.and_one_is_mod _
  rw [show (1#64).toNat = 1 from rfl, this] at e2
  omega
theorem side_bits {s : Int} (hs : (Lit.int .i64 s).wf = true) : bits BinOp.andNot IntKind.i64 s 1 = 0 → s = 0 ∨ s = 1 := by
  intro h
  have hmin : IntKind.i64.min = -9223372036854775808 := rfl
  have hmax : IntKind.i64.max = 9223372036854775807 := rfl
  simp only [Lit.wf, Bool.and_eq_true, decide_eq_true_eq, hmin, hmax] at hs
  have h' : IntKind.i64.wrap ((BitVec.ofInt 64 s &&& ~~~(BitVec.ofInt 64 1)).toNat : Int) = 0 := h
  rw [IntKind.wrap_i64] at h'
  have hl := (BitVec.ofInt 64 s &&& ~~~(BitVec.ofInt 64 1)).isLt
  have hz : BitVec.ofInt 64 s &&& ~~~1#64 = 0#64 := by
    apply BitVec.eq_of_toNat_eq
    show (BitVec.ofInt 64 s &&& ~~~(BitVec.ofInt 64 1)).toNat = 0
    omega
  have := and_not_one _ hz
  rw [BitVec.toNat_ofInt] at this
  omega
end Go.Proofs.Ytkimbkcghmelgaa
