/- Plain: numbers of octets, and blocks of two numbers. -/
import Derived.Test.YtdaodopeodheeaaKit
namespace Go.Proofs.Ytdaodopeodheeaa
open Go.RowKit

def num (l : List (BitVec 8)) : BitVec 64 := l.foldr (fun c n => 256#64 * n + c.setWidth 64) 0#64
theorem num_step (n : BitVec 64) (c : BitVec 8) : 256#64 * n + c.setWidth 64 = n <<< 8 ||| c.setWidth 64 := by
  have e : 256#64 * n = n <<< 8 := by rw [BitVec.shiftLeft_eq_mul_twoPow, BitVec.mul_comm]; rfl
  rw [e]
  refine BitVec.add_eq_or_of_and_eq_zero _ _ ?_
  refine BitVec.eq_of_getLsbD_eq fun i hi => ?_
  rw [BitVec.getLsbD_and, BitVec.getLsbD_shiftLeft, BitVec.getLsbD_setWidth]
  by_cases h : i < 8
  · simp [h]
  · have : c.getLsbD i = false := BitVec.getLsbD_of_ge c i (by omega)
    simp [this]
theorem num_bit (l : List (BitVec 8)) : ∀ j, j < 64 → (num l).getLsbD j = (l.getD (j / 8) 0).getLsbD (j % 8) := by
  induction l with
  | nil => intro j hj; simp [num]
  | cons c l ih =>
    intro j hj
    show (256#64 * num l + c.setWidth 64).getLsbD j = _
    rw [num_step, BitVec.getLsbD_or, BitVec.getLsbD_shiftLeft, BitVec.getLsbD_setWidth]
    by_cases h : j < 8
    · have e1 : j / 8 = 0 := by omega
      have e2 : j % 8 = j := by omega
      rw [e1, e2]
      simp [h, hj]
    · have hc : c.getLsbD j = false := BitVec.getLsbD_of_ge c j (by omega)
      have e1 : j / 8 = (j - 8) / 8 + 1 := by omega
      have e2 : j % 8 = (j - 8) % 8 := by omega
      rw [e1, e2, List.getD_cons_succ, ← ih (j - 8) (by omega), hc]
      simp [h, hj]
theorem num_drop (l : List (BitVec 8)) (k : Nat) (h : k < l.length) : num (l.drop k) = 256#64 * num (l.drop (k + 1)) + (l.getD k 0).setWidth 64 := by
  rw [List.drop_eq_getElem_cons h, List.getD_eq_getElem?_getD, List.getElem?_eq_getElem h]
  rfl
theorem num_end (l : List (BitVec 8)) : num (l.drop l.length) = 0#64 := by rw [List.drop_length]; rfl

theorem two_nums (l : List (BitVec 8)) : (num (l.take 8), num (l.drop 8)) = blockOf l := by
  refine Prod.ext (BitVec.eq_of_getLsbD_eq fun j hj => ?_) (BitVec.eq_of_getLsbD_eq fun j hj => ?_)
  · show (num (l.take 8)).getLsbD j = _
    rw [num_bit _ j hj, blockOf_bit1 l j hj]
    congr 1
    rw [List.getD_eq_getElem?_getD, List.getD_eq_getElem?_getD, List.getElem?_take, if_pos (by omega)]
  · show (num (l.drop 8)).getLsbD j = _
    rw [num_bit _ j hj, blockOf_bit2 l j hj]
    congr 1
    rw [List.getD_eq_getElem?_getD, List.getD_eq_getElem?_getD, List.getElem?_drop]
def padB (l : List (BitVec 8)) : List (BitVec 8) := l ++ List.replicate (16 - l.length) 0
theorem padB_length {l : List (BitVec 8)} (h : l.length ≤ 16) : (padB l).length = 16 := by unfold padB; simp; omega
theorem padB_getD (l : List (BitVec 8)) (i : Nat) : (padB l).getD i 0 = l.getD i 0 := by
  unfold padB
  simp only [List.getD_eq_getElem?_getD]
  rcases Nat.lt_or_ge i l.length with c | c
  · rw [List.getElem?_append_left c]
  · rw [List.getElem?_append_right c, List.getElem?_eq_none c, List.getElem?_replicate]
    split <;> rfl
theorem blockOf_padB (l : List (BitVec 8)) : blockOf (padB l) = blockOf l := blockOf_congr fun i _ => padB_getD l i
theorem w_256 (n : BitVec 64) : IntKind.u64.wrap (256 * U n) = U (256#64 * n) := by
  have e : (256 : Int) * U n = ((256 * n.toNat : Nat) : Int) := by unfold U; omega
  have e2 : BitVec.ofNat 64 (256 * n.toNat) = 256#64 * n := by
    apply BitVec.eq_of_toNat_eq
    rw [BitVec.toNat_ofNat, BitVec.toNat_mul]
    rfl
  rw [e, wrapU, BitVec.ofInt_natCast, e2]
end Go.Proofs.Ytdaodopeodheeaa
