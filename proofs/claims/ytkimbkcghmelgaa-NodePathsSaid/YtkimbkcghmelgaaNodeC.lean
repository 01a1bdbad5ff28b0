/- Plain mathematics of nodes: the chain from Root, as a list of whole numbers. No program in sight. -/
import Derived.Test.YtkimbkcghmelgaaNodeQ
namespace Go.Proofs.Ytkimbkcghmelgaa

def chainL (n d : Nat) : List Int := (List.range (d + 1)).map fun j => ((n / 2 ^ (d - j) : Nat) : Int)
theorem chainL_length (n d : Nat) : (chainL n d).length = d + 1 := by simp [chainL]
theorem chainL_get (n d j : Nat) (h : j ≤ d) : (chainL n d)[j]? = some ((n / 2 ^ (d - j) : Nat) : Int) := by
  simp [chainL, List.getElem?_map, List.getElem?_range (show j < d + 1 by omega)]
theorem chainL_getD (n d j : Nat) (h : j ≤ d) : (chainL n d).getD j 0 = ((n / 2 ^ (d - j) : Nat) : Int) := by
  rw [List.getD_eq_getElem?_getD, chainL_get n d j h]; rfl
theorem chainL_zero (n : Nat) : chainL n 0 = [(n : Int)] := by simp [chainL]
theorem chainL_succ (n d : Nat) : chainL n (d + 1) = chainL (n / 2) d ++ [(n : Int)] := by
  unfold chainL
  rw [List.range_succ (n := d + 1), List.map_append]
  congr 1
  · apply List.map_congr_left
    intro j hj
    have hj' := List.mem_range.1 hj
    rw [Nat.div_div_eq_div_mul, show d + 1 - j = d - j + 1 by omega, Nat.pow_succ, Nat.mul_comm]
  · simp
/-- who is on the chain -/
theorem anc_mem {a b d : Nat} (hd : dep b = d) (b1 : 1 ≤ b) (b2 : b < 18446744073709551616) : Anc a b ↔ ∃ j, j ≤ d ∧ b / 2 ^ (d - j) = a := by
  constructor
  · rintro ⟨l, e⟩
    rw [hd] at l e
    exact ⟨dep a, l, e⟩
  · rintro ⟨j, l, e⟩
    rw [← e]
    exact anc_shift b1 b2 (by omega)
/-- who on the chain of one is above another one: down to where they meet -/
theorem anc_chain {a b d m dm j : Nat} (hd : dep a = d) (a1 : 1 ≤ a) (a2 : a < 18446744073709551616) (b1 : 1 ≤ b) (b2 : b < 18446744073709551616) (hm : meet a b = m) (hdm : dep m = dm) (hj : j ≤ d) :
    (Anc (a / 2 ^ (d - j)) b ↔ j ≤ dm) ∧ a / 2 ^ (d - dm) = m ∧ dm ≤ d := by
  obtain ⟨p1, p2, p3, p4, p5⟩ := meet_all a1 a2 b1 b2
  rw [hm] at p1 p2 p3 p4 p5
  have e := p3.2
  have l := p3.1
  rw [hd, hdm] at e l
  refine ⟨⟨fun h => ?_, fun h => ?_⟩, e, l⟩
  · have c := p5 _ (by rw [← hd]; exact anc_shift a1 a2 (by omega)) h
    have c1 := c.1
    have c2 := dep_shift (k := d - j) a1 a2 (by omega)
    omega
  · have q : Anc (m / 2 ^ (dm - j)) m := anc_shift p1 (by omega) (by omega)
    have r : m / 2 ^ (dm - j) = a / 2 ^ (d - j) := by
      rw [← e, Nat.div_div_eq_div_mul, ← Nat.pow_add, show d - dm + (dm - j) = d - j by omega]
    rw [r] at q
    exact q.trans p4
def pathL (b m : Nat) : List Int := (List.range m).map fun t => ((b / 2 ^ (m - 1 - t) % 2 : Nat) : Int)
end Go.Proofs.Ytkimbkcghmelgaa
