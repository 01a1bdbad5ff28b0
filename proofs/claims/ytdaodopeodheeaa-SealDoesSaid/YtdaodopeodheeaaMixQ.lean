/- Plain mathematics of mix: octets and blocks, folds. No program in sight. -/
import Derived.Test.YtdaodopeodheeaaMixP
namespace Go.Proofs.Ytdaodopeodheeaa

theorem orAt_bit1 (p : BitVec 64 × BitVec 64) (i : Nat) (c : BitVec 8) (j : Nat) (hj : j < 64) :
    (orAt p i c).1.getLsbD j = (p.1.getLsbD j || (decide (j / 8 = i) && c.getLsbD (j % 8))) := by
  unfold orAt
  by_cases h : i < 8
  · rw [if_pos h]
    simp only [BitVec.getLsbD_or, BitVec.getLsbD_shiftLeft, BitVec.getLsbD_setWidth, hj, decide_true, Bool.true_and]
    congr 1
    by_cases h1 : j < i * 8
    · have h2 : ¬ j / 8 = i := by omega
      simp [h1, h2]
    · by_cases h2 : j / 8 = i
      · have e : j - i * 8 = j % 8 := by omega
        have h3 : j % 8 < 64 := by omega
        simp [h1, h2, e, h3]
      · have h3 : c.getLsbD (j - i * 8) = false := BitVec.getLsbD_of_ge _ _ (by omega)
        simp [h2, h3]
  · rw [if_neg h]
    have h2 : ¬ j / 8 = i := by omega
    simp [h2]
theorem orAt_bit2 (p : BitVec 64 × BitVec 64) (i : Nat) (c : BitVec 8) (j : Nat) (hj : j < 64) :
    (orAt p i c).2.getLsbD j = (p.2.getLsbD j || (decide (8 + j / 8 = i) && c.getLsbD (j % 8))) := by
  unfold orAt
  by_cases h : i < 8
  · rw [if_pos h]
    have h2 : ¬ 8 + j / 8 = i := by omega
    simp [h2]
  · rw [if_neg h]
    obtain ⟨k, rfl⟩ : ∃ k, i = k + 8 := ⟨i - 8, by omega⟩
    rw [Nat.add_sub_cancel]
    simp only [BitVec.getLsbD_or, BitVec.getLsbD_shiftLeft, BitVec.getLsbD_setWidth, hj, decide_true, Bool.true_and]
    congr 1
    by_cases h1 : j < k * 8
    · have h2 : ¬ 8 + j / 8 = k + 8 := by omega
      simp [h1, h2]
    · by_cases h2 : 8 + j / 8 = k + 8
      · have e : j - k * 8 = j % 8 := by omega
        have h3 : j % 8 < 64 := by omega
        simp [h1, h2, e, h3]
      · have h3 : c.getLsbD (j - k * 8) = false := BitVec.getLsbD_of_ge _ _ (by omega)
        simp [h2, h3]

theorem readTo_bit1 (n : Nat) (l : List (BitVec 8)) (j : Nat) (hj : j < 64) : (readTo n l).1.getLsbD j = (decide (j / 8 < n) && (l.getD (j / 8) 0).getLsbD (j % 8)) := by
  induction n with
  | zero => rw [readTo_zero]; simp
  | succ n ih =>
    rw [readTo_succ, orAt_bit1 _ _ _ _ hj, ih]
    by_cases h : j / 8 = n
    · rw [h]; simp
    · by_cases h2 : j / 8 < n
      · simp [h, h2, show j / 8 < n + 1 by omega]
      · simp [h, h2, show ¬ j / 8 < n + 1 by omega]
theorem readTo_bit2 (n : Nat) (l : List (BitVec 8)) (j : Nat) (hj : j < 64) : (readTo n l).2.getLsbD j = (decide (8 + j / 8 < n) && (l.getD (8 + j / 8) 0).getLsbD (j % 8)) := by
  induction n with
  | zero => rw [readTo_zero]; simp
  | succ n ih =>
    rw [readTo_succ, orAt_bit2 _ _ _ _ hj, ih]
    by_cases h : 8 + j / 8 = n
    · rw [h]; simp
    · by_cases h2 : 8 + j / 8 < n
      · simp [h, h2, show 8 + j / 8 < n + 1 by omega]
      · simp [h, h2, show ¬ 8 + j / 8 < n + 1 by omega]
theorem getD_ge (l : List (BitVec 8)) (i : Nat) (h : l.length ≤ i) : l.getD i 0 = 0 := by
  simp [List.getD, List.getElem?_eq_none h]
theorem blockOf_bit1 (l : List (BitVec 8)) (j : Nat) (hj : j < 64) : (blockOf l).1.getLsbD j = (l.getD (j / 8) 0).getLsbD (j % 8) := by
  unfold blockOf
  rw [readTo_bit1 _ _ _ hj]
  by_cases h : j / 8 < l.length
  · simp [h]
  · rw [getD_ge l _ (by omega)]; simp
theorem blockOf_bit2 (l : List (BitVec 8)) (j : Nat) (hj : j < 64) : (blockOf l).2.getLsbD j = (l.getD (8 + j / 8) 0).getLsbD (j % 8) := by
  unfold blockOf
  rw [readTo_bit2 _ _ _ hj]
  by_cases h : 8 + j / 8 < l.length
  · simp [h]
  · rw [getD_ge l _ (by omega)]; simp
/-- a block of octets hangs on its first sixteen octets alone, zeros behind the last one -/
theorem blockOf_congr {l l' : List (BitVec 8)} (h : ∀ i, i < 16 → l.getD i 0 = l'.getD i 0) : blockOf l = blockOf l' := by
  apply Prod.ext
  · apply BitVec.eq_of_getLsbD_eq
    intro j hj
    rw [blockOf_bit1 _ _ hj, blockOf_bit1 _ _ hj, h _ (by omega)]
  · apply BitVec.eq_of_getLsbD_eq
    intro j hj
    rw [blockOf_bit2 _ _ hj, blockOf_bit2 _ _ hj, h _ (by omega)]
theorem octs_getD (p : BitVec 64 × BitVec 64) (i : Nat) (h : i < 16) : (octs p).getD i 0 = octAt p i := by
  simp [octs, List.getD, h]
theorem blockOf_octs (p : BitVec 64 × BitVec 64) : blockOf (octs p) = p := by
  apply Prod.ext
  · apply BitVec.eq_of_getLsbD_eq
    intro j hj
    rw [blockOf_bit1 _ _ hj, octs_getD _ _ (by omega)]
    unfold octAt
    rw [if_pos (by omega)]
    have h1 : j % 8 < 8 := by omega
    have h2 : j / 8 * 8 + j % 8 = j := by omega
    simp [BitVec.getLsbD_ushiftRight, h1, h2]
  · apply BitVec.eq_of_getLsbD_eq
    intro j hj
    rw [blockOf_bit2 _ _ hj, octs_getD _ _ (by omega)]
    unfold octAt
    rw [if_neg (by omega)]
    have h1 : j % 8 < 8 := by omega
    have h2 : j / 8 * 8 + j % 8 = j := by omega
    simp [BitVec.getLsbD_ushiftRight, h1, h2]
theorem octs_blockOf (l : List (BitVec 8)) (h : l.length = 16) : octs (blockOf l) = l := by
  apply List.ext_getElem
  · rw [octs_length, h]
  · intro i h1 h2
    have hi : i < 16 := by omega
    have e1 : (octs (blockOf l))[i] = octAt (blockOf l) i := by simp [octs]
    have e2 : l[i] = l.getD i 0 := by simp [List.getD, List.getElem?_eq_getElem h2]
    refine e1.trans (Eq.trans ?_ e2.symm)
    apply BitVec.eq_of_getLsbD_eq
    intro j hj
    unfold octAt
    by_cases h8 : i < 8
    · rw [if_pos h8]
      simp only [BitVec.getLsbD_setWidth, hj, decide_true, Bool.true_and, BitVec.getLsbD_ushiftRight]
      rw [blockOf_bit1 _ _ (by omega), show (i * 8 + j) / 8 = i by omega, show (i * 8 + j) % 8 = j by omega]
    · rw [if_neg h8]
      simp only [BitVec.getLsbD_setWidth, hj, decide_true, Bool.true_and, BitVec.getLsbD_ushiftRight]
      rw [blockOf_bit2 _ _ (by omega), show 8 + ((i - 8) * 8 + j) / 8 = i by omega, show ((i - 8) * 8 + j) % 8 = j by omega]
theorem octAt_xor (p q : BitVec 64 × BitVec 64) (i : Nat) : octAt (xorB p q) i = octAt p i ^^^ octAt q i := by
  unfold octAt xorB
  by_cases h : i < 8
  · rw [if_pos h, if_pos h, if_pos h]
    apply BitVec.eq_of_getLsbD_eq; intro j hj
    simp [BitVec.getLsbD_ushiftRight, hj]
  · rw [if_neg h, if_neg h, if_neg h]
    apply BitVec.eq_of_getLsbD_eq; intro j hj
    simp [BitVec.getLsbD_ushiftRight, hj]

/-! folds -/
theorem xorB_inj {a b c : BitVec 64 × BitVec 64} (h : xorB a c = xorB b c) : a = b := by
  have h1 := congrArg Prod.fst h
  have h2 := congrArg Prod.snd h
  unfold xorB at h1 h2
  dsimp only at h1 h2
  apply Prod.ext
  · rw [← xor_xor_cancel a.1 c.1, h1, xor_xor_cancel]
  · rw [← xor_xor_cancel a.2 c.2, h2, xor_xor_cancel]
theorem xorB_comm (a b : BitVec 64 × BitVec 64) : xorB a b = xorB b a := by
  unfold xorB; rw [BitVec.xor_comm a.1, BitVec.xor_comm a.2]
theorem mixTo_inj {a b : BitVec 64 × BitVec 64} (h : mixTo 8 a = mixTo 8 b) : a = b := by rw [← unmix_mix 8 a, h, unmix_mix]
theorem foldTo_inj {n : Nat} {l : List (BitVec 8)} {a b : BitVec 64 × BitVec 64} (h : foldTo n l a = foldTo n l b) : a = b := by
  induction n with
  | zero => rw [foldTo_zero, foldTo_zero] at h; exact h
  | succ n ih => rw [foldTo_succ, foldTo_succ] at h; exact ih (xorB_inj (mixTo_inj h))
theorem foldB_inj {l : List (BitVec 8)} {a b : BitVec 64 × BitVec 64} (h : foldB l a = foldB l b) : a = b := foldTo_inj h
theorem foldB_octs (a p : BitVec 64 × BitVec 64) : foldB (octs p) a = mixTo 8 (xorB a p) := by
  unfold foldB
  rw [octs_length, show (16 + 15) / 16 = 0 + 1 from rfl, foldTo_succ, foldTo_zero]
  have e : ((octs p).drop (16 * 0)).take 16 = octs p := by
    rw [Nat.mul_zero, List.drop_zero, List.take_of_length_le (by rw [octs_length]; exact Nat.le_refl _)]
  rw [e, blockOf_octs]
/-- the fold of n blocks hangs on the first 16 n octets alone, zeros behind the last one -/
theorem foldTo_congr {n : Nat} {l l' : List (BitVec 8)} (h : ∀ i, i < 16 * n → l.getD i 0 = l'.getD i 0) (a : BitVec 64 × BitVec 64) : foldTo n l a = foldTo n l' a := by
  induction n with
  | zero => rw [foldTo_zero, foldTo_zero]
  | succ n ih =>
    rw [foldTo_succ, foldTo_succ, ih (fun i hi => h i (by omega))]
    congr 2
    apply blockOf_congr
    intro i hi
    have h2 := h (16 * n + i) (by omega)
    simp only [List.getD, List.getElem?_take, List.getElem?_drop, hi, if_true] at h2 ⊢
    exact h2
theorem foldTo_add (m n : Nat) (l : List (BitVec 8)) (a : BitVec 64 × BitVec 64) : foldTo (m + n) l a = foldTo n (l.drop (16 * m)) (foldTo m l a) := by
  induction n with
  | zero => rw [foldTo_zero]; rfl
  | succ n ih =>
    rw [← Nat.add_assoc, foldTo_succ, ih, foldTo_succ]
    congr 3
    rw [List.drop_drop, Nat.mul_add]
/-- a text's fold is that of its beginning of whole sixteens, and then of the rest -/
theorem foldB_cut (l : List (BitVec 8)) (m : Nat) (h : 16 * m ≤ l.length) (a : BitVec 64 × BitVec 64) : foldB (l.drop (16 * m)) (foldB (l.take (16 * m)) a) = foldB l a := by
  unfold foldB
  have e1 : (l.take (16 * m)).length = 16 * m := by simp; omega
  have e2 : (l.drop (16 * m)).length = l.length - 16 * m := by simp
  rw [e1, e2]
  have e3 : (16 * m + 15) / 16 = m := by omega
  have e4 : (l.length + 15) / 16 = m + (l.length - 16 * m + 15) / 16 := by omega
  rw [e3, e4, foldTo_add]
  refine congrArg (foldTo _ _) ?_
  apply foldTo_congr
  intro i hi
  simp only [List.getD, List.getElem?_take, hi, if_true]
/-- zeros behind the last octets, up to a whole sixteen, change nothing -/
theorem foldB_zeros (l : List (BitVec 8)) (k : Nat) (h : (l.length + k + 15) / 16 = (l.length + 15) / 16) (a : BitVec 64 × BitVec 64) : foldB (l ++ List.replicate k 0) a = foldB l a := by
  unfold foldB
  rw [List.length_append, List.length_replicate, h]
  apply foldTo_congr
  intro i _
  by_cases hi : i < l.length
  · simp [List.getD, List.getElem?_append_left hi]
  · rw [getD_ge l _ (by omega)]
    simp only [List.getD, List.getElem?_append_right (show l.length ≤ i by omega), List.getElem?_replicate]
    split <;> rfl
end Go.Proofs.Ytdaodopeodheeaa
