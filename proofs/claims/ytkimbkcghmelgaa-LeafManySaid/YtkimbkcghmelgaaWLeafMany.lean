/- The walk of LeafMany: the Go text answers true and writes nothing that was there. -/
import Derived.Test.YtkimbkcghmelgaaLeafM
import Derived.Test.YtkimbkcghmelgaaOpenF
namespace Go.Proofs.Ytkimbkcghmelgaa
open Go.RowKit Go.Proofs.YtkimbkcghmelgaaW.PrintWords

/-! plain: spans cut in two; spans told twice -/
theorem getD_take {l : List (Nat × Nat)} {c j : Nat} (h : j < c) : (l.take c).getD j (0, 0) = l.getD j (0, 0) := by
  rw [List.getD_eq_getElem?_getD, List.getD_eq_getElem?_getD, List.getElem?_take, if_pos h]
theorem getD_drop (l : List (Nat × Nat)) (c j : Nat) : (l.drop c).getD j (0, 0) = l.getD (c + j) (0, 0) := by
  rw [List.getD_eq_getElem?_getD, List.getD_eq_getElem?_getD, List.getElem?_drop]
theorem MOk.take {h : Nat} {l : List (Nat × Nat)} {m c : Nat} (H : MOk h l m) (hc : c ≤ m) : MOk h (l.take c) c := by
  intro j hj
  rw [getD_take hj, getD_take (show j - 1 < c by omega)]
  exact H j (by omega)
theorem MOk.drop {h : Nat} {l : List (Nat × Nat)} {m c : Nat} (H : MOk h l m) (hc : c ≤ m) : MOk h (l.drop c) (m - c) := by
  intro j hj
  rw [getD_drop, getD_drop]
  have := H (c + j) (by omega)
  refine ⟨this.1, this.2.1, fun h0 => ?_⟩
  have q := this.2.2 (by omega)
  rwa [show c + j - 1 = c + (j - 1) by omega] at q
theorem sum_take (l : List (Nat × Nat)) (c : Nat) : ∀ k, k ≤ c → sumTo (l.take c) k = sumTo l k := by
  intro k
  induction k with
  | zero => intro _; rfl
  | succ k ih => intro hk; unfold sumTo; rw [ih (by omega), getD_take (by omega)]
theorem sumTo_succ (l : List (Nat × Nat)) (k : Nat) : sumTo l (k + 1) = sumTo l k + ((l.getD k (0, 0)).2 - (l.getD k (0, 0)).1 + 1) := rfl
theorem sum_drop (l : List (Nat × Nat)) (c : Nat) (k : Nat) : sumTo l (c + k) = sumTo l c + sumTo (l.drop c) k := by
  induction k with
  | zero => rfl
  | succ k ih =>
    rw [← Nat.add_assoc, sumTo_succ, sumTo_succ, ih, getD_drop]
    omega
theorem sum_ge (l : List (Nat × Nat)) (k : Nat) : k ≤ sumTo l k := by
  induction k with
  | zero => omega
  | succ k ih => unfold sumTo; omega
theorem MOk.first {h : Nat} {l : List (Nat × Nat)} {m : Nat} (H : MOk h l m) (k : Nat) (hk : k < m) : (l.getD 0 (0, 0)).1 ≤ (l.getD k (0, 0)).2 := by
  induction k with
  | zero => exact (H 0 hk).1
  | succ k ih =>
    have a := ih (by omega)
    have b := H (k + 1) hk
    have c := b.2.2 (by omega)
    rw [Nat.add_sub_cancel] at c
    omega
theorem MOk.twice {h : Nat} {l : List (Nat × Nat)} (H : MOk h l l.length) (hn : 0 < l.length) : ¬ MOk h (l ++ [l.getD 0 (0, 0)]) (l ++ [l.getD 0 (0, 0)]).length := by
  intro K
  have q := (K l.length (by simp)).2.2 hn
  have f := H.first (l.length - 1) (by omega)
  have e1 : (l ++ [l.getD 0 (0, 0)]).getD (l.length - 1) (0, 0) = l.getD (l.length - 1) (0, 0) := by
    simp only [List.getD_eq_getElem?_getD]
    rw [List.getElem?_append_left (by omega)]
  have e2 : (l ++ [l.getD 0 (0, 0)]).getD l.length (0, 0) = l.getD 0 (0, 0) := by
    rw [List.getD_eq_getElem?_getD, List.getElem?_append_right (by omega)]; simp
  rw [e1, e2] at q
  omega
theorem Spans.take {w : World} {A : Option Addr} {l : List (Nat × Nat)} (h : Spans w A l) (c : Nat) : Spans w A (l.take c) := by
  have hl : (l.take c).length ≤ l.length := by rw [List.length_take]; omega
  refine ⟨Nat.le_trans hl h.1, fun hn => ?_⟩
  obtain ⟨ad, e, hc⟩ := h.2 (by omega)
  refine ⟨ad, e, fun j hj => ?_⟩
  rw [List.length_take] at hj
  rw [getD_take (by omega)]
  exact hc j (by omega)
theorem Spans.drop {w : World} {b off : Nat} {l : List (Nat × Nat)} (h : Spans w (some ⟨b, off, none⟩) l) (c : Nat) : Spans w (some ⟨b, off + c * 2, none⟩) (l.drop c) := by
  have hl : (l.drop c).length = l.length - c := List.length_drop
  refine ⟨by have := h.1; omega, fun hn => ?_⟩
  obtain ⟨ad, e, hc⟩ := h.2 (by omega)
  cases e
  have hadd : ∀ o i, (⟨b, o, none⟩ : Addr).add i = ⟨b, o + i, none⟩ := fun o i => by unfold Addr.add; split <;> simp_all
  refine ⟨_, rfl, fun j hj => ?_⟩
  have q := hc (c + j) (by omega)
  rw [getD_drop, hadd, hadd]
  rw [hadd, hadd] at q
  rw [show off + c * 2 + j * 2 = off + (c + j) * 2 by omega, show off + c * 2 + (j * 2 + 1) = off + ((c + j) * 2 + 1) by omega]
  exact q

set_option maxRecDepth 100000 in
set_option maxHeartbeats 2000000 in
theorem lmany_long {h x : Int} {l : List (Nat × Nat)} (A : Option Addr) (cap : Nat) (hl : 60 < l.length) (w : World) :
    Calls Try.prog 9 #[.int .i64 h, .slice A l.length cap, .int .i64 x] w fun e w' => e = .returned (.bool true) ∧ Below w.heap.size w w' := by
  have t1 : decide ((60 : Int) < (l.length : Int)) = true := decide_eq_true (by omega)
  go_enter Try.func9, Try.ntmps9
  go_wp2_with fail
  refine (live02 _).mono ?_
  rintro e w1 ⟨rfl, hb1⟩
  have hBN := Below.step (w := w) (by repeat' first | with_reducible exact Below.refl _ _ | with_reducible refine Below.drew ?_ | with_reducible refine below_drewN ?_ _ | with_reducible refine Below.setCell ?_ ?_ _ | with_reducible refine Below.alloc ?_ ?_ _ | (dsimp only; omega) | (simp <;> fail) | (simp; omega)) hb1
  clear hb1
  have HBel := mkHid hBN
  clear hBN
  go_wp2_with fail
  go_ret
  exact ⟨rfl, (by repeat' first | with_reducible exact HBel.out | with_reducible exact Below.refl _ _ | with_reducible refine Below.drew ?_ | with_reducible refine below_drewN ?_ _ | with_reducible refine Below.setCell ?_ ?_ _ | with_reducible refine Below.alloc ?_ ?_ _ | (dsimp only; omega) | (simp <;> fail) | (have := HBel.out.size; simp; omega))⟩

set_option maxRecDepth 100000 in
set_option maxHeartbeats 2000000 in
theorem lmany_bad {h x : Int} {l : List (Nat × Nat)} (A : Option Addr) (cap : Nat) (hl : l.length ≤ 60) (H : h < 1 ∨ 32 < h) (w : World) :
    Calls Try.prog 9 #[.int .i64 h, .slice A l.length cap, .int .i64 x] w fun e w' => e = .returned (.bool true) ∧ Below w.heap.size w w' := by
  have t1 : decide ((60 : Int) < (l.length : Int)) = false := decide_eq_false (by omega)
  have H' := mkHid H
  clear H
  go_enter Try.func9, Try.ntmps9
  go_wp2_with fail
  refine (live02 _).mono ?_
  rintro e w1 ⟨rfl, hb1⟩
  have hBN := Below.step (w := w) (by repeat' first | with_reducible exact Below.refl _ _ | with_reducible refine Below.drew ?_ | with_reducible refine below_drewN ?_ _ | with_reducible refine Below.setCell ?_ ?_ _ | with_reducible refine Below.alloc ?_ ?_ _ | (dsimp only; omega) | (simp <;> fail) | (simp; omega)) hb1
  clear hb1
  have HBel := mkHid hBN
  clear hBN
  go_wp2_with fail
  refine (many_bad H'.out _ _ _ _).mono ?_
  rintro e w2 ⟨rfl, hb2⟩
  have hBN := Below.step (w := w) (by repeat' first | with_reducible exact HBel.out | with_reducible exact Below.refl _ _ | with_reducible refine Below.drew ?_ | with_reducible refine below_drewN ?_ _ | with_reducible refine Below.setCell ?_ ?_ _ | with_reducible refine Below.alloc ?_ ?_ _ | (dsimp only; omega) | (simp <;> fail) | (have := HBel.out.size; simp; omega)) hb2
  clear HBel hb2
  have HBel := mkHid hBN
  clear hBN
  go_wp2_with fail
  go_ret
  exact ⟨rfl, (by repeat' first | with_reducible exact HBel.out | with_reducible exact Below.refl _ _ | with_reducible refine Below.drew ?_ | with_reducible refine below_drewN ?_ _ | with_reducible refine Below.setCell ?_ ?_ _ | with_reducible refine Below.alloc ?_ ?_ _ | (dsimp only; omega) | (simp <;> fail) | (have := HBel.out.size; simp; omega))⟩

set_option maxRecDepth 100000 in
set_option maxHeartbeats 2000000 in
theorem lmany_no {h : Nat} {x : Int} {l : List (Nat × Nat)} (A : Option Addr) (cap : Nat) (hl : l.length ≤ 60) (h1 : 1 ≤ h) (h2 : h ≤ 32) (hM : Hid (¬ MOk h l l.length)) (w : World) (hA : Spans w A l) :
    Calls Try.prog 9 #[.int .i64 (h : Int), .slice A l.length cap, .int .i64 x] w fun e w' => e = .returned (.bool true) ∧ Below w.heap.size w w' := by
  have t1 : decide ((60 : Int) < (l.length : Int)) = false := decide_eq_false (by omega)
  have HA := mkHid hA
  clear hA
  go_enter Try.func9, Try.ntmps9
  go_wp2_with fail
  refine (live02 _).mono ?_
  rintro e w1 ⟨rfl, hb1⟩
  have hBN := Below.step (w := w) (by repeat' first | with_reducible exact Below.refl _ _ | with_reducible refine Below.drew ?_ | with_reducible refine below_drewN ?_ _ | with_reducible refine Below.setCell ?_ ?_ _ | with_reducible refine Below.alloc ?_ ?_ _ | (dsimp only; omega) | (simp <;> fail) | (simp; omega)) hb1
  clear hb1
  have HBel := mkHid hBN
  clear hBN
  go_wp2_with fail
  have HA1 := HA.out.below HBel.out
  refine (many_no h1 h2 hM.out _ _ _ HA1).mono ?_
  rintro e w2 ⟨rfl, hb2⟩
  have hBN := Below.step (w := w) (by repeat' first | with_reducible exact HBel.out | with_reducible exact Below.refl _ _ | with_reducible refine Below.drew ?_ | with_reducible refine below_drewN ?_ _ | with_reducible refine Below.setCell ?_ ?_ _ | with_reducible refine Below.alloc ?_ ?_ _ | (dsimp only; omega) | (simp <;> fail) | (have := HBel.out.size; simp; omega)) hb2
  clear HBel hb2
  have HBel := mkHid hBN
  clear hBN
  go_wp2_with fail
  go_ret
  exact ⟨rfl, (by repeat' first | with_reducible exact HBel.out | with_reducible exact Below.refl _ _ | with_reducible refine Below.drew ?_ | with_reducible refine below_drewN ?_ _ | with_reducible refine Below.setCell ?_ ?_ _ | with_reducible refine Below.alloc ?_ ?_ _ | (dsimp only; omega) | (simp <;> fail) | (have := HBel.out.size; simp; omega))⟩

theorem Spans.dropMap {w : World} {A : Option Addr} {l : List (Nat × Nat)} (h : Spans w A l) (c : Nat) : Spans w (A.map fun x => x.add (c * 2)) (l.drop c) := by
  by_cases hn : 0 < (l.drop c).length
  · have hl : (l.drop c).length = l.length - c := List.length_drop
    obtain ⟨b, off, rfl, _⟩ := h.addr (by omega)
    have q := h.drop c
    have hadd : (⟨b, off, none⟩ : Addr).add (c * 2) = ⟨b, off + c * 2, none⟩ := by unfold Addr.add; split <;> simp_all
    rw [Option.map_some, hadd]
    exact q
  · exact ⟨by omega, fun h => absurd h hn⟩
theorem Spans.dropEnd {w : World} (A : Option Addr) {l : List (Nat × Nat)} {c : Nat} (h : l.length ≤ c) : Spans w A (l.drop c) := by
  have hl : (l.drop c).length = l.length - c := List.length_drop
  exact ⟨by omega, fun h => by omega⟩

set_option maxRecDepth 100000 in
set_option maxHeartbeats 6000000 in
theorem lmany_empty {h : Nat} {x c0 : Int} {c1 z za zb : Nat} {l : List (Nat × Nat)} (A : Option Addr) (cap : Nat) (hl : l.length ≤ 60) (hcm : cap ≤ 9223372036854775807) (h1 : 1 ≤ h) (h2 : h ≤ 32) (hM : Hid (MOk h l l.length)) (hz : Hid (sumTo l l.length = z)) (ha : Hid (sumTo (l.take c1) (l.take c1).length = za)) (hb : Hid (sumTo (l.drop c1) (l.drop c1).length = zb)) (hsum : (za : Int) + (zb : Int) = (z : Int)) (hx0 : Int.tmod x ((l.length : Int) + 1) = c0) (b0 : -60 ≤ c0) (b1 : c0 ≤ 60) (b2 : 0 ≤ c0 + (l.length : Int)) (hx1 : (c0 + (l.length : Int) + 1) % ((l.length : Int) + 1) = (c1 : Int)) (hc1 : c1 ≤ l.length) (hge : l.length ≤ z) (h0 : l.length = 0) (w : World) (hA : Spans w A l) :
    Calls Try.prog 9 #[.int .i64 (h : Int), .slice A l.length cap, .int .i64 x] w fun e w' => e = .returned (.bool true) ∧ Below w.heap.size w w' := by
  have t1 : decide ((60 : Int) < (l.length : Int)) = false := decide_eq_false (by omega)
  have HA := mkHid hA
  clear hA
  have e0 : ((l.length : Int) == 0) = true := by rw [beq_iff_eq]; omega
  have e1 : (l.length == 0) = true := by rw [beq_iff_eq]; exact h0
  have ez : z = 0 := by have := hz.out; rw [h0] at this; exact this.symm
  subst ez
  have H0 := mkHid h0
  clear h0
  go_enter Try.func9, Try.ntmps9
  go_wp2_with fail
  refine (live02 _).mono ?_
  rintro e w1 ⟨rfl, hb1⟩
  have hBN := Below.step (w := w) (by repeat' first | with_reducible exact Below.refl _ _ | with_reducible refine Below.drew ?_ | with_reducible refine below_drewN ?_ _ | with_reducible refine Below.setCell ?_ ?_ _ | with_reducible refine Below.alloc ?_ ?_ _ | (dsimp only; omega) | (simp <;> fail) | (simp; omega)) hb1
  clear hb1
  have HBel := mkHid hBN
  clear hBN
  go_wp2_with fail
  have HA1 := HA.out.below HBel.out
  refine (many_yes h1 h2 hM.out hz _ _ _ HA1).mono ?_
  rintro e w2 ⟨rfl, hb2⟩
  have hBN := Below.step (w := w) (by repeat' first | with_reducible exact HBel.out | with_reducible exact Below.refl _ _ | with_reducible refine Below.drew ?_ | with_reducible refine below_drewN ?_ _ | with_reducible refine Below.setCell ?_ ?_ _ | with_reducible refine Below.alloc ?_ ?_ _ | (dsimp only; omega) | (simp <;> fail) | (have := HBel.out.size; simp; omega)) hb2
  have HA2 := HA1.below hb2
  clear HA1
  clear HBel hb2
  have HBel := mkHid hBN
  clear hBN
  go_wp2_with fail
  have lt : (l.take c1).length = c1 := by rw [List.length_take]; omega
  have ld : (l.drop c1).length = l.length - c1 := List.length_drop
  have HT : Hid (∀ (w : World) (A : Option Addr) (cap : Nat), Spans w A (l.take c1) → Calls Try.prog 39 #[.int .i64 (h : Int), .slice A c1 cap] w fun e w' => e = .returned (.tuple #[.int .u64 (za : Int), .int .i64 0]) ∧ Below w.heap.size w w') := mkHid fun w A cap hS => by
    have k := many_yes h1 h2 (by rw [lt]; exact hM.out.take hc1) ha A cap w hS
    rwa [lt] at k
  have HD : Hid (∀ (w : World) (A : Option Addr) (cap : Nat), Spans w A (l.drop c1) → Calls Try.prog 39 #[.int .i64 (h : Int), .slice A (l.length - c1) cap] w fun e w' => e = .returned (.tuple #[.int .u64 (zb : Int), .int .i64 0]) ∧ Below w.heap.size w w') := mkHid fun w A cap hS => by
    have k := many_yes h1 h2 (by rw [ld]; exact hM.out.drop hc1) hb A cap w hS
    rwa [ld] at k
  have HA3 := HA2.take c1
  clear lt ld
  refine (HT.out _ _ _ HA3).mono ?_
  rintro e w3 ⟨rfl, hb3⟩
  have hBN := Below.step (w := w) (by repeat' first | with_reducible exact HBel.out | with_reducible exact Below.refl _ _ | with_reducible refine Below.drew ?_ | with_reducible refine below_drewN ?_ _ | with_reducible refine Below.setCell ?_ ?_ _ | with_reducible refine Below.alloc ?_ ?_ _ | (dsimp only; omega) | (simp <;> fail) | (have := HBel.out.size; simp; omega)) hb3
  have HA4 := mkHid (HA2.below hb3)
  clear HA2 HA3
  clear HBel hb3
  have HBel := mkHid hBN
  clear hBN
  go_wp2_with fail
  all_goals
    have HS4 : Hid (Spans w3 (A.map fun x => x.add (c1 * 2)) (l.drop c1)) := mkHid (HA4.out.dropMap c1)
    refine (HD.out _ _ _ (by first | with_reducible exact HS4.out | exact Spans.dropEnd _ (by omega))).mono ?_
    rintro e w4 ⟨rfl, hb4⟩
    have hBN := Below.step (w := w) (by repeat' first | with_reducible exact HBel.out | with_reducible exact Below.refl _ _ | with_reducible refine Below.drew ?_ | with_reducible refine below_drewN ?_ _ | with_reducible refine Below.setCell ?_ ?_ _ | with_reducible refine Below.alloc ?_ ?_ _ | (dsimp only; omega) | (simp <;> fail) | (have := HBel.out.size; simp; omega)) hb4
    have HA5 := mkHid (HA4.out.below hb4)
    clear HA4 HS4
    clear HBel hb4
    have HBel := mkHid hBN
    clear hBN
    go_wp2_with fail
    go_ret
    exact ⟨rfl, (by repeat' first | with_reducible exact HBel.out | with_reducible exact Below.refl _ _ | with_reducible refine Below.drew ?_ | with_reducible refine below_drewN ?_ _ | with_reducible refine Below.setCell ?_ ?_ _ | with_reducible refine Below.alloc ?_ ?_ _ | (dsimp only; omega) | (simp <;> fail) | (have := HBel.out.size; simp; omega))⟩

theorem cellG {w w' : World} {n o : Nat} {v : Value} (h : w.grownBy w' none) (c : w.cell? ⟨n, o, none⟩ = some v) : w'.cell? ⟨n, o, none⟩ = some v := by
  have hl := World.block_lt_of_cell? w _ c
  have hb : w'.heap[n]? = w.heap[n]? := h.block n hl (by simp)
  exact (World.cell?_of_block (w := w) hb).trans c
theorem news_kept {w w' : World} {n : Nat} {xs : List Value} (h : w.grownBy w' none) (c : ∀ (j : Nat) (u : Value), xs[j]? = some u → w.cell? ((⟨n, 0, none⟩ : Addr).add j) = some u) : ∀ (j : Nat) (u : Value), xs[j]? = some u → w'.cell? ((⟨n, 0, none⟩ : Addr).add j) = some u := by
  intro j u hj
  have hadd : (⟨n, 0, none⟩ : Addr).add j = ⟨n, j, none⟩ := by unfold Addr.add; split <;> simp_all
  have q := c j u hj
  rw [hadd] at q ⊢
  exact cellG h q
theorem step_append_own {P : Program} {ops : Array Oper} {o : Oper} {a : Act} {w : World} {K : Act → World → Prop} {Q : Exit → Act → World → Prop} {E : Prop}
    (hg : o.guard = none) (s x : Operand) (t : TypeId) (hop : o.op = Op.call { callee := Callee.builtin Builtin.append, args := #[s, x], argTypes := #[t, t] })
    (base : Nat) (e : TypeId) (i : TypeInfo) (z : Value) (size bytes : Nat) (h1 : P.underlying t = some (.slice e)) (h2 : P.info? e = some i) (h3 : i.zero = some z) (h4 : i.size = size) (h5 : i.bytes = bytes) (h6 : z.cells.size = size) (h7 : 0 < size)
    (v : Value) (k : Nat) (xs : List Value) (hs : a.eval s = v) (hown : w.ownsRow base e size v k xs)
    (ad : Addr) (m c : Nat) (news : List Value) (hx : a.eval x = .slice (some ad) m c) (hn : news.length = m * size) (hc : ∀ j u, news[j]? = some u → w.cell? (ad.add j) = some u) (h1c : ∀ u ∈ news, u.oneCell' = true)
    (b1 : k + m ≤ maxLen) (b2 : (k + m) * bytes ≤ 140737488355328) (b3 : base ≤ w.heap.size)
    (hK : ∀ v' w', w'.ownsRow base e size v' (k + m) (xs ++ news) → w.grownBy w' v.ownBlock → (v' = .slice none 0 0 ↔ v = .slice none 0 0 ∧ m = 0) → K (a.put o.dst v') w') :
    if Region.wanted o (yielded ops a.tmps) = true then Oper.wp P o a w K Q else E := by
  have hw : Region.wanted o (yielded ops a.tmps) = true := by simp [Region.wanted, hg]
  rw [if_pos hw]
  obtain ⟨v', w', hrun, r1, r2, r3⟩ := run_append_own (P := P) w base t o.type e i z size bytes h1 h2 h3 h4 h5 h6 h7 v k xs hown ad m c news hn hc h1c b1 b2 b3
  unfold Oper.wp
  simp [execOp, hop, resolve, invoke, builtin, hs, hx, hrun, Result.andThen]
  exact hK v' w' r1 r2 r3
theorem spanCells_one (l : List (Nat × Nat)) : ∀ u ∈ spanCells l, u.oneCell' = true := by
  intro u hu
  unfold spanCells at hu
  obtain ⟨x, _, hx⟩ := List.mem_flatMap.1 hu
  simp at hx
  rcases hx with rfl | rfl <;> rfl
theorem Spans.cells {w : World} {b off : Nat} {l : List (Nat × Nat)} (h : Spans w (some ⟨b, off, none⟩) l) : ∀ (j : Nat) (u : Value), (spanCells l)[j]? = some u → w.cell? ((⟨b, off, none⟩ : Addr).add j) = some u := by
  intro j u hu
  have hj : j < (spanCells l).length := (List.getElem?_eq_some_iff.1 hu).1
  rw [spanCells_length] at hj
  obtain ⟨ad, e, hc⟩ := h.2 (by omega)
  cases e
  have q := hc (j / 2) (by omega)
  have g := spanCells_get l (j / 2) (by omega)
  rcases Nat.mod_two_eq_zero_or_one j with m | m
  · rw [show j / 2 * 2 = j by omega] at q g
    rw [g.1] at hu; cases hu; exact q.1
  · rw [show j / 2 * 2 + 1 = j by omega] at q g
    rw [g.2] at hu; cases hu; exact q.2

set_option linter.unusedSimpArgs false in
set_option maxRecDepth 100000 in
set_option maxHeartbeats 6000000 in
theorem lmany_walk {h : Nat} {x c0 : Int} {c1 z za zb : Nat} {l : List (Nat × Nat)} (A : Option Addr) (cap : Nat) (hl : l.length ≤ 60) (hcap : l.length ≤ cap) (h1 : 1 ≤ h) (h2 : h ≤ 32) (hM : Hid (MOk h l l.length)) (hz : Hid (sumTo l l.length = z)) (ha : Hid (sumTo (l.take c1) (l.take c1).length = za)) (hb : Hid (sumTo (l.drop c1) (l.drop c1).length = zb)) (hsum : (za : Int) + (zb : Int) = (z : Int)) (hzb : za ≤ 4294967296) (hzc : zb ≤ 4294967296) (hx0 : Int.tmod x ((l.length : Int) + 1) = c0) (b0 : -60 ≤ c0) (b1 : c0 ≤ 60) (b2 : 0 ≤ c0 + (l.length : Int)) (hx1 : (c0 + (l.length : Int) + 1) % ((l.length : Int) + 1) = (c1 : Int)) (hc1 : c1 ≤ l.length) (hge : l.length ≤ z) (h0 : 0 < l.length) (w : World) (hA : Spans w A l) :
    Calls Try.prog 9 #[.int .i64 (h : Int), .slice A l.length cap, .int .i64 x] w fun e w' => e = .returned (.bool true) ∧ Below w.heap.size w w' := by
  have t1 : decide ((60 : Int) < (l.length : Int)) = false := decide_eq_false (by omega)
  have HA := mkHid hA
  clear hA
  have e0 : ((l.length : Int) == 0) = false := by rw [beq_eq_false_iff_ne]; omega
  have e1 : (l.length == 0) = false := by rw [beq_eq_false_iff_ne]; omega
  obtain ⟨i0, hi, hz0, hz1, hz2⟩ := info_parts info_span
  obtain ⟨b, off, rfl, hcs⟩ := HA.out.addr h0
  obtain ⟨ca, cb⟩ := hcs 0 h0
  rw [Nat.zero_mul, Nat.add_zero] at ca cb
  obtain ⟨p0, hp⟩ : ∃ p, Hid ((l.getD 0 (0, 0)).1 = p) := ⟨_, mkHid rfl⟩
  obtain ⟨q0, hq⟩ : ∃ q, Hid ((l.getD 0 (0, 0)).2 = q) := ⟨_, mkHid rfl⟩
  rw [hp.out] at ca
  rw [hq.out] at cb
  have HT2 : Hid (∀ (w : World) (A : Option Addr) (c : Nat), Spans w A (l ++ [l.getD 0 (0, 0)]) → Calls Try.prog 39 #[.int .i64 (h : Int), .slice A (l.length + 1) c] w fun e w' => e = .returned (.tuple #[.int .u64 0, .int .i64 1]) ∧ Below w.heap.size w w') := mkHid fun w A c hS => by
    have k := many_no h1 h2 (hM.out.twice h0) A c w hS
    rwa [List.length_append] at k
  have hidx : 0 < l.length := h0
  have tz : decide (l.length ≤ z) = true := decide_eq_true hge
  clear hcs
  go_enter Try.func9, Try.ntmps9
  go_wp2_with fail
  refine (live02 _).mono ?_
  rintro e w1 ⟨rfl, hb1⟩
  have hBN := Below.step (w := w) (by repeat' first | with_reducible exact Below.refl _ _ | with_reducible refine Below.drew ?_ | with_reducible refine below_drewN ?_ _ | with_reducible refine Below.setCell ?_ ?_ _ | with_reducible refine Below.alloc ?_ ?_ _ | (dsimp only; omega) | (simp <;> fail) | (simp; omega)) hb1
  clear hb1
  have HBel := mkHid hBN
  clear hBN
  go_wp2_with fail
  have HA1 := HA.out.below HBel.out
  refine (many_yes h1 h2 hM.out hz _ _ _ HA1).mono ?_
  rintro e w2 ⟨rfl, hb2⟩
  have hBN := Below.step (w := w) (by repeat' first | with_reducible exact HBel.out | with_reducible exact Below.refl _ _ | with_reducible refine Below.drew ?_ | with_reducible refine below_drewN ?_ _ | with_reducible refine Below.setCell ?_ ?_ _ | with_reducible refine Below.alloc ?_ ?_ _ | (dsimp only; omega) | (simp <;> fail) | (have := HBel.out.size; simp; omega)) hb2
  have HA2 := HA1.below hb2
  clear HA1
  clear HBel hb2
  have HBel := mkHid hBN
  clear hBN
  go_wp2_with fail
  have lt : (l.take c1).length = c1 := by rw [List.length_take]; omega
  have ld : (l.drop c1).length = l.length - c1 := List.length_drop
  have HT : Hid (∀ (w : World) (A : Option Addr) (cap : Nat), Spans w A (l.take c1) → Calls Try.prog 39 #[.int .i64 (h : Int), .slice A c1 cap] w fun e w' => e = .returned (.tuple #[.int .u64 (za : Int), .int .i64 0]) ∧ Below w.heap.size w w') := mkHid fun w A cap hS => by
    have k := many_yes h1 h2 (by rw [lt]; exact hM.out.take hc1) ha A cap w hS
    rwa [lt] at k
  have HD : Hid (∀ (w : World) (A : Option Addr) (cap : Nat), Spans w A (l.drop c1) → Calls Try.prog 39 #[.int .i64 (h : Int), .slice A (l.length - c1) cap] w fun e w' => e = .returned (.tuple #[.int .u64 (zb : Int), .int .i64 0]) ∧ Below w.heap.size w w') := mkHid fun w A cap hS => by
    have k := many_yes h1 h2 (by rw [ld]; exact hM.out.drop hc1) hb A cap w hS
    rwa [ld] at k
  have HA3 := HA2.take c1
  clear lt ld
  refine (HT.out _ _ _ HA3).mono ?_
  rintro e w3 ⟨rfl, hb3⟩
  have hBN := Below.step (w := w) (by repeat' first | with_reducible exact HBel.out | with_reducible exact Below.refl _ _ | with_reducible refine Below.drew ?_ | with_reducible refine below_drewN ?_ _ | with_reducible refine Below.setCell ?_ ?_ _ | with_reducible refine Below.alloc ?_ ?_ _ | (dsimp only; omega) | (simp <;> fail) | (have := HBel.out.size; simp; omega)) hb3
  have HA4 := mkHid (HA2.below hb3)
  clear HA2 HA3
  clear HBel hb3
  have HBel := mkHid hBN
  clear hBN
  go_wp2_with fail
  all_goals
    have HS4 : Hid (Spans w3 ((some ⟨b, off, none⟩ : Option Addr).map fun x => x.add (c1 * 2)) (l.drop c1)) := mkHid (HA4.out.dropMap c1)
    refine (HD.out _ _ _ (by first | with_reducible exact HS4.out | with_reducible exact HA4.out.drop c1 | exact Spans.dropEnd _ (by omega))).mono ?_
    rintro e w4 ⟨rfl, hb4⟩
    have hBN := Below.step (w := w) (by repeat' first | with_reducible exact HBel.out | with_reducible exact Below.refl _ _ | with_reducible refine Below.drew ?_ | with_reducible refine below_drewN ?_ _ | with_reducible refine Below.setCell ?_ ?_ _ | with_reducible refine Below.alloc ?_ ?_ _ | (dsimp only; omega) | (simp <;> fail) | (have := HBel.out.size; simp; omega)) hb4
    have HA5 := mkHid (HA4.out.below hb4)
    clear HA4 HS4
    clear HBel hb4
    have HBel := mkHid hBN
    clear hBN
    go_wp2_with fail
    have HB0 := mkHid (keeps HBel.out ca)
    have HB1 := mkHid (keeps HBel.out cb)
    have fa0 := HB0.out
    have fb0 := HB1.out
    refine wp_region_held_drew (S := fun w' => w'.cell? ⟨b, off, none⟩ = some (.int .u64 (p0 : Int)) ∧ w'.cell? ⟨b, off + 1, none⟩ = some (.int .u64 (q0 : Int))) (by kernel_rfl) ?_ (fun hHeld => ?_)
    · ((try dsimp only); (try go_split_ands); refine ⟨?_, ?_⟩ <;> assumption)
    refine wpAnyH_take (i := 0) (v := ?_) rfl (by kernel_rfl) (by kernel_rfl) (by kernel_rfl) (fun _ _ _ h => h) (Or.inl ⟨by rfl, ?_⟩) hHeld ?_
    rotate_left
    · intro w hSw
      (try dsimp only at hSw)
      go_simp
      all_goals with_reducible rfl
    try simp only [List.getElem_toArray, List.getElem_cons_succ, List.getElem_cons_zero, Act.put, List.setIfInBounds_toArray, List.set_cons_zero, List.set_cons_succ]
    refine wpAnyH_take (i := 1) (v := ?_) rfl (by kernel_rfl) (by kernel_rfl) (by kernel_rfl) (fun _ _ _ h => h) (Or.inl ⟨by rfl, ?_⟩) hHeld ?_
    rotate_left
    · intro w hSw
      (try dsimp only at hSw)
      go_simp
      all_goals with_reducible rfl
    try simp only [List.getElem_toArray, List.getElem_cons_succ, List.getElem_cons_zero, Act.put, List.setIfInBounds_toArray, List.set_cons_zero, List.set_cons_succ]
    refine wpAnyH_take (i := 3) (v := ?_) rfl (by kernel_rfl) (by kernel_rfl) (by kernel_rfl) (fun _ _ _ h => h) (Or.inl ⟨by rfl, ?_⟩) hHeld ?_
    rotate_left
    · intro w hSw
      (try dsimp only at hSw)
      go_simp
      all_goals with_reducible rfl
    try simp only [List.getElem_toArray, List.getElem_cons_succ, List.getElem_cons_zero, Act.put, List.setIfInBounds_toArray, List.set_cons_zero, List.set_cons_succ]
    refine wpAnyH_take (i := 4) (v := ?_) rfl (by kernel_rfl) (by kernel_rfl) (by kernel_rfl) (fun _ _ _ h => h) (Or.inl ⟨by rfl, ?_⟩) hHeld ?_
    rotate_left
    · intro w hSw
      (try dsimp only at hSw)
      go_simp
      all_goals with_reducible rfl
    try simp only [List.getElem_toArray, List.getElem_cons_succ, List.getElem_cons_zero, Act.put, List.setIfInBounds_toArray, List.set_cons_zero, List.set_cons_succ]
    refine wpAnyH_take (i := 5) (v := ?_) rfl (by kernel_rfl) (by kernel_rfl) (by kernel_rfl) (fun _ _ _ h => h) (Or.inl ⟨by rfl, ?_⟩) hHeld ?_
    rotate_left
    · intro w hSw
      (try dsimp only at hSw)
      go_simp
      all_goals with_reducible rfl
    try simp only [List.getElem_toArray, List.getElem_cons_succ, List.getElem_cons_zero, Act.put, List.setIfInBounds_toArray, List.set_cons_zero, List.set_cons_succ]
    refine wpAnyH_ready (rs := [2, 6]) (by kernel_rfl) (by simp) ?_
    refine AllReadyH.cons rfl (fun K hK => ?_) (AllReadyH.cons rfl (fun K hK => ?_) AllReadyH.nil)
    · refine step_append_own rfl (.const (.slice none 0 0)) (.tmp 86) 46 rfl w.heap.size 25 i0 (.agg #[.int .u64 0, .int .u64 0]) 2 16 Try.underlying46 hi hz0 hz1 hz2 rfl (by decide) (.slice none 0 0) 0 [] rfl (World.ownsRow_nil _ _ _ _) ⟨b, off, none⟩ l.length _ (spanCells l) rfl (spanCells_length l) ((HA.out.below HBel.out.drew).cells) (spanCells_one l) (by unfold maxLen; omega) (by omega) HBel.out.drew.size ?_
      intro v10 w10 hown10 hgrow10 _
      rw [Nat.zero_add, List.nil_append] at hown10
      obtain ⟨g10, cp10, rfl, -, -⟩ := hown10.form h0
      have HB10 := mkHid (Below.grown HBel.out.drew hgrow10 HBel.out.drew.size (fun k e => by cases e))
      have O10 := mkHid hown10
      have fa10 := keeps HB10.out ca
      have fb10 := keeps HB10.out cb
      have fa11 := fa10
      refine hK.out _ _ ?_ (fun hHeld => ?_)
      · ((try dsimp only); (try go_split_ands); refine ⟨?_, ?_⟩ <;> assumption)
      clear hK K
      try simp only [List.getElem_toArray, List.getElem_cons_succ, List.getElem_cons_zero, Act.put, List.setIfInBounds_toArray, List.set_cons_zero, List.set_cons_succ]
      refine wpAnyH_ready (rs := [6]) (by kernel_rfl) (by simp) ?_
      refine AllReadyH.cons rfl (fun K hK => ?_) AllReadyH.nil
      go_simp
      have HB12 := mkHid (HB10.out.alloc HB10.out.size (.cells #[.int .u64 (p0 : Int), .int .u64 (q0 : Int)] 25))
      have fa12 := keeps HB12.out ca
      have fb12 := keeps HB12.out cb
      refine hK.out _ _ ?_ (fun hHeld => ?_)
      · ((try dsimp only); (try go_split_ands); refine ⟨?_, ?_⟩ <;> assumption)
      clear hK K
      try simp only [List.getElem_toArray, List.getElem_cons_succ, List.getElem_cons_zero, Act.put, List.setIfInBounds_toArray, List.set_cons_zero, List.set_cons_succ]
      refine wpAnyH_ready (rs := [7]) (by kernel_rfl) (by simp) ?_
      refine AllReadyH.cons rfl (fun K hK => ?_) AllReadyH.nil
      refine step_append_own rfl (.tmp 87) (.tmp 91) 46 rfl w.heap.size 25 i0 (.agg #[.int .u64 0, .int .u64 0]) 2 16 Try.underlying46 hi hz0 hz1 hz2 rfl (by decide) (.slice (some ⟨g10, 0, none⟩) l.length cp10) l.length (spanCells l) rfl (O10.out.alloc (.cells #[.int .u64 (p0 : Int), .int .u64 (q0 : Int)] 25)) ⟨w10.heap.size, 0, none⟩ 1 1 [.int .u64 (p0 : Int), .int .u64 (q0 : Int)] rfl rfl (cell_two_new _ _ _ _) (by simp [Value.oneCell']) (by unfold maxLen; omega) (by omega) HB12.out.size ?_
      intro v13 w13 hown13 hgrow13 _
      have HB13 := mkHid (Below.grown HB12.out hgrow13 HB12.out.size (fun k e => own_base (h := (O10.out.alloc (.cells #[.int .u64 (p0 : Int), .int .u64 (q0 : Int)] 25))) k e))
      have hS13 : w13.ownsRow w.heap.size 25 2 v13 (l ++ [l.getD 0 (0, 0)]).length (spanCells (l ++ [l.getD 0 (0, 0)])) := by
        rw [List.length_append, spanCells_append, show spanCells [l.getD 0 (0, 0)] = [.int .u64 (p0 : Int), .int .u64 (q0 : Int)] by rw [← hp.out, ← hq.out]; rfl]
        exact hown13
      obtain ⟨A13, c13', rfl, -, S13⟩ := Spans.of_row hS13
      have SS13 := mkHid S13
      have fa13 := keeps HB13.out ca
      have fb13 := keeps HB13.out cb
      clear hown13 hgrow13 hS13 S13
      refine hK.out _ _ ?_ (fun hHeld => ?_)
      · ((try dsimp only); (try go_split_ands); refine ⟨?_, ?_⟩ <;> assumption)
      clear hK K
      try simp only [List.getElem_toArray, List.getElem_cons_succ, List.getElem_cons_zero, Act.put, List.setIfInBounds_toArray, List.set_cons_zero, List.set_cons_succ]
      refine wpAnyH_ready (rs := [8]) (by kernel_rfl) (by simp) ?_
      refine AllReadyH.cons rfl (fun K hK => ?_) AllReadyH.nil
      go_simp
      go_at_call 39
      with_reducible refine (HT2.out _ _ _ SS13.out).mono ?_
      (try go_split_ands)
      rintro e w14 ⟨rfl, hb14⟩
      have HB14 := mkHid (Below.step HB13.out hb14)
      have fa14 := keeps HB14.out ca
      have fb14 := keeps HB14.out cb
      clear hb14
      go_wp2_with fail
      refine hK.out _ _ ?_ (fun hHeld => ?_)
      · ((try dsimp only); (try go_split_ands); refine ⟨?_, ?_⟩ <;> assumption)
      clear hK K
      try simp only [List.getElem_toArray, List.getElem_cons_succ, List.getElem_cons_zero, Act.put, List.setIfInBounds_toArray, List.set_cons_zero, List.set_cons_succ]
      refine wpAnyH_take (i := 9) (v := ?_) rfl (by kernel_rfl) (by kernel_rfl) (by kernel_rfl) (fun _ _ _ h => h) (Or.inl ⟨by rfl, ?_⟩) hHeld ?_
      rotate_left
      · intro w hSw
        (try dsimp only at hSw)
        go_simp
        all_goals with_reducible rfl
      try simp only [List.getElem_toArray, List.getElem_cons_succ, List.getElem_cons_zero, Act.put, List.setIfInBounds_toArray, List.set_cons_zero, List.set_cons_succ]
      refine wpAnyH_take (i := 10) (v := ?_) rfl (by kernel_rfl) (by kernel_rfl) (by kernel_rfl) (fun _ _ _ h => h) (Or.inl ⟨by rfl, ?_⟩) hHeld ?_
      rotate_left
      · intro w hSw
        (try dsimp only at hSw)
        go_simp
        all_goals with_reducible rfl
      try simp only [List.getElem_toArray, List.getElem_cons_succ, List.getElem_cons_zero, Act.put, List.setIfInBounds_toArray, List.set_cons_zero, List.set_cons_succ]
      refine wpAnyH_take (i := 11) (v := ?_) rfl (by kernel_rfl) (by kernel_rfl) (by kernel_rfl) (fun _ _ _ h => h) (Or.inl ⟨by rfl, ?_⟩) hHeld ?_
      rotate_left
      · intro w hSw
        (try dsimp only at hSw)
        go_simp
        all_goals with_reducible rfl
      try simp only [List.getElem_toArray, List.getElem_cons_succ, List.getElem_cons_zero, Act.put, List.setIfInBounds_toArray, List.set_cons_zero, List.set_cons_succ]
      refine wpAnyH_take (i := 12) (v := ?_) rfl (by kernel_rfl) (by kernel_rfl) (by kernel_rfl) (fun _ _ _ h => h) (Or.inl ⟨by rfl, ?_⟩) hHeld ?_
      rotate_left
      · intro w hSw
        (try dsimp only at hSw)
        go_simp
        all_goals with_reducible rfl
      try simp only [List.getElem_toArray, List.getElem_cons_succ, List.getElem_cons_zero, Act.put, List.setIfInBounds_toArray, List.set_cons_zero, List.set_cons_succ]
      refine wpAnyH_take (i := 13) (v := ?_) rfl (by kernel_rfl) (by kernel_rfl) (by kernel_rfl) (fun _ _ _ h => h) (Or.inl ⟨by rfl, ?_⟩) hHeld ?_
      rotate_left
      · intro w hSw
        (try dsimp only at hSw)
        go_simp
        all_goals with_reducible rfl
      try simp only [List.getElem_toArray, List.getElem_cons_succ, List.getElem_cons_zero, Act.put, List.setIfInBounds_toArray, List.set_cons_zero, List.set_cons_succ]
      refine wpAnyH_done (by kernel_rfl) ?_ _
      go_wp2_with fail
      go_ret
      exact ⟨rfl, HB14.out⟩
    · go_simp
      have HB20 := mkHid (HBel.out.drew.alloc HBel.out.drew.size (.cells #[.int .u64 (p0 : Int), .int .u64 (q0 : Int)] 25))
      have fa20 := keeps HB20.out ca
      have fb20 := keeps HB20.out cb
      refine hK.out _ _ ?_ (fun hHeld => ?_)
      · ((try dsimp only); (try go_split_ands); refine ⟨?_, ?_⟩ <;> assumption)
      clear hK K
      try simp only [List.getElem_toArray, List.getElem_cons_succ, List.getElem_cons_zero, Act.put, List.setIfInBounds_toArray, List.set_cons_zero, List.set_cons_succ]
      refine wpAnyH_ready (rs := [2]) (by kernel_rfl) (by simp) ?_
      refine AllReadyH.cons rfl (fun K hK => ?_) AllReadyH.nil
      refine step_append_own rfl (.const (.slice none 0 0)) (.tmp 86) 46 rfl w.heap.size 25 i0 (.agg #[.int .u64 0, .int .u64 0]) 2 16 Try.underlying46 hi hz0 hz1 hz2 rfl (by decide) (.slice none 0 0) 0 [] rfl (World.ownsRow_nil _ _ _ _) ⟨b, off, none⟩ l.length _ (spanCells l) rfl (spanCells_length l) ((HA.out.below HB20.out).cells) (spanCells_one l) (by unfold maxLen; omega) (by omega) HB20.out.size ?_
      intro v21 w21 hown21 hgrow21 _
      rw [Nat.zero_add, List.nil_append] at hown21
      obtain ⟨g21, cp21, rfl, -, -⟩ := hown21.form h0
      have HB21 := mkHid (Below.grown HB20.out hgrow21 HB20.out.size (fun k e => by cases e))
      have O21 := mkHid hown21
      have fa21 := keeps HB21.out ca
      have fb21 := keeps HB21.out cb
      have nw21 := news_kept hgrow21 (cell_two_new w4.drew (.int .u64 (p0 : Int)) (.int .u64 (q0 : Int)) 25)
      refine hK.out _ _ ?_ (fun hHeld => ?_)
      · ((try dsimp only); (try go_split_ands); refine ⟨?_, ?_⟩ <;> assumption)
      clear hK K
      try simp only [List.getElem_toArray, List.getElem_cons_succ, List.getElem_cons_zero, Act.put, List.setIfInBounds_toArray, List.set_cons_zero, List.set_cons_succ]
      refine wpAnyH_ready (rs := [7]) (by kernel_rfl) (by simp) ?_
      refine AllReadyH.cons rfl (fun K hK => ?_) AllReadyH.nil
      refine step_append_own rfl (.tmp 87) (.tmp 91) 46 rfl w.heap.size 25 i0 (.agg #[.int .u64 0, .int .u64 0]) 2 16 Try.underlying46 hi hz0 hz1 hz2 rfl (by decide) (.slice (some ⟨g21, 0, none⟩) l.length cp21) l.length (spanCells l) rfl O21.out ⟨w4.heap.size, 0, none⟩ 1 1 [.int .u64 (p0 : Int), .int .u64 (q0 : Int)] rfl rfl nw21 (by simp [Value.oneCell']) (by unfold maxLen; omega) (by omega) HB21.out.size ?_
      intro v22 w22 hown22 hgrow22 _
      have HB22 := mkHid (Below.grown HB21.out hgrow22 HB21.out.size (fun k e => own_base (h := O21.out) k e))
      have hS22 : w22.ownsRow w.heap.size 25 2 v22 (l ++ [l.getD 0 (0, 0)]).length (spanCells (l ++ [l.getD 0 (0, 0)])) := by
        rw [List.length_append, spanCells_append, show spanCells [l.getD 0 (0, 0)] = [.int .u64 (p0 : Int), .int .u64 (q0 : Int)] by rw [← hp.out, ← hq.out]; rfl]
        exact hown22
      obtain ⟨A22, c22', rfl, -, S22⟩ := Spans.of_row hS22
      have SS22 := mkHid S22
      have fa22 := keeps HB22.out ca
      have fb22 := keeps HB22.out cb
      clear hown22 hgrow22 hS22 S22
      refine hK.out _ _ ?_ (fun hHeld => ?_)
      · ((try dsimp only); (try go_split_ands); refine ⟨?_, ?_⟩ <;> assumption)
      clear hK K
      try simp only [List.getElem_toArray, List.getElem_cons_succ, List.getElem_cons_zero, Act.put, List.setIfInBounds_toArray, List.set_cons_zero, List.set_cons_succ]
      refine wpAnyH_ready (rs := [8]) (by kernel_rfl) (by simp) ?_
      refine AllReadyH.cons rfl (fun K hK => ?_) AllReadyH.nil
      go_simp
      go_at_call 39
      with_reducible refine (HT2.out _ _ _ SS22.out).mono ?_
      (try go_split_ands)
      rintro e w23 ⟨rfl, hb23⟩
      have HB23 := mkHid (Below.step HB22.out hb23)
      have fa23 := keeps HB23.out ca
      have fb23 := keeps HB23.out cb
      clear hb23
      go_wp2_with fail
      refine hK.out _ _ ?_ (fun hHeld => ?_)
      · ((try dsimp only); (try go_split_ands); refine ⟨?_, ?_⟩ <;> assumption)
      clear hK K
      try simp only [List.getElem_toArray, List.getElem_cons_succ, List.getElem_cons_zero, Act.put, List.setIfInBounds_toArray, List.set_cons_zero, List.set_cons_succ]
      refine wpAnyH_take (i := 9) (v := ?_) rfl (by kernel_rfl) (by kernel_rfl) (by kernel_rfl) (fun _ _ _ h => h) (Or.inl ⟨by rfl, ?_⟩) hHeld ?_
      rotate_left
      · intro w hSw
        (try dsimp only at hSw)
        go_simp
        all_goals with_reducible rfl
      try simp only [List.getElem_toArray, List.getElem_cons_succ, List.getElem_cons_zero, Act.put, List.setIfInBounds_toArray, List.set_cons_zero, List.set_cons_succ]
      refine wpAnyH_take (i := 10) (v := ?_) rfl (by kernel_rfl) (by kernel_rfl) (by kernel_rfl) (fun _ _ _ h => h) (Or.inl ⟨by rfl, ?_⟩) hHeld ?_
      rotate_left
      · intro w hSw
        (try dsimp only at hSw)
        go_simp
        all_goals with_reducible rfl
      try simp only [List.getElem_toArray, List.getElem_cons_succ, List.getElem_cons_zero, Act.put, List.setIfInBounds_toArray, List.set_cons_zero, List.set_cons_succ]
      refine wpAnyH_take (i := 11) (v := ?_) rfl (by kernel_rfl) (by kernel_rfl) (by kernel_rfl) (fun _ _ _ h => h) (Or.inl ⟨by rfl, ?_⟩) hHeld ?_
      rotate_left
      · intro w hSw
        (try dsimp only at hSw)
        go_simp
        all_goals with_reducible rfl
      try simp only [List.getElem_toArray, List.getElem_cons_succ, List.getElem_cons_zero, Act.put, List.setIfInBounds_toArray, List.set_cons_zero, List.set_cons_succ]
      refine wpAnyH_take (i := 12) (v := ?_) rfl (by kernel_rfl) (by kernel_rfl) (by kernel_rfl) (fun _ _ _ h => h) (Or.inl ⟨by rfl, ?_⟩) hHeld ?_
      rotate_left
      · intro w hSw
        (try dsimp only at hSw)
        go_simp
        all_goals with_reducible rfl
      try simp only [List.getElem_toArray, List.getElem_cons_succ, List.getElem_cons_zero, Act.put, List.setIfInBounds_toArray, List.set_cons_zero, List.set_cons_succ]
      refine wpAnyH_take (i := 13) (v := ?_) rfl (by kernel_rfl) (by kernel_rfl) (by kernel_rfl) (fun _ _ _ h => h) (Or.inl ⟨by rfl, ?_⟩) hHeld ?_
      rotate_left
      · intro w hSw
        (try dsimp only at hSw)
        go_simp
        all_goals with_reducible rfl
      try simp only [List.getElem_toArray, List.getElem_cons_succ, List.getElem_cons_zero, Act.put, List.setIfInBounds_toArray, List.set_cons_zero, List.set_cons_succ]
      refine wpAnyH_done (by kernel_rfl) ?_ _
      go_wp2_with fail
      go_ret
      exact ⟨rfl, HB23.out⟩
    

theorem walk_LeafMany {w : World} (x : Int) (_hx : (Lit.int .i64 x).wf = true) (A : Option Addr) (l : List (Nat × Nat)) (cap : Nat) (hcap : l.length ≤ cap) (hcm : cap ≤ maxLen) (hA : Spans w A l) (y : Int) (_hy : (Lit.int .i64 y).wf = true) :
    Calls Try.prog 9 #[.int .i64 x, .slice A l.length cap, .int .i64 y] w fun e w' => e = .returned (.bool true) ∧ Below w.heap.size w w' := by
  have hcm' : cap ≤ 9223372036854775807 := by unfold maxLen at hcm; omega
  by_cases hl : l.length ≤ 60
  · by_cases hh : x < 1 ∨ 32 < x
    · exact lmany_bad A cap hl hh w
    · obtain ⟨h, rfl⟩ : ∃ k : Nat, x = (k : Int) := ⟨x.toNat, by omega⟩
      have h1 : 1 ≤ h := by omega
      have h2 : h ≤ 32 := by omega
      by_cases hM : MOk h l l.length
      · have hm : (Int.tmod y ((l.length : Int) + 1)).natAbs < l.length + 1 := by
          rw [Int.natAbs_tmod, show ((l.length : Int) + 1).natAbs = l.length + 1 by omega]
          exact Nat.mod_lt _ (by omega)
        generalize hc0 : Int.tmod y ((l.length : Int) + 1) = c0 at hm
        have e0 := Int.emod_nonneg (c0 + (l.length : Int) + 1) (show (l.length : Int) + 1 ≠ 0 by omega)
        have e1 := Int.emod_lt_of_pos (c0 + (l.length : Int) + 1) (show 0 < (l.length : Int) + 1 by omega)
        obtain ⟨c1, hc1⟩ : ∃ k : Nat, (c0 + (l.length : Int) + 1) % ((l.length : Int) + 1) = (k : Int) := ⟨_, (Int.toNat_of_nonneg e0).symm⟩
        rw [hc1] at e1
        have hle : c1 ≤ l.length := by omega
        have lt : (l.take c1).length = c1 := by rw [List.length_take]; omega
        have ld : (l.drop c1).length = l.length - c1 := List.length_drop
        have sd := sum_drop l c1 (l.length - c1)
        rw [show c1 + (l.length - c1) = l.length by omega, ← sum_take l c1 c1 (Nat.le_refl _)] at sd
        have sm := sum_small h2 hM
        have sg := sum_ge l l.length
        by_cases h0 : l.length = 0
        · exact lmany_empty A cap hl hcm' h1 h2 (mkHid hM) (mkHid rfl) (mkHid (by rw [lt])) (mkHid (by rw [ld])) (by omega) hc0 (by omega) (by omega) (by omega) hc1 hle sg h0 w hA
        · exact lmany_walk A cap hl hcap h1 h2 (mkHid hM) (mkHid rfl) (mkHid (by rw [lt])) (mkHid (by rw [ld])) (by omega) (by omega) (by omega) hc0 (by omega) (by omega) (by omega) hc1 hle sg (by omega) w hA
      · exact lmany_no A cap hl h1 h2 (mkHid hM) w hA
  · exact lmany_long A cap (by omega) w
end Go.Proofs.Ytkimbkcghmelgaa
