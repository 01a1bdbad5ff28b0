/- The walk of RollOrder: the Go text answers true and writes nothing that was there. -/
import Derived.Test.YtmehbonjpmlmfaaRollP
namespace Go.Proofs.Ytmehbonjpmlmfaa
open Go.RowKit Go.Proofs.YtmehbonjpmlmfaaW.PrintWords

/-- two with one more each, in whatever order -/
theorem order_roll {h room n : Int} {s : List Nat} {i k : Nat} {P Q : RollA} (hik : i ≠ k) (e : rollAdd h room s n i = (P, 0)) (f : rollAdd h room s n k = (Q, 0)) :
    P = ⟨h, room, P.s, n + 1⟩ ∧ Q = ⟨h, room, Q.s, n + 1⟩ ∧ P.s.length ≤ 1024 ∧ Q.s.length ≤ 1024 ∧ ∃ (V : RollA) (r : Int), rollAdd h room P.s (n + 1) k = (V, r) ∧ rollAdd h room Q.s (n + 1) i = (V, r) ∧
      ((r ≠ 0 ∧ V = ⟨0, 0, [], 0⟩ ∧ (r = 6 ∨ r = 9)) ∨ (r = 0 ∧ V = ⟨h, room, V.s, n + 1 + 1⟩ ∧ V.s.length ≤ 1024 ∧
        ((n + 1 + 1 = 1099511627776 ∧ rollDel h room V.s (n + 1 + 1) i = (⟨0, 0, [], 0⟩, 9)) ∨
         (rollDel h room V.s (n + 1 + 1) i = (⟨h, room, Q.s, n + 1 + 1 + 1⟩, 0) ∧ rollIs h room Q.s (n + 1 + 1 + 1) k = (true, 0) ∧ rollIs h room Q.s (n + 1 + 1 + 1) i = (false, 0))))) := by
  obtain ⟨q, G, hi, xi, hl, hn, rfl⟩ := add_ok e
  obtain ⟨q', G', hk, xk, _, _, rfl⟩ := add_ok f
  obtain rfl : q' = q := by have := G.eq; have := G'.eq; omega
  have GP := G.more hi xi hl hn
  have GQ := G.more hk xk hl hn
  have kP : k ∉ addL s i := fun c => by
    rcases mem_addL.1 c with c | c
    · exact hik c.symm
    · exact xk c
  have iQ : i ∉ addL s k := fun c => by
    rcases mem_addL.1 c with c | c
    · exact hik c
    · exact xi c
  have lP := addL_length G.set xi
  have lQ := addL_length G.set xk
  have eP := GP.add hk kP
  have eQ := GQ.add hi iQ
  rw [← add_add G.asc i k, lQ] at eQ
  rw [lP] at eP
  refine ⟨rfl, rfl, GP.short, GQ.short, ?_⟩
  by_cases c1 : ((s.length + 1 : Nat) : Int) = room
  · rw [if_pos c1] at eP eQ
    exact ⟨_, _, eP, eQ, .inl ⟨by decide, rfl, .inl rfl⟩⟩
  · rw [if_neg c1] at eP eQ
    by_cases c2 : n + 1 = 1099511627776
    · rw [if_pos c2] at eP eQ
      exact ⟨_, _, eP, eQ, .inl ⟨by decide, rfl, .inr rfl⟩⟩
    · rw [if_neg c2] at eP eQ
      have GV := GP.more hk kP (by rw [lP]; omega) (by omega)
      have iV : i ∈ addL (addL s i) k := mem_addL.2 (.inr (mem_addL.2 (.inl rfl)))
      have eD := GV.del hi iV
      have er : remL (addL (addL s i) k) i = addL s k := by
        rw [add_add G.asc i k, rem_add GQ.asc iQ]
      rw [er] at eD
      refine ⟨_, _, eP, eQ, .inr ⟨rfl, rfl, GV.short, ?_⟩⟩
      by_cases c3 : n + 1 + 1 = 1099511627776
      · rw [if_pos c3] at eD; exact .inl ⟨c3, eD⟩
      · rw [if_neg c3] at eD
        have GX := GV.less iV (by omega)
        rw [er] at GX
        refine .inr ⟨eD, ?_, ?_⟩
        · rw [GX.is hk, decide_eq_true (mem_addL.2 (.inl rfl))]
        · rw [GX.is hi, decide_eq_false iQ]

set_option maxRecDepth 100000 in
set_option maxHeartbeats 4000000 in
theorem rord_long {h room n : Int} {s : List Nat} {i k : Nat} (hf : Hid (fewB s = false))  (A : Option Addr) (c : Nat) (w : World) (hA : Reads w A s) :
    Calls Try.prog 6 #[.agg #[.int .i64 h, .int .i64 room, .slice A s.length c, .int .i64 n], .int .u64 (i : Int), .int .u64 (k : Int)] w fun e w' => e = .returned (.bool true) ∧ Below w.heap.size w w' := by
  skip
  have ZX : Hid (Blk (w.alloc (.cells #[.int .i64 (h), .int .i64 (room), .slice A s.length c, .int .i64 (n)] 25)) w.heap.size 25 #[.int .i64 h, .int .i64 room, .slice A s.length c, .int .i64 n]) := mkHid (Blk.new _ _ _)
  have KB : Hid (Below w.heap.size w (w.alloc (.cells #[.int .i64 (h), .int .i64 (room), .slice A s.length c, .int .i64 (n)] 25))) := mkHid ((Below.refl _ _).alloc (Nat.le_refl _) _)
  have HA := mkHid (hA.below ((Below.refl _ _).alloc (Nat.le_refl _) (.cells #[.int .i64 (h), .int .i64 (room), .slice A s.length c, .int .i64 (n)] 25)))
  clear hA
  have cZX := ZX.out.four
  have lZX := ZX.out.lt
  go_enter Try.func6, Try.ntmps6
  go_wp2_with fail
  refine (live18 _).mono ?_
  rintro e w1 ⟨rfl, hb1⟩
  replace ZX := mkHid (ZX.out.keep hb1)
  replace KB := mkHid (KB.out.step hb1)
  replace HA := mkHid (HA.out.below hb1)
  clear cZX lZX
  have cZX := ZX.out.four
  have lZX := ZX.out.lt
  clear hb1
  go_wp2_with fail
  refine (few_any hf _ _ _).mono ?_
  rintro e w2 ⟨rfl, hb2⟩
  replace ZX := mkHid (ZX.out.keep hb2)
  replace KB := mkHid (KB.out.step hb2)
  replace HA := mkHid (HA.out.below hb2)
  clear cZX lZX
  have cZX := ZX.out.four
  have lZX := ZX.out.lt
  clear hb2
  go_wp2_with fail
  go_ret
  exact ⟨rfl, KB.out⟩

set_option maxRecDepth 100000 in
set_option maxHeartbeats 4000000 in
theorem rord_same {h room n : Int} {s : List Nat} {i k : Nat} (hf : Hid (fewB s = true)) (hik : i = k)  (A : Option Addr) (c : Nat) (w : World) (hA : Reads w A s) :
    Calls Try.prog 6 #[.agg #[.int .i64 h, .int .i64 room, .slice A s.length c, .int .i64 n], .int .u64 (i : Int), .int .u64 (k : Int)] w fun e w' => e = .returned (.bool true) ∧ Below w.heap.size w w' := by
  have t8 : ((i : Int) == (k : Int)) = true := by rw [hik]; simp
  have t9 : (i == k) = true := by rw [hik]; simp
  clear hik
  have ZX : Hid (Blk (w.alloc (.cells #[.int .i64 (h), .int .i64 (room), .slice A s.length c, .int .i64 (n)] 25)) w.heap.size 25 #[.int .i64 h, .int .i64 room, .slice A s.length c, .int .i64 n]) := mkHid (Blk.new _ _ _)
  have KB : Hid (Below w.heap.size w (w.alloc (.cells #[.int .i64 (h), .int .i64 (room), .slice A s.length c, .int .i64 (n)] 25))) := mkHid ((Below.refl _ _).alloc (Nat.le_refl _) _)
  have HA := mkHid (hA.below ((Below.refl _ _).alloc (Nat.le_refl _) (.cells #[.int .i64 (h), .int .i64 (room), .slice A s.length c, .int .i64 (n)] 25)))
  clear hA
  have cZX := ZX.out.four
  have lZX := ZX.out.lt
  go_enter Try.func6, Try.ntmps6
  go_wp2_with fail
  refine (live18 _).mono ?_
  rintro e w1 ⟨rfl, hb1⟩
  replace ZX := mkHid (ZX.out.keep hb1)
  replace KB := mkHid (KB.out.step hb1)
  replace HA := mkHid (HA.out.below hb1)
  clear cZX lZX
  have cZX := ZX.out.four
  have lZX := ZX.out.lt
  clear hb1
  go_wp2_with fail
  refine (few_any hf _ _ _).mono ?_
  rintro e w2 ⟨rfl, hb2⟩
  replace ZX := mkHid (ZX.out.keep hb2)
  replace KB := mkHid (KB.out.step hb2)
  replace HA := mkHid (HA.out.below hb2)
  clear cZX lZX
  have cZX := ZX.out.four
  have lZX := ZX.out.lt
  clear hb2
  go_wp2_with fail
  go_ret
  exact ⟨rfl, KB.out⟩

set_option maxRecDepth 100000 in
set_option maxHeartbeats 4000000 in
theorem rord_e {h room n : Int} {s : List Nat} {i k : Nat} (hf : Hid (fewB s = true)) (hik : i ≠ k) {r : Int} (e1 : Hid (rollAdd h room s n i = (⟨0, 0, [], 0⟩, r))) (hr : r ≠ 0) {Q : RollA} {r2 : Int} (e2 : Hid (rollAdd h room s n k = (Q, r2)))  (A : Option Addr) (c : Nat) (w : World) (hA : Reads w A s) :
    Calls Try.prog 6 #[.agg #[.int .i64 h, .int .i64 room, .slice A s.length c, .int .i64 n], .int .u64 (i : Int), .int .u64 (k : Int)] w fun e w' => e = .returned (.bool true) ∧ Below w.heap.size w w' := by
  have t8 : ((i : Int) == (k : Int)) = false := beq_eq_false_iff_ne.2 (by omega)
  have t9 : (i == k) = false := beq_eq_false_iff_ne.2 hik
  clear hik
  have t0 : (r != (0 : Int)) = true := bne_iff_ne.2 hr
  have ZX : Hid (Blk (w.alloc (.cells #[.int .i64 (h), .int .i64 (room), .slice A s.length c, .int .i64 (n)] 25)) w.heap.size 25 #[.int .i64 h, .int .i64 room, .slice A s.length c, .int .i64 n]) := mkHid (Blk.new _ _ _)
  have KB : Hid (Below w.heap.size w (w.alloc (.cells #[.int .i64 (h), .int .i64 (room), .slice A s.length c, .int .i64 (n)] 25))) := mkHid ((Below.refl _ _).alloc (Nat.le_refl _) _)
  have HA := mkHid (hA.below ((Below.refl _ _).alloc (Nat.le_refl _) (.cells #[.int .i64 (h), .int .i64 (room), .slice A s.length c, .int .i64 (n)] 25)))
  clear hA
  have cZX := ZX.out.four
  have lZX := ZX.out.lt
  go_enter Try.func6, Try.ntmps6
  go_wp2_with fail
  refine (live18 _).mono ?_
  rintro e w1 ⟨rfl, hb1⟩
  replace ZX := mkHid (ZX.out.keep hb1)
  replace KB := mkHid (KB.out.step hb1)
  replace HA := mkHid (HA.out.below hb1)
  clear cZX lZX
  have cZX := ZX.out.four
  have lZX := ZX.out.lt
  clear hb1
  go_wp2_with fail
  refine (few_any hf _ _ _).mono ?_
  rintro e w2 ⟨rfl, hb2⟩
  replace ZX := mkHid (ZX.out.keep hb2)
  replace KB := mkHid (KB.out.step hb2)
  replace HA := mkHid (HA.out.below hb2)
  clear cZX lZX
  have cZX := ZX.out.four
  have lZX := ZX.out.lt
  clear hb2
  go_wp2_with fail
  refine (revoke_any e1 _ _ _ HA.out).mono ?_
  rintro e w3 ⟨v, rfl, ho, hb3⟩
  obtain ⟨va, vac, rfl, val, var, vam, vaz⟩ := Reads.of_rowOf ho
  clear ho var vam
  replace ZX := mkHid (ZX.out.keep hb3)
  replace KB := mkHid (KB.out.step hb3)
  replace HA := mkHid (HA.out.below hb3)
  clear cZX lZX
  have cZX := ZX.out.four
  have lZX := ZX.out.lt
  clear hb3
  have Sw3 : w.heap.size ≤ w3.heap.size := KB.out.size
  go_wp2_with fail
  replace ZX := mkHid (ZX.out.alloc (.cells #[.int .i64 (0), .int .i64 (0), .slice va 0 vac, .int .i64 (0)] 25))
  replace KB := mkHid (KB.out.alloc KB.out.size (.cells #[.int .i64 (0), .int .i64 (0), .slice va 0 vac, .int .i64 (0)] 25))
  replace HA := mkHid (HA.out.below ((Below.refl _ _).alloc (Nat.le_refl _) (.cells #[.int .i64 (0), .int .i64 (0), .slice va 0 vac, .int .i64 (0)] 25)))
  clear cZX lZX
  have cZX := ZX.out.four
  have lZX := ZX.out.lt
  have ZP : Hid (Blk (w3.alloc (.cells #[.int .i64 (0), .int .i64 (0), .slice va 0 vac, .int .i64 (0)] 25)) w3.heap.size 25 #[.int .i64 (0), .int .i64 (0), .slice va 0 vac, .int .i64 (0)]) := mkHid (Blk.new _ _ _)
  have cZP := ZP.out.four
  have lZP := ZP.out.lt
  refine (revoke_any e2 _ _ _ HA.out).mono ?_
  rintro e w4 ⟨v, rfl, ho, hb4⟩
  obtain ⟨vb, vbc, rfl, vbl, vbr, vbm, vbz⟩ := Reads.of_rowOf ho
  clear ho vbr vbm
  replace ZX := mkHid (ZX.out.keep hb4)
  replace KB := mkHid (KB.out.step hb4)
  replace HA := mkHid (HA.out.below hb4)
  replace ZP := mkHid (ZP.out.keep hb4)
  clear cZX lZX
  have cZX := ZX.out.four
  have lZX := ZX.out.lt
  clear cZP lZP
  have cZP := ZP.out.four
  have lZP := ZP.out.lt
  clear hb4
  have Sw4 : w.heap.size ≤ w4.heap.size := KB.out.size
  go_wp2_with fail
  replace ZX := mkHid (ZX.out.alloc (.cells #[.int .i64 (Q.h), .int .i64 (Q.room), .slice vb Q.s.length vbc, .int .i64 (Q.n)] 25))
  replace KB := mkHid (KB.out.alloc KB.out.size (.cells #[.int .i64 (Q.h), .int .i64 (Q.room), .slice vb Q.s.length vbc, .int .i64 (Q.n)] 25))
  replace HA := mkHid (HA.out.below ((Below.refl _ _).alloc (Nat.le_refl _) (.cells #[.int .i64 (Q.h), .int .i64 (Q.room), .slice vb Q.s.length vbc, .int .i64 (Q.n)] 25)))
  replace ZP := mkHid (ZP.out.alloc (.cells #[.int .i64 (Q.h), .int .i64 (Q.room), .slice vb Q.s.length vbc, .int .i64 (Q.n)] 25))
  clear cZX lZX
  have cZX := ZX.out.four
  have lZX := ZX.out.lt
  clear cZP lZP
  have cZP := ZP.out.four
  have lZP := ZP.out.lt
  have ZQ : Hid (Blk (w4.alloc (.cells #[.int .i64 (Q.h), .int .i64 (Q.room), .slice vb Q.s.length vbc, .int .i64 (Q.n)] 25)) w4.heap.size 25 #[.int .i64 (Q.h), .int .i64 (Q.room), .slice vb Q.s.length vbc, .int .i64 (Q.n)]) := mkHid (Blk.new _ _ _)
  have cZQ := ZQ.out.four
  have lZQ := ZQ.out.lt
  go_ret
  exact ⟨rfl, KB.out⟩

set_option maxRecDepth 100000 in
set_option maxHeartbeats 4000000 in
theorem rord_f {h room n : Int} {s : List Nat} {i k : Nat} (hf : Hid (fewB s = true)) (hik : i ≠ k) {P : List Nat} (e1 : Hid (rollAdd h room s n i = (⟨h, room, P, n + 1⟩, 0))) {r : Int} (e2 : Hid (rollAdd h room s n k = (⟨0, 0, [], 0⟩, r))) (hr : r ≠ 0)  (A : Option Addr) (c : Nat) (w : World) (hA : Reads w A s) :
    Calls Try.prog 6 #[.agg #[.int .i64 h, .int .i64 room, .slice A s.length c, .int .i64 n], .int .u64 (i : Int), .int .u64 (k : Int)] w fun e w' => e = .returned (.bool true) ∧ Below w.heap.size w w' := by
  have t8 : ((i : Int) == (k : Int)) = false := beq_eq_false_iff_ne.2 (by omega)
  have t9 : (i == k) = false := beq_eq_false_iff_ne.2 hik
  clear hik
  have t0 : (r != (0 : Int)) = true := bne_iff_ne.2 hr
  have ZX : Hid (Blk (w.alloc (.cells #[.int .i64 (h), .int .i64 (room), .slice A s.length c, .int .i64 (n)] 25)) w.heap.size 25 #[.int .i64 h, .int .i64 room, .slice A s.length c, .int .i64 n]) := mkHid (Blk.new _ _ _)
  have KB : Hid (Below w.heap.size w (w.alloc (.cells #[.int .i64 (h), .int .i64 (room), .slice A s.length c, .int .i64 (n)] 25))) := mkHid ((Below.refl _ _).alloc (Nat.le_refl _) _)
  have HA := mkHid (hA.below ((Below.refl _ _).alloc (Nat.le_refl _) (.cells #[.int .i64 (h), .int .i64 (room), .slice A s.length c, .int .i64 (n)] 25)))
  clear hA
  have cZX := ZX.out.four
  have lZX := ZX.out.lt
  go_enter Try.func6, Try.ntmps6
  go_wp2_with fail
  refine (live18 _).mono ?_
  rintro e w1 ⟨rfl, hb1⟩
  replace ZX := mkHid (ZX.out.keep hb1)
  replace KB := mkHid (KB.out.step hb1)
  replace HA := mkHid (HA.out.below hb1)
  clear cZX lZX
  have cZX := ZX.out.four
  have lZX := ZX.out.lt
  clear hb1
  go_wp2_with fail
  refine (few_any hf _ _ _).mono ?_
  rintro e w2 ⟨rfl, hb2⟩
  replace ZX := mkHid (ZX.out.keep hb2)
  replace KB := mkHid (KB.out.step hb2)
  replace HA := mkHid (HA.out.below hb2)
  clear cZX lZX
  have cZX := ZX.out.four
  have lZX := ZX.out.lt
  clear hb2
  go_wp2_with fail
  refine (revoke_any e1 _ _ _ HA.out).mono ?_
  rintro e w3 ⟨v, rfl, ho, hb3⟩
  obtain ⟨va, vac, rfl, val, var, vam, vaz⟩ := Reads.of_rowOf ho
  clear ho var vam
  replace ZX := mkHid (ZX.out.keep hb3)
  replace KB := mkHid (KB.out.step hb3)
  replace HA := mkHid (HA.out.below hb3)
  clear cZX lZX
  have cZX := ZX.out.four
  have lZX := ZX.out.lt
  clear hb3
  have Sw3 : w.heap.size ≤ w3.heap.size := KB.out.size
  go_wp2_with fail
  replace ZX := mkHid (ZX.out.alloc (.cells #[.int .i64 (h), .int .i64 (room), .slice va P.length vac, .int .i64 (n + 1)] 25))
  replace KB := mkHid (KB.out.alloc KB.out.size (.cells #[.int .i64 (h), .int .i64 (room), .slice va P.length vac, .int .i64 (n + 1)] 25))
  replace HA := mkHid (HA.out.below ((Below.refl _ _).alloc (Nat.le_refl _) (.cells #[.int .i64 (h), .int .i64 (room), .slice va P.length vac, .int .i64 (n + 1)] 25)))
  clear cZX lZX
  have cZX := ZX.out.four
  have lZX := ZX.out.lt
  have ZP : Hid (Blk (w3.alloc (.cells #[.int .i64 (h), .int .i64 (room), .slice va P.length vac, .int .i64 (n + 1)] 25)) w3.heap.size 25 #[.int .i64 (h), .int .i64 (room), .slice va P.length vac, .int .i64 (n + 1)]) := mkHid (Blk.new _ _ _)
  have cZP := ZP.out.four
  have lZP := ZP.out.lt
  refine (revoke_any e2 _ _ _ HA.out).mono ?_
  rintro e w4 ⟨v, rfl, ho, hb4⟩
  obtain ⟨vb, vbc, rfl, vbl, vbr, vbm, vbz⟩ := Reads.of_rowOf ho
  clear ho vbr vbm
  replace ZX := mkHid (ZX.out.keep hb4)
  replace KB := mkHid (KB.out.step hb4)
  replace HA := mkHid (HA.out.below hb4)
  replace ZP := mkHid (ZP.out.keep hb4)
  clear cZX lZX
  have cZX := ZX.out.four
  have lZX := ZX.out.lt
  clear cZP lZP
  have cZP := ZP.out.four
  have lZP := ZP.out.lt
  clear hb4
  have Sw4 : w.heap.size ≤ w4.heap.size := KB.out.size
  go_wp2_with fail
  replace ZX := mkHid (ZX.out.alloc (.cells #[.int .i64 (0), .int .i64 (0), .slice vb 0 vbc, .int .i64 (0)] 25))
  replace KB := mkHid (KB.out.alloc KB.out.size (.cells #[.int .i64 (0), .int .i64 (0), .slice vb 0 vbc, .int .i64 (0)] 25))
  replace HA := mkHid (HA.out.below ((Below.refl _ _).alloc (Nat.le_refl _) (.cells #[.int .i64 (0), .int .i64 (0), .slice vb 0 vbc, .int .i64 (0)] 25)))
  replace ZP := mkHid (ZP.out.alloc (.cells #[.int .i64 (0), .int .i64 (0), .slice vb 0 vbc, .int .i64 (0)] 25))
  clear cZX lZX
  have cZX := ZX.out.four
  have lZX := ZX.out.lt
  clear cZP lZP
  have cZP := ZP.out.four
  have lZP := ZP.out.lt
  have ZQ : Hid (Blk (w4.alloc (.cells #[.int .i64 (0), .int .i64 (0), .slice vb 0 vbc, .int .i64 (0)] 25)) w4.heap.size 25 #[.int .i64 (0), .int .i64 (0), .slice vb 0 vbc, .int .i64 (0)]) := mkHid (Blk.new _ _ _)
  have cZQ := ZQ.out.four
  have lZQ := ZQ.out.lt
  go_ret
  exact ⟨rfl, KB.out⟩

set_option maxRecDepth 100000 in
set_option maxHeartbeats 4000000 in
theorem rord_g6 {h room n : Int} {s : List Nat} {i k : Nat} (hf : Hid (fewB s = true)) (hik : i ≠ k) {P : List Nat} (e1 : Hid (rollAdd h room s n i = (⟨h, room, P, n + 1⟩, 0))) {Q : List Nat} (e2 : Hid (rollAdd h room s n k = (⟨h, room, Q, n + 1⟩, 0))) (e3 : Hid (rollAdd h room P (n + 1) k = (⟨0, 0, [], 0⟩, 6))) (e4 : Hid (rollAdd h room Q (n + 1) i = (⟨0, 0, [], 0⟩, 6)))  (A : Option Addr) (c : Nat) (w : World) (hA : Reads w A s) :
    Calls Try.prog 6 #[.agg #[.int .i64 h, .int .i64 room, .slice A s.length c, .int .i64 n], .int .u64 (i : Int), .int .u64 (k : Int)] w fun e w' => e = .returned (.bool true) ∧ Below w.heap.size w w' := by
  have t8 : ((i : Int) == (k : Int)) = false := beq_eq_false_iff_ne.2 (by omega)
  have t9 : (i == k) = false := beq_eq_false_iff_ne.2 hik
  clear hik
  have ZX : Hid (Blk (w.alloc (.cells #[.int .i64 (h), .int .i64 (room), .slice A s.length c, .int .i64 (n)] 25)) w.heap.size 25 #[.int .i64 h, .int .i64 room, .slice A s.length c, .int .i64 n]) := mkHid (Blk.new _ _ _)
  have KB : Hid (Below w.heap.size w (w.alloc (.cells #[.int .i64 (h), .int .i64 (room), .slice A s.length c, .int .i64 (n)] 25))) := mkHid ((Below.refl _ _).alloc (Nat.le_refl _) _)
  have HA := mkHid (hA.below ((Below.refl _ _).alloc (Nat.le_refl _) (.cells #[.int .i64 (h), .int .i64 (room), .slice A s.length c, .int .i64 (n)] 25)))
  clear hA
  have cZX := ZX.out.four
  have lZX := ZX.out.lt
  go_enter Try.func6, Try.ntmps6
  go_wp2_with fail
  refine (live18 _).mono ?_
  rintro e w1 ⟨rfl, hb1⟩
  replace ZX := mkHid (ZX.out.keep hb1)
  replace KB := mkHid (KB.out.step hb1)
  replace HA := mkHid (HA.out.below hb1)
  clear cZX lZX
  have cZX := ZX.out.four
  have lZX := ZX.out.lt
  clear hb1
  go_wp2_with fail
  refine (few_any hf _ _ _).mono ?_
  rintro e w2 ⟨rfl, hb2⟩
  replace ZX := mkHid (ZX.out.keep hb2)
  replace KB := mkHid (KB.out.step hb2)
  replace HA := mkHid (HA.out.below hb2)
  clear cZX lZX
  have cZX := ZX.out.four
  have lZX := ZX.out.lt
  clear hb2
  go_wp2_with fail
  refine (revoke_any e1 _ _ _ HA.out).mono ?_
  rintro e w3 ⟨v, rfl, ho, hb3⟩
  obtain ⟨va, vac, rfl, val, var, vam, vaz⟩ := Reads.of_rowOf ho
  have Hva := mkHid var
  clear ho var vam
  replace ZX := mkHid (ZX.out.keep hb3)
  replace KB := mkHid (KB.out.step hb3)
  replace HA := mkHid (HA.out.below hb3)
  clear cZX lZX
  have cZX := ZX.out.four
  have lZX := ZX.out.lt
  clear hb3
  have Sw3 : w.heap.size ≤ w3.heap.size := KB.out.size
  go_wp2_with fail
  replace ZX := mkHid (ZX.out.alloc (.cells #[.int .i64 (h), .int .i64 (room), .slice va P.length vac, .int .i64 (n + 1)] 25))
  replace KB := mkHid (KB.out.alloc KB.out.size (.cells #[.int .i64 (h), .int .i64 (room), .slice va P.length vac, .int .i64 (n + 1)] 25))
  replace HA := mkHid (HA.out.below ((Below.refl _ _).alloc (Nat.le_refl _) (.cells #[.int .i64 (h), .int .i64 (room), .slice va P.length vac, .int .i64 (n + 1)] 25)))
  replace Hva := mkHid (Hva.out.below ((Below.refl _ _).alloc (Nat.le_refl _) (.cells #[.int .i64 (h), .int .i64 (room), .slice va P.length vac, .int .i64 (n + 1)] 25)))
  clear cZX lZX
  have cZX := ZX.out.four
  have lZX := ZX.out.lt
  have ZP : Hid (Blk (w3.alloc (.cells #[.int .i64 (h), .int .i64 (room), .slice va P.length vac, .int .i64 (n + 1)] 25)) w3.heap.size 25 #[.int .i64 (h), .int .i64 (room), .slice va P.length vac, .int .i64 (n + 1)]) := mkHid (Blk.new _ _ _)
  have cZP := ZP.out.four
  have lZP := ZP.out.lt
  refine (revoke_any e2 _ _ _ HA.out).mono ?_
  rintro e w4 ⟨v, rfl, ho, hb4⟩
  obtain ⟨vb, vbc, rfl, vbl, vbr, vbm, vbz⟩ := Reads.of_rowOf ho
  have Hvb := mkHid vbr
  clear ho vbr vbm
  replace ZX := mkHid (ZX.out.keep hb4)
  replace KB := mkHid (KB.out.step hb4)
  replace HA := mkHid (HA.out.below hb4)
  replace Hva := mkHid (Hva.out.below hb4)
  replace ZP := mkHid (ZP.out.keep hb4)
  clear cZX lZX
  have cZX := ZX.out.four
  have lZX := ZX.out.lt
  clear cZP lZP
  have cZP := ZP.out.four
  have lZP := ZP.out.lt
  clear hb4
  have Sw4 : w.heap.size ≤ w4.heap.size := KB.out.size
  go_wp2_with fail
  replace ZX := mkHid (ZX.out.alloc (.cells #[.int .i64 (h), .int .i64 (room), .slice vb Q.length vbc, .int .i64 (n + 1)] 25))
  replace KB := mkHid (KB.out.alloc KB.out.size (.cells #[.int .i64 (h), .int .i64 (room), .slice vb Q.length vbc, .int .i64 (n + 1)] 25))
  replace HA := mkHid (HA.out.below ((Below.refl _ _).alloc (Nat.le_refl _) (.cells #[.int .i64 (h), .int .i64 (room), .slice vb Q.length vbc, .int .i64 (n + 1)] 25)))
  replace Hva := mkHid (Hva.out.below ((Below.refl _ _).alloc (Nat.le_refl _) (.cells #[.int .i64 (h), .int .i64 (room), .slice vb Q.length vbc, .int .i64 (n + 1)] 25)))
  replace ZP := mkHid (ZP.out.alloc (.cells #[.int .i64 (h), .int .i64 (room), .slice vb Q.length vbc, .int .i64 (n + 1)] 25))
  replace Hvb := mkHid (Hvb.out.below ((Below.refl _ _).alloc (Nat.le_refl _) (.cells #[.int .i64 (h), .int .i64 (room), .slice vb Q.length vbc, .int .i64 (n + 1)] 25)))
  clear cZX lZX
  have cZX := ZX.out.four
  have lZX := ZX.out.lt
  clear cZP lZP
  have cZP := ZP.out.four
  have lZP := ZP.out.lt
  have ZQ : Hid (Blk (w4.alloc (.cells #[.int .i64 (h), .int .i64 (room), .slice vb Q.length vbc, .int .i64 (n + 1)] 25)) w4.heap.size 25 #[.int .i64 (h), .int .i64 (room), .slice vb Q.length vbc, .int .i64 (n + 1)]) := mkHid (Blk.new _ _ _)
  have cZQ := ZQ.out.four
  have lZQ := ZQ.out.lt
  refine (revoke_any e3 _ _ _ Hva.out).mono ?_
  rintro e w5 ⟨v, rfl, ho, hb5⟩
  obtain ⟨vc, vcc, rfl, vcl, vcr, vcm, vcz⟩ := Reads.of_rowOf ho
  clear ho vcr vcm
  replace ZX := mkHid (ZX.out.keep hb5)
  replace KB := mkHid (KB.out.step hb5)
  replace HA := mkHid (HA.out.below hb5)
  replace Hva := mkHid (Hva.out.below hb5)
  replace ZP := mkHid (ZP.out.keep hb5)
  replace Hvb := mkHid (Hvb.out.below hb5)
  replace ZQ := mkHid (ZQ.out.keep hb5)
  clear cZX lZX
  have cZX := ZX.out.four
  have lZX := ZX.out.lt
  clear cZP lZP
  have cZP := ZP.out.four
  have lZP := ZP.out.lt
  clear cZQ lZQ
  have cZQ := ZQ.out.four
  have lZQ := ZQ.out.lt
  clear hb5
  have Sw5 : w.heap.size ≤ w5.heap.size := KB.out.size
  go_wp2_with fail
  replace ZX := mkHid (ZX.out.alloc (.cells #[.int .i64 (0), .int .i64 (0), .slice vc 0 vcc, .int .i64 (0)] 25))
  replace KB := mkHid (KB.out.alloc KB.out.size (.cells #[.int .i64 (0), .int .i64 (0), .slice vc 0 vcc, .int .i64 (0)] 25))
  replace HA := mkHid (HA.out.below ((Below.refl _ _).alloc (Nat.le_refl _) (.cells #[.int .i64 (0), .int .i64 (0), .slice vc 0 vcc, .int .i64 (0)] 25)))
  replace Hva := mkHid (Hva.out.below ((Below.refl _ _).alloc (Nat.le_refl _) (.cells #[.int .i64 (0), .int .i64 (0), .slice vc 0 vcc, .int .i64 (0)] 25)))
  replace ZP := mkHid (ZP.out.alloc (.cells #[.int .i64 (0), .int .i64 (0), .slice vc 0 vcc, .int .i64 (0)] 25))
  replace Hvb := mkHid (Hvb.out.below ((Below.refl _ _).alloc (Nat.le_refl _) (.cells #[.int .i64 (0), .int .i64 (0), .slice vc 0 vcc, .int .i64 (0)] 25)))
  replace ZQ := mkHid (ZQ.out.alloc (.cells #[.int .i64 (0), .int .i64 (0), .slice vc 0 vcc, .int .i64 (0)] 25))
  clear cZX lZX
  have cZX := ZX.out.four
  have lZX := ZX.out.lt
  clear cZP lZP
  have cZP := ZP.out.four
  have lZP := ZP.out.lt
  clear cZQ lZQ
  have cZQ := ZQ.out.four
  have lZQ := ZQ.out.lt
  have ZV : Hid (Blk (w5.alloc (.cells #[.int .i64 (0), .int .i64 (0), .slice vc 0 vcc, .int .i64 (0)] 25)) w5.heap.size 25 #[.int .i64 (0), .int .i64 (0), .slice vc 0 vcc, .int .i64 (0)]) := mkHid (Blk.new _ _ _)
  have cZV := ZV.out.four
  have lZV := ZV.out.lt
  refine (revoke_any e4 _ _ _ Hvb.out).mono ?_
  rintro e w6 ⟨v, rfl, ho, hb6⟩
  obtain ⟨vd, vdc, rfl, vdl, vdr, vdm, vdz⟩ := Reads.of_rowOf ho
  clear ho vdr vdm
  replace ZX := mkHid (ZX.out.keep hb6)
  replace KB := mkHid (KB.out.step hb6)
  replace HA := mkHid (HA.out.below hb6)
  replace Hva := mkHid (Hva.out.below hb6)
  replace ZP := mkHid (ZP.out.keep hb6)
  replace Hvb := mkHid (Hvb.out.below hb6)
  replace ZQ := mkHid (ZQ.out.keep hb6)
  replace ZV := mkHid (ZV.out.keep hb6)
  clear cZX lZX
  have cZX := ZX.out.four
  have lZX := ZX.out.lt
  clear cZP lZP
  have cZP := ZP.out.four
  have lZP := ZP.out.lt
  clear cZQ lZQ
  have cZQ := ZQ.out.four
  have lZQ := ZQ.out.lt
  clear cZV lZV
  have cZV := ZV.out.four
  have lZV := ZV.out.lt
  clear hb6
  have Sw6 : w.heap.size ≤ w6.heap.size := KB.out.size
  go_wp2_with fail
  replace ZX := mkHid (ZX.out.alloc (.cells #[.int .i64 (0), .int .i64 (0), .slice vd 0 vdc, .int .i64 (0)] 25))
  replace KB := mkHid (KB.out.alloc KB.out.size (.cells #[.int .i64 (0), .int .i64 (0), .slice vd 0 vdc, .int .i64 (0)] 25))
  replace HA := mkHid (HA.out.below ((Below.refl _ _).alloc (Nat.le_refl _) (.cells #[.int .i64 (0), .int .i64 (0), .slice vd 0 vdc, .int .i64 (0)] 25)))
  replace Hva := mkHid (Hva.out.below ((Below.refl _ _).alloc (Nat.le_refl _) (.cells #[.int .i64 (0), .int .i64 (0), .slice vd 0 vdc, .int .i64 (0)] 25)))
  replace ZP := mkHid (ZP.out.alloc (.cells #[.int .i64 (0), .int .i64 (0), .slice vd 0 vdc, .int .i64 (0)] 25))
  replace Hvb := mkHid (Hvb.out.below ((Below.refl _ _).alloc (Nat.le_refl _) (.cells #[.int .i64 (0), .int .i64 (0), .slice vd 0 vdc, .int .i64 (0)] 25)))
  replace ZQ := mkHid (ZQ.out.alloc (.cells #[.int .i64 (0), .int .i64 (0), .slice vd 0 vdc, .int .i64 (0)] 25))
  replace ZV := mkHid (ZV.out.alloc (.cells #[.int .i64 (0), .int .i64 (0), .slice vd 0 vdc, .int .i64 (0)] 25))
  clear cZX lZX
  have cZX := ZX.out.four
  have lZX := ZX.out.lt
  clear cZP lZP
  have cZP := ZP.out.four
  have lZP := ZP.out.lt
  clear cZQ lZQ
  have cZQ := ZQ.out.four
  have lZQ := ZQ.out.lt
  clear cZV lZV
  have cZV := ZV.out.four
  have lZV := ZV.out.lt
  have ZU : Hid (Blk (w6.alloc (.cells #[.int .i64 (0), .int .i64 (0), .slice vd 0 vdc, .int .i64 (0)] 25)) w6.heap.size 25 #[.int .i64 (0), .int .i64 (0), .slice vd 0 vdc, .int .i64 (0)]) := mkHid (Blk.new _ _ _)
  have cZU := ZU.out.four
  have lZU := ZU.out.lt
  go_ret
  exact ⟨rfl, KB.out⟩

set_option maxRecDepth 100000 in
set_option maxHeartbeats 4000000 in
theorem rord_g9 {h room n : Int} {s : List Nat} {i k : Nat} (hf : Hid (fewB s = true)) (hik : i ≠ k) {P : List Nat} (e1 : Hid (rollAdd h room s n i = (⟨h, room, P, n + 1⟩, 0))) {Q : List Nat} (e2 : Hid (rollAdd h room s n k = (⟨h, room, Q, n + 1⟩, 0))) (e3 : Hid (rollAdd h room P (n + 1) k = (⟨0, 0, [], 0⟩, 9))) (e4 : Hid (rollAdd h room Q (n + 1) i = (⟨0, 0, [], 0⟩, 9)))  (A : Option Addr) (c : Nat) (w : World) (hA : Reads w A s) :
    Calls Try.prog 6 #[.agg #[.int .i64 h, .int .i64 room, .slice A s.length c, .int .i64 n], .int .u64 (i : Int), .int .u64 (k : Int)] w fun e w' => e = .returned (.bool true) ∧ Below w.heap.size w w' := by
  have t8 : ((i : Int) == (k : Int)) = false := beq_eq_false_iff_ne.2 (by omega)
  have t9 : (i == k) = false := beq_eq_false_iff_ne.2 hik
  clear hik
  have ZX : Hid (Blk (w.alloc (.cells #[.int .i64 (h), .int .i64 (room), .slice A s.length c, .int .i64 (n)] 25)) w.heap.size 25 #[.int .i64 h, .int .i64 room, .slice A s.length c, .int .i64 n]) := mkHid (Blk.new _ _ _)
  have KB : Hid (Below w.heap.size w (w.alloc (.cells #[.int .i64 (h), .int .i64 (room), .slice A s.length c, .int .i64 (n)] 25))) := mkHid ((Below.refl _ _).alloc (Nat.le_refl _) _)
  have HA := mkHid (hA.below ((Below.refl _ _).alloc (Nat.le_refl _) (.cells #[.int .i64 (h), .int .i64 (room), .slice A s.length c, .int .i64 (n)] 25)))
  clear hA
  have cZX := ZX.out.four
  have lZX := ZX.out.lt
  go_enter Try.func6, Try.ntmps6
  go_wp2_with fail
  refine (live18 _).mono ?_
  rintro e w1 ⟨rfl, hb1⟩
  replace ZX := mkHid (ZX.out.keep hb1)
  replace KB := mkHid (KB.out.step hb1)
  replace HA := mkHid (HA.out.below hb1)
  clear cZX lZX
  have cZX := ZX.out.four
  have lZX := ZX.out.lt
  clear hb1
  go_wp2_with fail
  refine (few_any hf _ _ _).mono ?_
  rintro e w2 ⟨rfl, hb2⟩
  replace ZX := mkHid (ZX.out.keep hb2)
  replace KB := mkHid (KB.out.step hb2)
  replace HA := mkHid (HA.out.below hb2)
  clear cZX lZX
  have cZX := ZX.out.four
  have lZX := ZX.out.lt
  clear hb2
  go_wp2_with fail
  refine (revoke_any e1 _ _ _ HA.out).mono ?_
  rintro e w3 ⟨v, rfl, ho, hb3⟩
  obtain ⟨va, vac, rfl, val, var, vam, vaz⟩ := Reads.of_rowOf ho
  have Hva := mkHid var
  clear ho var vam
  replace ZX := mkHid (ZX.out.keep hb3)
  replace KB := mkHid (KB.out.step hb3)
  replace HA := mkHid (HA.out.below hb3)
  clear cZX lZX
  have cZX := ZX.out.four
  have lZX := ZX.out.lt
  clear hb3
  have Sw3 : w.heap.size ≤ w3.heap.size := KB.out.size
  go_wp2_with fail
  replace ZX := mkHid (ZX.out.alloc (.cells #[.int .i64 (h), .int .i64 (room), .slice va P.length vac, .int .i64 (n + 1)] 25))
  replace KB := mkHid (KB.out.alloc KB.out.size (.cells #[.int .i64 (h), .int .i64 (room), .slice va P.length vac, .int .i64 (n + 1)] 25))
  replace HA := mkHid (HA.out.below ((Below.refl _ _).alloc (Nat.le_refl _) (.cells #[.int .i64 (h), .int .i64 (room), .slice va P.length vac, .int .i64 (n + 1)] 25)))
  replace Hva := mkHid (Hva.out.below ((Below.refl _ _).alloc (Nat.le_refl _) (.cells #[.int .i64 (h), .int .i64 (room), .slice va P.length vac, .int .i64 (n + 1)] 25)))
  clear cZX lZX
  have cZX := ZX.out.four
  have lZX := ZX.out.lt
  have ZP : Hid (Blk (w3.alloc (.cells #[.int .i64 (h), .int .i64 (room), .slice va P.length vac, .int .i64 (n + 1)] 25)) w3.heap.size 25 #[.int .i64 (h), .int .i64 (room), .slice va P.length vac, .int .i64 (n + 1)]) := mkHid (Blk.new _ _ _)
  have cZP := ZP.out.four
  have lZP := ZP.out.lt
  refine (revoke_any e2 _ _ _ HA.out).mono ?_
  rintro e w4 ⟨v, rfl, ho, hb4⟩
  obtain ⟨vb, vbc, rfl, vbl, vbr, vbm, vbz⟩ := Reads.of_rowOf ho
  have Hvb := mkHid vbr
  clear ho vbr vbm
  replace ZX := mkHid (ZX.out.keep hb4)
  replace KB := mkHid (KB.out.step hb4)
  replace HA := mkHid (HA.out.below hb4)
  replace Hva := mkHid (Hva.out.below hb4)
  replace ZP := mkHid (ZP.out.keep hb4)
  clear cZX lZX
  have cZX := ZX.out.four
  have lZX := ZX.out.lt
  clear cZP lZP
  have cZP := ZP.out.four
  have lZP := ZP.out.lt
  clear hb4
  have Sw4 : w.heap.size ≤ w4.heap.size := KB.out.size
  go_wp2_with fail
  replace ZX := mkHid (ZX.out.alloc (.cells #[.int .i64 (h), .int .i64 (room), .slice vb Q.length vbc, .int .i64 (n + 1)] 25))
  replace KB := mkHid (KB.out.alloc KB.out.size (.cells #[.int .i64 (h), .int .i64 (room), .slice vb Q.length vbc, .int .i64 (n + 1)] 25))
  replace HA := mkHid (HA.out.below ((Below.refl _ _).alloc (Nat.le_refl _) (.cells #[.int .i64 (h), .int .i64 (room), .slice vb Q.length vbc, .int .i64 (n + 1)] 25)))
  replace Hva := mkHid (Hva.out.below ((Below.refl _ _).alloc (Nat.le_refl _) (.cells #[.int .i64 (h), .int .i64 (room), .slice vb Q.length vbc, .int .i64 (n + 1)] 25)))
  replace ZP := mkHid (ZP.out.alloc (.cells #[.int .i64 (h), .int .i64 (room), .slice vb Q.length vbc, .int .i64 (n + 1)] 25))
  replace Hvb := mkHid (Hvb.out.below ((Below.refl _ _).alloc (Nat.le_refl _) (.cells #[.int .i64 (h), .int .i64 (room), .slice vb Q.length vbc, .int .i64 (n + 1)] 25)))
  clear cZX lZX
  have cZX := ZX.out.four
  have lZX := ZX.out.lt
  clear cZP lZP
  have cZP := ZP.out.four
  have lZP := ZP.out.lt
  have ZQ : Hid (Blk (w4.alloc (.cells #[.int .i64 (h), .int .i64 (room), .slice vb Q.length vbc, .int .i64 (n + 1)] 25)) w4.heap.size 25 #[.int .i64 (h), .int .i64 (room), .slice vb Q.length vbc, .int .i64 (n + 1)]) := mkHid (Blk.new _ _ _)
  have cZQ := ZQ.out.four
  have lZQ := ZQ.out.lt
  refine (revoke_any e3 _ _ _ Hva.out).mono ?_
  rintro e w5 ⟨v, rfl, ho, hb5⟩
  obtain ⟨vc, vcc, rfl, vcl, vcr, vcm, vcz⟩ := Reads.of_rowOf ho
  clear ho vcr vcm
  replace ZX := mkHid (ZX.out.keep hb5)
  replace KB := mkHid (KB.out.step hb5)
  replace HA := mkHid (HA.out.below hb5)
  replace Hva := mkHid (Hva.out.below hb5)
  replace ZP := mkHid (ZP.out.keep hb5)
  replace Hvb := mkHid (Hvb.out.below hb5)
  replace ZQ := mkHid (ZQ.out.keep hb5)
  clear cZX lZX
  have cZX := ZX.out.four
  have lZX := ZX.out.lt
  clear cZP lZP
  have cZP := ZP.out.four
  have lZP := ZP.out.lt
  clear cZQ lZQ
  have cZQ := ZQ.out.four
  have lZQ := ZQ.out.lt
  clear hb5
  have Sw5 : w.heap.size ≤ w5.heap.size := KB.out.size
  go_wp2_with fail
  replace ZX := mkHid (ZX.out.alloc (.cells #[.int .i64 (0), .int .i64 (0), .slice vc 0 vcc, .int .i64 (0)] 25))
  replace KB := mkHid (KB.out.alloc KB.out.size (.cells #[.int .i64 (0), .int .i64 (0), .slice vc 0 vcc, .int .i64 (0)] 25))
  replace HA := mkHid (HA.out.below ((Below.refl _ _).alloc (Nat.le_refl _) (.cells #[.int .i64 (0), .int .i64 (0), .slice vc 0 vcc, .int .i64 (0)] 25)))
  replace Hva := mkHid (Hva.out.below ((Below.refl _ _).alloc (Nat.le_refl _) (.cells #[.int .i64 (0), .int .i64 (0), .slice vc 0 vcc, .int .i64 (0)] 25)))
  replace ZP := mkHid (ZP.out.alloc (.cells #[.int .i64 (0), .int .i64 (0), .slice vc 0 vcc, .int .i64 (0)] 25))
  replace Hvb := mkHid (Hvb.out.below ((Below.refl _ _).alloc (Nat.le_refl _) (.cells #[.int .i64 (0), .int .i64 (0), .slice vc 0 vcc, .int .i64 (0)] 25)))
  replace ZQ := mkHid (ZQ.out.alloc (.cells #[.int .i64 (0), .int .i64 (0), .slice vc 0 vcc, .int .i64 (0)] 25))
  clear cZX lZX
  have cZX := ZX.out.four
  have lZX := ZX.out.lt
  clear cZP lZP
  have cZP := ZP.out.four
  have lZP := ZP.out.lt
  clear cZQ lZQ
  have cZQ := ZQ.out.four
  have lZQ := ZQ.out.lt
  have ZV : Hid (Blk (w5.alloc (.cells #[.int .i64 (0), .int .i64 (0), .slice vc 0 vcc, .int .i64 (0)] 25)) w5.heap.size 25 #[.int .i64 (0), .int .i64 (0), .slice vc 0 vcc, .int .i64 (0)]) := mkHid (Blk.new _ _ _)
  have cZV := ZV.out.four
  have lZV := ZV.out.lt
  refine (revoke_any e4 _ _ _ Hvb.out).mono ?_
  rintro e w6 ⟨v, rfl, ho, hb6⟩
  obtain ⟨vd, vdc, rfl, vdl, vdr, vdm, vdz⟩ := Reads.of_rowOf ho
  clear ho vdr vdm
  replace ZX := mkHid (ZX.out.keep hb6)
  replace KB := mkHid (KB.out.step hb6)
  replace HA := mkHid (HA.out.below hb6)
  replace Hva := mkHid (Hva.out.below hb6)
  replace ZP := mkHid (ZP.out.keep hb6)
  replace Hvb := mkHid (Hvb.out.below hb6)
  replace ZQ := mkHid (ZQ.out.keep hb6)
  replace ZV := mkHid (ZV.out.keep hb6)
  clear cZX lZX
  have cZX := ZX.out.four
  have lZX := ZX.out.lt
  clear cZP lZP
  have cZP := ZP.out.four
  have lZP := ZP.out.lt
  clear cZQ lZQ
  have cZQ := ZQ.out.four
  have lZQ := ZQ.out.lt
  clear cZV lZV
  have cZV := ZV.out.four
  have lZV := ZV.out.lt
  clear hb6
  have Sw6 : w.heap.size ≤ w6.heap.size := KB.out.size
  go_wp2_with fail
  replace ZX := mkHid (ZX.out.alloc (.cells #[.int .i64 (0), .int .i64 (0), .slice vd 0 vdc, .int .i64 (0)] 25))
  replace KB := mkHid (KB.out.alloc KB.out.size (.cells #[.int .i64 (0), .int .i64 (0), .slice vd 0 vdc, .int .i64 (0)] 25))
  replace HA := mkHid (HA.out.below ((Below.refl _ _).alloc (Nat.le_refl _) (.cells #[.int .i64 (0), .int .i64 (0), .slice vd 0 vdc, .int .i64 (0)] 25)))
  replace Hva := mkHid (Hva.out.below ((Below.refl _ _).alloc (Nat.le_refl _) (.cells #[.int .i64 (0), .int .i64 (0), .slice vd 0 vdc, .int .i64 (0)] 25)))
  replace ZP := mkHid (ZP.out.alloc (.cells #[.int .i64 (0), .int .i64 (0), .slice vd 0 vdc, .int .i64 (0)] 25))
  replace Hvb := mkHid (Hvb.out.below ((Below.refl _ _).alloc (Nat.le_refl _) (.cells #[.int .i64 (0), .int .i64 (0), .slice vd 0 vdc, .int .i64 (0)] 25)))
  replace ZQ := mkHid (ZQ.out.alloc (.cells #[.int .i64 (0), .int .i64 (0), .slice vd 0 vdc, .int .i64 (0)] 25))
  replace ZV := mkHid (ZV.out.alloc (.cells #[.int .i64 (0), .int .i64 (0), .slice vd 0 vdc, .int .i64 (0)] 25))
  clear cZX lZX
  have cZX := ZX.out.four
  have lZX := ZX.out.lt
  clear cZP lZP
  have cZP := ZP.out.four
  have lZP := ZP.out.lt
  clear cZQ lZQ
  have cZQ := ZQ.out.four
  have lZQ := ZQ.out.lt
  clear cZV lZV
  have cZV := ZV.out.four
  have lZV := ZV.out.lt
  have ZU : Hid (Blk (w6.alloc (.cells #[.int .i64 (0), .int .i64 (0), .slice vd 0 vdc, .int .i64 (0)] 25)) w6.heap.size 25 #[.int .i64 (0), .int .i64 (0), .slice vd 0 vdc, .int .i64 (0)]) := mkHid (Blk.new _ _ _)
  have cZU := ZU.out.four
  have lZU := ZU.out.lt
  go_ret
  exact ⟨rfl, KB.out⟩

set_option maxRecDepth 100000 in
set_option maxHeartbeats 4000000 in
theorem rord_over {h room n : Int} {s : List Nat} {i k : Nat} (hf : Hid (fewB s = true)) (hik : i ≠ k) {P : List Nat} (e1 : Hid (rollAdd h room s n i = (⟨h, room, P, n + 1⟩, 0))) {Q : List Nat} (e2 : Hid (rollAdd h room s n k = (⟨h, room, Q, n + 1⟩, 0))) {V : List Nat} (e3 : Hid (rollAdd h room P (n + 1) k = (⟨h, room, V, n + 1 + 1⟩, 0))) (e4 : Hid (rollAdd h room Q (n + 1) i = (⟨h, room, V, n + 1 + 1⟩, 0))) (hl : V.length ≤ 1024) (hq : Q.length ≤ 1024) (e5 : Hid (rollDel h room V (n + 1 + 1) i = (⟨0, 0, [], 0⟩, 9)))  (A : Option Addr) (c : Nat) (w : World) (hA : Reads w A s) :
    Calls Try.prog 6 #[.agg #[.int .i64 h, .int .i64 room, .slice A s.length c, .int .i64 n], .int .u64 (i : Int), .int .u64 (k : Int)] w fun e w' => e = .returned (.bool true) ∧ Below w.heap.size w w' := by
  have t8 : ((i : Int) == (k : Int)) = false := beq_eq_false_iff_ne.2 (by omega)
  have t9 : (i == k) = false := beq_eq_false_iff_ne.2 hik
  clear hik
  have hl4 : V.length < 4611686018427387904 := by omega
  have hq4 : Q.length < 4611686018427387904 := by omega
  clear hl hq
  have ZX : Hid (Blk (w.alloc (.cells #[.int .i64 (h), .int .i64 (room), .slice A s.length c, .int .i64 (n)] 25)) w.heap.size 25 #[.int .i64 h, .int .i64 room, .slice A s.length c, .int .i64 n]) := mkHid (Blk.new _ _ _)
  have KB : Hid (Below w.heap.size w (w.alloc (.cells #[.int .i64 (h), .int .i64 (room), .slice A s.length c, .int .i64 (n)] 25))) := mkHid ((Below.refl _ _).alloc (Nat.le_refl _) _)
  have HA := mkHid (hA.below ((Below.refl _ _).alloc (Nat.le_refl _) (.cells #[.int .i64 (h), .int .i64 (room), .slice A s.length c, .int .i64 (n)] 25)))
  clear hA
  have cZX := ZX.out.four
  have lZX := ZX.out.lt
  go_enter Try.func6, Try.ntmps6
  go_wp2_with fail
  refine (live18 _).mono ?_
  rintro e w1 ⟨rfl, hb1⟩
  replace ZX := mkHid (ZX.out.keep hb1)
  replace KB := mkHid (KB.out.step hb1)
  replace HA := mkHid (HA.out.below hb1)
  clear cZX lZX
  have cZX := ZX.out.four
  have lZX := ZX.out.lt
  clear hb1
  go_wp2_with fail
  refine (few_any hf _ _ _).mono ?_
  rintro e w2 ⟨rfl, hb2⟩
  replace ZX := mkHid (ZX.out.keep hb2)
  replace KB := mkHid (KB.out.step hb2)
  replace HA := mkHid (HA.out.below hb2)
  clear cZX lZX
  have cZX := ZX.out.four
  have lZX := ZX.out.lt
  clear hb2
  go_wp2_with fail
  refine (revoke_any e1 _ _ _ HA.out).mono ?_
  rintro e w3 ⟨v, rfl, ho, hb3⟩
  obtain ⟨va, vac, rfl, val, var, vam, vaz⟩ := Reads.of_rowOf ho
  have Hva := mkHid var
  clear ho var vam
  replace ZX := mkHid (ZX.out.keep hb3)
  replace KB := mkHid (KB.out.step hb3)
  replace HA := mkHid (HA.out.below hb3)
  clear cZX lZX
  have cZX := ZX.out.four
  have lZX := ZX.out.lt
  clear hb3
  have Sw3 : w.heap.size ≤ w3.heap.size := KB.out.size
  go_wp2_with fail
  replace ZX := mkHid (ZX.out.alloc (.cells #[.int .i64 (h), .int .i64 (room), .slice va P.length vac, .int .i64 (n + 1)] 25))
  replace KB := mkHid (KB.out.alloc KB.out.size (.cells #[.int .i64 (h), .int .i64 (room), .slice va P.length vac, .int .i64 (n + 1)] 25))
  replace HA := mkHid (HA.out.below ((Below.refl _ _).alloc (Nat.le_refl _) (.cells #[.int .i64 (h), .int .i64 (room), .slice va P.length vac, .int .i64 (n + 1)] 25)))
  replace Hva := mkHid (Hva.out.below ((Below.refl _ _).alloc (Nat.le_refl _) (.cells #[.int .i64 (h), .int .i64 (room), .slice va P.length vac, .int .i64 (n + 1)] 25)))
  clear cZX lZX
  have cZX := ZX.out.four
  have lZX := ZX.out.lt
  have ZP : Hid (Blk (w3.alloc (.cells #[.int .i64 (h), .int .i64 (room), .slice va P.length vac, .int .i64 (n + 1)] 25)) w3.heap.size 25 #[.int .i64 (h), .int .i64 (room), .slice va P.length vac, .int .i64 (n + 1)]) := mkHid (Blk.new _ _ _)
  have cZP := ZP.out.four
  have lZP := ZP.out.lt
  refine (revoke_any e2 _ _ _ HA.out).mono ?_
  rintro e w4 ⟨v, rfl, ho, hb4⟩
  obtain ⟨vb, vbc, rfl, vbl, vbr, vbm, vbz⟩ := Reads.of_rowOf ho
  have Hvb := mkHid vbr
  clear ho vbr vbm
  replace ZX := mkHid (ZX.out.keep hb4)
  replace KB := mkHid (KB.out.step hb4)
  replace HA := mkHid (HA.out.below hb4)
  replace Hva := mkHid (Hva.out.below hb4)
  replace ZP := mkHid (ZP.out.keep hb4)
  clear cZX lZX
  have cZX := ZX.out.four
  have lZX := ZX.out.lt
  clear cZP lZP
  have cZP := ZP.out.four
  have lZP := ZP.out.lt
  clear hb4
  have Sw4 : w.heap.size ≤ w4.heap.size := KB.out.size
  go_wp2_with fail
  replace ZX := mkHid (ZX.out.alloc (.cells #[.int .i64 (h), .int .i64 (room), .slice vb Q.length vbc, .int .i64 (n + 1)] 25))
  replace KB := mkHid (KB.out.alloc KB.out.size (.cells #[.int .i64 (h), .int .i64 (room), .slice vb Q.length vbc, .int .i64 (n + 1)] 25))
  replace HA := mkHid (HA.out.below ((Below.refl _ _).alloc (Nat.le_refl _) (.cells #[.int .i64 (h), .int .i64 (room), .slice vb Q.length vbc, .int .i64 (n + 1)] 25)))
  replace Hva := mkHid (Hva.out.below ((Below.refl _ _).alloc (Nat.le_refl _) (.cells #[.int .i64 (h), .int .i64 (room), .slice vb Q.length vbc, .int .i64 (n + 1)] 25)))
  replace ZP := mkHid (ZP.out.alloc (.cells #[.int .i64 (h), .int .i64 (room), .slice vb Q.length vbc, .int .i64 (n + 1)] 25))
  replace Hvb := mkHid (Hvb.out.below ((Below.refl _ _).alloc (Nat.le_refl _) (.cells #[.int .i64 (h), .int .i64 (room), .slice vb Q.length vbc, .int .i64 (n + 1)] 25)))
  clear cZX lZX
  have cZX := ZX.out.four
  have lZX := ZX.out.lt
  clear cZP lZP
  have cZP := ZP.out.four
  have lZP := ZP.out.lt
  have ZQ : Hid (Blk (w4.alloc (.cells #[.int .i64 (h), .int .i64 (room), .slice vb Q.length vbc, .int .i64 (n + 1)] 25)) w4.heap.size 25 #[.int .i64 (h), .int .i64 (room), .slice vb Q.length vbc, .int .i64 (n + 1)]) := mkHid (Blk.new _ _ _)
  have cZQ := ZQ.out.four
  have lZQ := ZQ.out.lt
  refine (revoke_any e3 _ _ _ Hva.out).mono ?_
  rintro e w5 ⟨v, rfl, ho, hb5⟩
  obtain ⟨vc, vcc, rfl, vcl, vcr, vcm, vcz⟩ := Reads.of_rowOf ho
  have Hvc := mkHid vcr
  clear ho vcr vcm
  replace ZX := mkHid (ZX.out.keep hb5)
  replace KB := mkHid (KB.out.step hb5)
  replace HA := mkHid (HA.out.below hb5)
  replace Hva := mkHid (Hva.out.below hb5)
  replace ZP := mkHid (ZP.out.keep hb5)
  replace Hvb := mkHid (Hvb.out.below hb5)
  replace ZQ := mkHid (ZQ.out.keep hb5)
  clear cZX lZX
  have cZX := ZX.out.four
  have lZX := ZX.out.lt
  clear cZP lZP
  have cZP := ZP.out.four
  have lZP := ZP.out.lt
  clear cZQ lZQ
  have cZQ := ZQ.out.four
  have lZQ := ZQ.out.lt
  clear hb5
  have Sw5 : w.heap.size ≤ w5.heap.size := KB.out.size
  go_wp2_with fail
  replace ZX := mkHid (ZX.out.alloc (.cells #[.int .i64 (h), .int .i64 (room), .slice vc V.length vcc, .int .i64 (n + 1 + 1)] 25))
  replace KB := mkHid (KB.out.alloc KB.out.size (.cells #[.int .i64 (h), .int .i64 (room), .slice vc V.length vcc, .int .i64 (n + 1 + 1)] 25))
  replace HA := mkHid (HA.out.below ((Below.refl _ _).alloc (Nat.le_refl _) (.cells #[.int .i64 (h), .int .i64 (room), .slice vc V.length vcc, .int .i64 (n + 1 + 1)] 25)))
  replace Hva := mkHid (Hva.out.below ((Below.refl _ _).alloc (Nat.le_refl _) (.cells #[.int .i64 (h), .int .i64 (room), .slice vc V.length vcc, .int .i64 (n + 1 + 1)] 25)))
  replace ZP := mkHid (ZP.out.alloc (.cells #[.int .i64 (h), .int .i64 (room), .slice vc V.length vcc, .int .i64 (n + 1 + 1)] 25))
  replace Hvb := mkHid (Hvb.out.below ((Below.refl _ _).alloc (Nat.le_refl _) (.cells #[.int .i64 (h), .int .i64 (room), .slice vc V.length vcc, .int .i64 (n + 1 + 1)] 25)))
  replace ZQ := mkHid (ZQ.out.alloc (.cells #[.int .i64 (h), .int .i64 (room), .slice vc V.length vcc, .int .i64 (n + 1 + 1)] 25))
  replace Hvc := mkHid (Hvc.out.below ((Below.refl _ _).alloc (Nat.le_refl _) (.cells #[.int .i64 (h), .int .i64 (room), .slice vc V.length vcc, .int .i64 (n + 1 + 1)] 25)))
  clear cZX lZX
  have cZX := ZX.out.four
  have lZX := ZX.out.lt
  clear cZP lZP
  have cZP := ZP.out.four
  have lZP := ZP.out.lt
  clear cZQ lZQ
  have cZQ := ZQ.out.four
  have lZQ := ZQ.out.lt
  have ZV : Hid (Blk (w5.alloc (.cells #[.int .i64 (h), .int .i64 (room), .slice vc V.length vcc, .int .i64 (n + 1 + 1)] 25)) w5.heap.size 25 #[.int .i64 (h), .int .i64 (room), .slice vc V.length vcc, .int .i64 (n + 1 + 1)]) := mkHid (Blk.new _ _ _)
  have cZV := ZV.out.four
  have lZV := ZV.out.lt
  refine (revoke_any e4 _ _ _ Hvb.out).mono ?_
  rintro e w6 ⟨v, rfl, ho, hb6⟩
  obtain ⟨vd, vdc, rfl, vdl, vdr, vdm, vdz⟩ := Reads.of_rowOf ho
  have Hvd := mkHid vdr
  clear ho vdr vdm
  replace ZX := mkHid (ZX.out.keep hb6)
  replace KB := mkHid (KB.out.step hb6)
  replace HA := mkHid (HA.out.below hb6)
  replace Hva := mkHid (Hva.out.below hb6)
  replace ZP := mkHid (ZP.out.keep hb6)
  replace Hvb := mkHid (Hvb.out.below hb6)
  replace ZQ := mkHid (ZQ.out.keep hb6)
  replace Hvc := mkHid (Hvc.out.below hb6)
  replace ZV := mkHid (ZV.out.keep hb6)
  clear cZX lZX
  have cZX := ZX.out.four
  have lZX := ZX.out.lt
  clear cZP lZP
  have cZP := ZP.out.four
  have lZP := ZP.out.lt
  clear cZQ lZQ
  have cZQ := ZQ.out.four
  have lZQ := ZQ.out.lt
  clear cZV lZV
  have cZV := ZV.out.four
  have lZV := ZV.out.lt
  clear hb6
  have Sw6 : w.heap.size ≤ w6.heap.size := KB.out.size
  go_wp2_with fail
  replace ZX := mkHid (ZX.out.alloc (.cells #[.int .i64 (h), .int .i64 (room), .slice vd V.length vdc, .int .i64 (n + 1 + 1)] 25))
  replace KB := mkHid (KB.out.alloc KB.out.size (.cells #[.int .i64 (h), .int .i64 (room), .slice vd V.length vdc, .int .i64 (n + 1 + 1)] 25))
  replace HA := mkHid (HA.out.below ((Below.refl _ _).alloc (Nat.le_refl _) (.cells #[.int .i64 (h), .int .i64 (room), .slice vd V.length vdc, .int .i64 (n + 1 + 1)] 25)))
  replace Hva := mkHid (Hva.out.below ((Below.refl _ _).alloc (Nat.le_refl _) (.cells #[.int .i64 (h), .int .i64 (room), .slice vd V.length vdc, .int .i64 (n + 1 + 1)] 25)))
  replace ZP := mkHid (ZP.out.alloc (.cells #[.int .i64 (h), .int .i64 (room), .slice vd V.length vdc, .int .i64 (n + 1 + 1)] 25))
  replace Hvb := mkHid (Hvb.out.below ((Below.refl _ _).alloc (Nat.le_refl _) (.cells #[.int .i64 (h), .int .i64 (room), .slice vd V.length vdc, .int .i64 (n + 1 + 1)] 25)))
  replace ZQ := mkHid (ZQ.out.alloc (.cells #[.int .i64 (h), .int .i64 (room), .slice vd V.length vdc, .int .i64 (n + 1 + 1)] 25))
  replace Hvc := mkHid (Hvc.out.below ((Below.refl _ _).alloc (Nat.le_refl _) (.cells #[.int .i64 (h), .int .i64 (room), .slice vd V.length vdc, .int .i64 (n + 1 + 1)] 25)))
  replace ZV := mkHid (ZV.out.alloc (.cells #[.int .i64 (h), .int .i64 (room), .slice vd V.length vdc, .int .i64 (n + 1 + 1)] 25))
  replace Hvd := mkHid (Hvd.out.below ((Below.refl _ _).alloc (Nat.le_refl _) (.cells #[.int .i64 (h), .int .i64 (room), .slice vd V.length vdc, .int .i64 (n + 1 + 1)] 25)))
  clear cZX lZX
  have cZX := ZX.out.four
  have lZX := ZX.out.lt
  clear cZP lZP
  have cZP := ZP.out.four
  have lZP := ZP.out.lt
  clear cZQ lZQ
  have cZQ := ZQ.out.four
  have lZQ := ZQ.out.lt
  clear cZV lZV
  have cZV := ZV.out.four
  have lZV := ZV.out.lt
  have ZU : Hid (Blk (w6.alloc (.cells #[.int .i64 (h), .int .i64 (room), .slice vd V.length vdc, .int .i64 (n + 1 + 1)] 25)) w6.heap.size 25 #[.int .i64 (h), .int .i64 (room), .slice vd V.length vdc, .int .i64 (n + 1 + 1)]) := mkHid (Blk.new _ _ _)
  have cZU := ZU.out.four
  have lZU := ZU.out.lt
  refine (reinstate_any e5 _ _ _ Hvc.out).mono ?_
  rintro e w7 ⟨v, rfl, ho, hb7⟩
  obtain ⟨ve, vec, rfl, vel, ver, vem, vez⟩ := Reads.of_rowOf ho
  clear ho ver vem
  replace ZX := mkHid (ZX.out.keep hb7)
  replace KB := mkHid (KB.out.step hb7)
  replace HA := mkHid (HA.out.below hb7)
  replace Hva := mkHid (Hva.out.below hb7)
  replace ZP := mkHid (ZP.out.keep hb7)
  replace Hvb := mkHid (Hvb.out.below hb7)
  replace ZQ := mkHid (ZQ.out.keep hb7)
  replace Hvc := mkHid (Hvc.out.below hb7)
  replace ZV := mkHid (ZV.out.keep hb7)
  replace Hvd := mkHid (Hvd.out.below hb7)
  replace ZU := mkHid (ZU.out.keep hb7)
  clear cZX lZX
  have cZX := ZX.out.four
  have lZX := ZX.out.lt
  clear cZP lZP
  have cZP := ZP.out.four
  have lZP := ZP.out.lt
  clear cZQ lZQ
  have cZQ := ZQ.out.four
  have lZQ := ZQ.out.lt
  clear cZV lZV
  have cZV := ZV.out.four
  have lZV := ZV.out.lt
  clear cZU lZU
  have cZU := ZU.out.four
  have lZU := ZU.out.lt
  clear hb7
  have Sw7 : w.heap.size ≤ w7.heap.size := KB.out.size
  go_wp2_with fail
  replace ZX := mkHid (ZX.out.alloc (.cells #[.int .i64 (0), .int .i64 (0), .slice ve 0 vec, .int .i64 (0)] 25))
  replace KB := mkHid (KB.out.alloc KB.out.size (.cells #[.int .i64 (0), .int .i64 (0), .slice ve 0 vec, .int .i64 (0)] 25))
  replace HA := mkHid (HA.out.below ((Below.refl _ _).alloc (Nat.le_refl _) (.cells #[.int .i64 (0), .int .i64 (0), .slice ve 0 vec, .int .i64 (0)] 25)))
  replace Hva := mkHid (Hva.out.below ((Below.refl _ _).alloc (Nat.le_refl _) (.cells #[.int .i64 (0), .int .i64 (0), .slice ve 0 vec, .int .i64 (0)] 25)))
  replace ZP := mkHid (ZP.out.alloc (.cells #[.int .i64 (0), .int .i64 (0), .slice ve 0 vec, .int .i64 (0)] 25))
  replace Hvb := mkHid (Hvb.out.below ((Below.refl _ _).alloc (Nat.le_refl _) (.cells #[.int .i64 (0), .int .i64 (0), .slice ve 0 vec, .int .i64 (0)] 25)))
  replace ZQ := mkHid (ZQ.out.alloc (.cells #[.int .i64 (0), .int .i64 (0), .slice ve 0 vec, .int .i64 (0)] 25))
  replace Hvc := mkHid (Hvc.out.below ((Below.refl _ _).alloc (Nat.le_refl _) (.cells #[.int .i64 (0), .int .i64 (0), .slice ve 0 vec, .int .i64 (0)] 25)))
  replace ZV := mkHid (ZV.out.alloc (.cells #[.int .i64 (0), .int .i64 (0), .slice ve 0 vec, .int .i64 (0)] 25))
  replace Hvd := mkHid (Hvd.out.below ((Below.refl _ _).alloc (Nat.le_refl _) (.cells #[.int .i64 (0), .int .i64 (0), .slice ve 0 vec, .int .i64 (0)] 25)))
  replace ZU := mkHid (ZU.out.alloc (.cells #[.int .i64 (0), .int .i64 (0), .slice ve 0 vec, .int .i64 (0)] 25))
  clear cZX lZX
  have cZX := ZX.out.four
  have lZX := ZX.out.lt
  clear cZP lZP
  have cZP := ZP.out.four
  have lZP := ZP.out.lt
  clear cZQ lZQ
  have cZQ := ZQ.out.four
  have lZQ := ZQ.out.lt
  clear cZV lZV
  have cZV := ZV.out.four
  have lZV := ZV.out.lt
  clear cZU lZU
  have cZU := ZU.out.four
  have lZU := ZU.out.lt
  have ZY : Hid (Blk (w7.alloc (.cells #[.int .i64 (0), .int .i64 (0), .slice ve 0 vec, .int .i64 (0)] 25)) w7.heap.size 25 #[.int .i64 (0), .int .i64 (0), .slice ve 0 vec, .int .i64 (0)]) := mkHid (Blk.new _ _ _)
  have cZY := ZY.out.four
  have lZY := ZY.out.lt
  refine (rsame (mkHid (decide_eq_true ⟨rfl, rfl, rfl, rfl⟩)) hl4 _ _ _ _ _ Hvc.out Hvd.out).mono ?_
  rintro e w8 ⟨rfl, hb8⟩
  replace ZX := mkHid (ZX.out.keep hb8)
  replace KB := mkHid (KB.out.step hb8)
  replace HA := mkHid (HA.out.below hb8)
  replace Hva := mkHid (Hva.out.below hb8)
  replace ZP := mkHid (ZP.out.keep hb8)
  replace Hvb := mkHid (Hvb.out.below hb8)
  replace ZQ := mkHid (ZQ.out.keep hb8)
  replace Hvc := mkHid (Hvc.out.below hb8)
  replace ZV := mkHid (ZV.out.keep hb8)
  replace Hvd := mkHid (Hvd.out.below hb8)
  replace ZU := mkHid (ZU.out.keep hb8)
  replace ZY := mkHid (ZY.out.keep hb8)
  clear cZX lZX
  have cZX := ZX.out.four
  have lZX := ZX.out.lt
  clear cZP lZP
  have cZP := ZP.out.four
  have lZP := ZP.out.lt
  clear cZQ lZQ
  have cZQ := ZQ.out.four
  have lZQ := ZQ.out.lt
  clear cZV lZV
  have cZV := ZV.out.four
  have lZV := ZV.out.lt
  clear cZU lZU
  have cZU := ZU.out.four
  have lZU := ZU.out.lt
  clear cZY lZY
  have cZY := ZY.out.four
  have lZY := ZY.out.lt
  clear hb8
  go_wp2_with fail
  go_ret
  exact ⟨rfl, KB.out⟩

set_option maxRecDepth 100000 in
set_option maxHeartbeats 4000000 in
theorem rord_ok {h room n : Int} {s : List Nat} {i k : Nat} (hf : Hid (fewB s = true)) (hik : i ≠ k) {P : List Nat} (e1 : Hid (rollAdd h room s n i = (⟨h, room, P, n + 1⟩, 0))) {Q : List Nat} (e2 : Hid (rollAdd h room s n k = (⟨h, room, Q, n + 1⟩, 0))) {V : List Nat} (e3 : Hid (rollAdd h room P (n + 1) k = (⟨h, room, V, n + 1 + 1⟩, 0))) (e4 : Hid (rollAdd h room Q (n + 1) i = (⟨h, room, V, n + 1 + 1⟩, 0))) (hl : V.length ≤ 1024) (hq : Q.length ≤ 1024) (e5 : Hid (rollDel h room V (n + 1 + 1) i = (⟨h, room, Q, n + 1 + 1 + 1⟩, 0))) (e6 : Hid (rollIs h room Q (n + 1 + 1 + 1) k = (true, 0))) (e7 : Hid (rollIs h room Q (n + 1 + 1 + 1) i = (false, 0)))  (A : Option Addr) (c : Nat) (w : World) (hA : Reads w A s) :
    Calls Try.prog 6 #[.agg #[.int .i64 h, .int .i64 room, .slice A s.length c, .int .i64 n], .int .u64 (i : Int), .int .u64 (k : Int)] w fun e w' => e = .returned (.bool true) ∧ Below w.heap.size w w' := by
  have t8 : ((i : Int) == (k : Int)) = false := beq_eq_false_iff_ne.2 (by omega)
  have t9 : (i == k) = false := beq_eq_false_iff_ne.2 hik
  clear hik
  have hl4 : V.length < 4611686018427387904 := by omega
  have hq4 : Q.length < 4611686018427387904 := by omega
  clear hl hq
  have ZX : Hid (Blk (w.alloc (.cells #[.int .i64 (h), .int .i64 (room), .slice A s.length c, .int .i64 (n)] 25)) w.heap.size 25 #[.int .i64 h, .int .i64 room, .slice A s.length c, .int .i64 n]) := mkHid (Blk.new _ _ _)
  have KB : Hid (Below w.heap.size w (w.alloc (.cells #[.int .i64 (h), .int .i64 (room), .slice A s.length c, .int .i64 (n)] 25))) := mkHid ((Below.refl _ _).alloc (Nat.le_refl _) _)
  have HA := mkHid (hA.below ((Below.refl _ _).alloc (Nat.le_refl _) (.cells #[.int .i64 (h), .int .i64 (room), .slice A s.length c, .int .i64 (n)] 25)))
  clear hA
  have cZX := ZX.out.four
  have lZX := ZX.out.lt
  go_enter Try.func6, Try.ntmps6
  go_wp2_with fail
  refine (live18 _).mono ?_
  rintro e w1 ⟨rfl, hb1⟩
  replace ZX := mkHid (ZX.out.keep hb1)
  replace KB := mkHid (KB.out.step hb1)
  replace HA := mkHid (HA.out.below hb1)
  clear cZX lZX
  have cZX := ZX.out.four
  have lZX := ZX.out.lt
  clear hb1
  go_wp2_with fail
  refine (few_any hf _ _ _).mono ?_
  rintro e w2 ⟨rfl, hb2⟩
  replace ZX := mkHid (ZX.out.keep hb2)
  replace KB := mkHid (KB.out.step hb2)
  replace HA := mkHid (HA.out.below hb2)
  clear cZX lZX
  have cZX := ZX.out.four
  have lZX := ZX.out.lt
  clear hb2
  go_wp2_with fail
  refine (revoke_any e1 _ _ _ HA.out).mono ?_
  rintro e w3 ⟨v, rfl, ho, hb3⟩
  obtain ⟨va, vac, rfl, val, var, vam, vaz⟩ := Reads.of_rowOf ho
  have Hva := mkHid var
  clear ho var vam
  replace ZX := mkHid (ZX.out.keep hb3)
  replace KB := mkHid (KB.out.step hb3)
  replace HA := mkHid (HA.out.below hb3)
  clear cZX lZX
  have cZX := ZX.out.four
  have lZX := ZX.out.lt
  clear hb3
  have Sw3 : w.heap.size ≤ w3.heap.size := KB.out.size
  go_wp2_with fail
  replace ZX := mkHid (ZX.out.alloc (.cells #[.int .i64 (h), .int .i64 (room), .slice va P.length vac, .int .i64 (n + 1)] 25))
  replace KB := mkHid (KB.out.alloc KB.out.size (.cells #[.int .i64 (h), .int .i64 (room), .slice va P.length vac, .int .i64 (n + 1)] 25))
  replace HA := mkHid (HA.out.below ((Below.refl _ _).alloc (Nat.le_refl _) (.cells #[.int .i64 (h), .int .i64 (room), .slice va P.length vac, .int .i64 (n + 1)] 25)))
  replace Hva := mkHid (Hva.out.below ((Below.refl _ _).alloc (Nat.le_refl _) (.cells #[.int .i64 (h), .int .i64 (room), .slice va P.length vac, .int .i64 (n + 1)] 25)))
  clear cZX lZX
  have cZX := ZX.out.four
  have lZX := ZX.out.lt
  have ZP : Hid (Blk (w3.alloc (.cells #[.int .i64 (h), .int .i64 (room), .slice va P.length vac, .int .i64 (n + 1)] 25)) w3.heap.size 25 #[.int .i64 (h), .int .i64 (room), .slice va P.length vac, .int .i64 (n + 1)]) := mkHid (Blk.new _ _ _)
  have cZP := ZP.out.four
  have lZP := ZP.out.lt
  refine (revoke_any e2 _ _ _ HA.out).mono ?_
  rintro e w4 ⟨v, rfl, ho, hb4⟩
  obtain ⟨vb, vbc, rfl, vbl, vbr, vbm, vbz⟩ := Reads.of_rowOf ho
  have Hvb := mkHid vbr
  clear ho vbr vbm
  replace ZX := mkHid (ZX.out.keep hb4)
  replace KB := mkHid (KB.out.step hb4)
  replace HA := mkHid (HA.out.below hb4)
  replace Hva := mkHid (Hva.out.below hb4)
  replace ZP := mkHid (ZP.out.keep hb4)
  clear cZX lZX
  have cZX := ZX.out.four
  have lZX := ZX.out.lt
  clear cZP lZP
  have cZP := ZP.out.four
  have lZP := ZP.out.lt
  clear hb4
  have Sw4 : w.heap.size ≤ w4.heap.size := KB.out.size
  go_wp2_with fail
  replace ZX := mkHid (ZX.out.alloc (.cells #[.int .i64 (h), .int .i64 (room), .slice vb Q.length vbc, .int .i64 (n + 1)] 25))
  replace KB := mkHid (KB.out.alloc KB.out.size (.cells #[.int .i64 (h), .int .i64 (room), .slice vb Q.length vbc, .int .i64 (n + 1)] 25))
  replace HA := mkHid (HA.out.below ((Below.refl _ _).alloc (Nat.le_refl _) (.cells #[.int .i64 (h), .int .i64 (room), .slice vb Q.length vbc, .int .i64 (n + 1)] 25)))
  replace Hva := mkHid (Hva.out.below ((Below.refl _ _).alloc (Nat.le_refl _) (.cells #[.int .i64 (h), .int .i64 (room), .slice vb Q.length vbc, .int .i64 (n + 1)] 25)))
  replace ZP := mkHid (ZP.out.alloc (.cells #[.int .i64 (h), .int .i64 (room), .slice vb Q.length vbc, .int .i64 (n + 1)] 25))
  replace Hvb := mkHid (Hvb.out.below ((Below.refl _ _).alloc (Nat.le_refl _) (.cells #[.int .i64 (h), .int .i64 (room), .slice vb Q.length vbc, .int .i64 (n + 1)] 25)))
  clear cZX lZX
  have cZX := ZX.out.four
  have lZX := ZX.out.lt
  clear cZP lZP
  have cZP := ZP.out.four
  have lZP := ZP.out.lt
  have ZQ : Hid (Blk (w4.alloc (.cells #[.int .i64 (h), .int .i64 (room), .slice vb Q.length vbc, .int .i64 (n + 1)] 25)) w4.heap.size 25 #[.int .i64 (h), .int .i64 (room), .slice vb Q.length vbc, .int .i64 (n + 1)]) := mkHid (Blk.new _ _ _)
  have cZQ := ZQ.out.four
  have lZQ := ZQ.out.lt
  refine (revoke_any e3 _ _ _ Hva.out).mono ?_
  rintro e w5 ⟨v, rfl, ho, hb5⟩
  obtain ⟨vc, vcc, rfl, vcl, vcr, vcm, vcz⟩ := Reads.of_rowOf ho
  have Hvc := mkHid vcr
  clear ho vcr vcm
  replace ZX := mkHid (ZX.out.keep hb5)
  replace KB := mkHid (KB.out.step hb5)
  replace HA := mkHid (HA.out.below hb5)
  replace Hva := mkHid (Hva.out.below hb5)
  replace ZP := mkHid (ZP.out.keep hb5)
  replace Hvb := mkHid (Hvb.out.below hb5)
  replace ZQ := mkHid (ZQ.out.keep hb5)
  clear cZX lZX
  have cZX := ZX.out.four
  have lZX := ZX.out.lt
  clear cZP lZP
  have cZP := ZP.out.four
  have lZP := ZP.out.lt
  clear cZQ lZQ
  have cZQ := ZQ.out.four
  have lZQ := ZQ.out.lt
  clear hb5
  have Sw5 : w.heap.size ≤ w5.heap.size := KB.out.size
  go_wp2_with fail
  replace ZX := mkHid (ZX.out.alloc (.cells #[.int .i64 (h), .int .i64 (room), .slice vc V.length vcc, .int .i64 (n + 1 + 1)] 25))
  replace KB := mkHid (KB.out.alloc KB.out.size (.cells #[.int .i64 (h), .int .i64 (room), .slice vc V.length vcc, .int .i64 (n + 1 + 1)] 25))
  replace HA := mkHid (HA.out.below ((Below.refl _ _).alloc (Nat.le_refl _) (.cells #[.int .i64 (h), .int .i64 (room), .slice vc V.length vcc, .int .i64 (n + 1 + 1)] 25)))
  replace Hva := mkHid (Hva.out.below ((Below.refl _ _).alloc (Nat.le_refl _) (.cells #[.int .i64 (h), .int .i64 (room), .slice vc V.length vcc, .int .i64 (n + 1 + 1)] 25)))
  replace ZP := mkHid (ZP.out.alloc (.cells #[.int .i64 (h), .int .i64 (room), .slice vc V.length vcc, .int .i64 (n + 1 + 1)] 25))
  replace Hvb := mkHid (Hvb.out.below ((Below.refl _ _).alloc (Nat.le_refl _) (.cells #[.int .i64 (h), .int .i64 (room), .slice vc V.length vcc, .int .i64 (n + 1 + 1)] 25)))
  replace ZQ := mkHid (ZQ.out.alloc (.cells #[.int .i64 (h), .int .i64 (room), .slice vc V.length vcc, .int .i64 (n + 1 + 1)] 25))
  replace Hvc := mkHid (Hvc.out.below ((Below.refl _ _).alloc (Nat.le_refl _) (.cells #[.int .i64 (h), .int .i64 (room), .slice vc V.length vcc, .int .i64 (n + 1 + 1)] 25)))
  clear cZX lZX
  have cZX := ZX.out.four
  have lZX := ZX.out.lt
  clear cZP lZP
  have cZP := ZP.out.four
  have lZP := ZP.out.lt
  clear cZQ lZQ
  have cZQ := ZQ.out.four
  have lZQ := ZQ.out.lt
  have ZV : Hid (Blk (w5.alloc (.cells #[.int .i64 (h), .int .i64 (room), .slice vc V.length vcc, .int .i64 (n + 1 + 1)] 25)) w5.heap.size 25 #[.int .i64 (h), .int .i64 (room), .slice vc V.length vcc, .int .i64 (n + 1 + 1)]) := mkHid (Blk.new _ _ _)
  have cZV := ZV.out.four
  have lZV := ZV.out.lt
  refine (revoke_any e4 _ _ _ Hvb.out).mono ?_
  rintro e w6 ⟨v, rfl, ho, hb6⟩
  obtain ⟨vd, vdc, rfl, vdl, vdr, vdm, vdz⟩ := Reads.of_rowOf ho
  have Hvd := mkHid vdr
  clear ho vdr vdm
  replace ZX := mkHid (ZX.out.keep hb6)
  replace KB := mkHid (KB.out.step hb6)
  replace HA := mkHid (HA.out.below hb6)
  replace Hva := mkHid (Hva.out.below hb6)
  replace ZP := mkHid (ZP.out.keep hb6)
  replace Hvb := mkHid (Hvb.out.below hb6)
  replace ZQ := mkHid (ZQ.out.keep hb6)
  replace Hvc := mkHid (Hvc.out.below hb6)
  replace ZV := mkHid (ZV.out.keep hb6)
  clear cZX lZX
  have cZX := ZX.out.four
  have lZX := ZX.out.lt
  clear cZP lZP
  have cZP := ZP.out.four
  have lZP := ZP.out.lt
  clear cZQ lZQ
  have cZQ := ZQ.out.four
  have lZQ := ZQ.out.lt
  clear cZV lZV
  have cZV := ZV.out.four
  have lZV := ZV.out.lt
  clear hb6
  have Sw6 : w.heap.size ≤ w6.heap.size := KB.out.size
  go_wp2_with fail
  replace ZX := mkHid (ZX.out.alloc (.cells #[.int .i64 (h), .int .i64 (room), .slice vd V.length vdc, .int .i64 (n + 1 + 1)] 25))
  replace KB := mkHid (KB.out.alloc KB.out.size (.cells #[.int .i64 (h), .int .i64 (room), .slice vd V.length vdc, .int .i64 (n + 1 + 1)] 25))
  replace HA := mkHid (HA.out.below ((Below.refl _ _).alloc (Nat.le_refl _) (.cells #[.int .i64 (h), .int .i64 (room), .slice vd V.length vdc, .int .i64 (n + 1 + 1)] 25)))
  replace Hva := mkHid (Hva.out.below ((Below.refl _ _).alloc (Nat.le_refl _) (.cells #[.int .i64 (h), .int .i64 (room), .slice vd V.length vdc, .int .i64 (n + 1 + 1)] 25)))
  replace ZP := mkHid (ZP.out.alloc (.cells #[.int .i64 (h), .int .i64 (room), .slice vd V.length vdc, .int .i64 (n + 1 + 1)] 25))
  replace Hvb := mkHid (Hvb.out.below ((Below.refl _ _).alloc (Nat.le_refl _) (.cells #[.int .i64 (h), .int .i64 (room), .slice vd V.length vdc, .int .i64 (n + 1 + 1)] 25)))
  replace ZQ := mkHid (ZQ.out.alloc (.cells #[.int .i64 (h), .int .i64 (room), .slice vd V.length vdc, .int .i64 (n + 1 + 1)] 25))
  replace Hvc := mkHid (Hvc.out.below ((Below.refl _ _).alloc (Nat.le_refl _) (.cells #[.int .i64 (h), .int .i64 (room), .slice vd V.length vdc, .int .i64 (n + 1 + 1)] 25)))
  replace ZV := mkHid (ZV.out.alloc (.cells #[.int .i64 (h), .int .i64 (room), .slice vd V.length vdc, .int .i64 (n + 1 + 1)] 25))
  replace Hvd := mkHid (Hvd.out.below ((Below.refl _ _).alloc (Nat.le_refl _) (.cells #[.int .i64 (h), .int .i64 (room), .slice vd V.length vdc, .int .i64 (n + 1 + 1)] 25)))
  clear cZX lZX
  have cZX := ZX.out.four
  have lZX := ZX.out.lt
  clear cZP lZP
  have cZP := ZP.out.four
  have lZP := ZP.out.lt
  clear cZQ lZQ
  have cZQ := ZQ.out.four
  have lZQ := ZQ.out.lt
  clear cZV lZV
  have cZV := ZV.out.four
  have lZV := ZV.out.lt
  have ZU : Hid (Blk (w6.alloc (.cells #[.int .i64 (h), .int .i64 (room), .slice vd V.length vdc, .int .i64 (n + 1 + 1)] 25)) w6.heap.size 25 #[.int .i64 (h), .int .i64 (room), .slice vd V.length vdc, .int .i64 (n + 1 + 1)]) := mkHid (Blk.new _ _ _)
  have cZU := ZU.out.four
  have lZU := ZU.out.lt
  refine (reinstate_any e5 _ _ _ Hvc.out).mono ?_
  rintro e w7 ⟨v, rfl, ho, hb7⟩
  obtain ⟨ve, vec, rfl, vel, ver, vem, vez⟩ := Reads.of_rowOf ho
  have Hve := mkHid ver
  clear ho ver vem
  replace ZX := mkHid (ZX.out.keep hb7)
  replace KB := mkHid (KB.out.step hb7)
  replace HA := mkHid (HA.out.below hb7)
  replace Hva := mkHid (Hva.out.below hb7)
  replace ZP := mkHid (ZP.out.keep hb7)
  replace Hvb := mkHid (Hvb.out.below hb7)
  replace ZQ := mkHid (ZQ.out.keep hb7)
  replace Hvc := mkHid (Hvc.out.below hb7)
  replace ZV := mkHid (ZV.out.keep hb7)
  replace Hvd := mkHid (Hvd.out.below hb7)
  replace ZU := mkHid (ZU.out.keep hb7)
  clear cZX lZX
  have cZX := ZX.out.four
  have lZX := ZX.out.lt
  clear cZP lZP
  have cZP := ZP.out.four
  have lZP := ZP.out.lt
  clear cZQ lZQ
  have cZQ := ZQ.out.four
  have lZQ := ZQ.out.lt
  clear cZV lZV
  have cZV := ZV.out.four
  have lZV := ZV.out.lt
  clear cZU lZU
  have cZU := ZU.out.four
  have lZU := ZU.out.lt
  clear hb7
  have Sw7 : w.heap.size ≤ w7.heap.size := KB.out.size
  go_wp2_with fail
  replace ZX := mkHid (ZX.out.alloc (.cells #[.int .i64 (h), .int .i64 (room), .slice ve Q.length vec, .int .i64 (n + 1 + 1 + 1)] 25))
  replace KB := mkHid (KB.out.alloc KB.out.size (.cells #[.int .i64 (h), .int .i64 (room), .slice ve Q.length vec, .int .i64 (n + 1 + 1 + 1)] 25))
  replace HA := mkHid (HA.out.below ((Below.refl _ _).alloc (Nat.le_refl _) (.cells #[.int .i64 (h), .int .i64 (room), .slice ve Q.length vec, .int .i64 (n + 1 + 1 + 1)] 25)))
  replace Hva := mkHid (Hva.out.below ((Below.refl _ _).alloc (Nat.le_refl _) (.cells #[.int .i64 (h), .int .i64 (room), .slice ve Q.length vec, .int .i64 (n + 1 + 1 + 1)] 25)))
  replace ZP := mkHid (ZP.out.alloc (.cells #[.int .i64 (h), .int .i64 (room), .slice ve Q.length vec, .int .i64 (n + 1 + 1 + 1)] 25))
  replace Hvb := mkHid (Hvb.out.below ((Below.refl _ _).alloc (Nat.le_refl _) (.cells #[.int .i64 (h), .int .i64 (room), .slice ve Q.length vec, .int .i64 (n + 1 + 1 + 1)] 25)))
  replace ZQ := mkHid (ZQ.out.alloc (.cells #[.int .i64 (h), .int .i64 (room), .slice ve Q.length vec, .int .i64 (n + 1 + 1 + 1)] 25))
  replace Hvc := mkHid (Hvc.out.below ((Below.refl _ _).alloc (Nat.le_refl _) (.cells #[.int .i64 (h), .int .i64 (room), .slice ve Q.length vec, .int .i64 (n + 1 + 1 + 1)] 25)))
  replace ZV := mkHid (ZV.out.alloc (.cells #[.int .i64 (h), .int .i64 (room), .slice ve Q.length vec, .int .i64 (n + 1 + 1 + 1)] 25))
  replace Hvd := mkHid (Hvd.out.below ((Below.refl _ _).alloc (Nat.le_refl _) (.cells #[.int .i64 (h), .int .i64 (room), .slice ve Q.length vec, .int .i64 (n + 1 + 1 + 1)] 25)))
  replace ZU := mkHid (ZU.out.alloc (.cells #[.int .i64 (h), .int .i64 (room), .slice ve Q.length vec, .int .i64 (n + 1 + 1 + 1)] 25))
  replace Hve := mkHid (Hve.out.below ((Below.refl _ _).alloc (Nat.le_refl _) (.cells #[.int .i64 (h), .int .i64 (room), .slice ve Q.length vec, .int .i64 (n + 1 + 1 + 1)] 25)))
  clear cZX lZX
  have cZX := ZX.out.four
  have lZX := ZX.out.lt
  clear cZP lZP
  have cZP := ZP.out.four
  have lZP := ZP.out.lt
  clear cZQ lZQ
  have cZQ := ZQ.out.four
  have lZQ := ZQ.out.lt
  clear cZV lZV
  have cZV := ZV.out.four
  have lZV := ZV.out.lt
  clear cZU lZU
  have cZU := ZU.out.four
  have lZU := ZU.out.lt
  have ZY : Hid (Blk (w7.alloc (.cells #[.int .i64 (h), .int .i64 (room), .slice ve Q.length vec, .int .i64 (n + 1 + 1 + 1)] 25)) w7.heap.size 25 #[.int .i64 (h), .int .i64 (room), .slice ve Q.length vec, .int .i64 (n + 1 + 1 + 1)]) := mkHid (Blk.new _ _ _)
  have cZY := ZY.out.four
  have lZY := ZY.out.lt
  refine (ris e6 _ _ _ Hve.out).mono ?_
  rintro e w8 ⟨rfl, hb8⟩
  replace ZX := mkHid (ZX.out.keep hb8)
  replace KB := mkHid (KB.out.step hb8)
  replace HA := mkHid (HA.out.below hb8)
  replace Hva := mkHid (Hva.out.below hb8)
  replace ZP := mkHid (ZP.out.keep hb8)
  replace Hvb := mkHid (Hvb.out.below hb8)
  replace ZQ := mkHid (ZQ.out.keep hb8)
  replace Hvc := mkHid (Hvc.out.below hb8)
  replace ZV := mkHid (ZV.out.keep hb8)
  replace Hvd := mkHid (Hvd.out.below hb8)
  replace ZU := mkHid (ZU.out.keep hb8)
  replace Hve := mkHid (Hve.out.below hb8)
  replace ZY := mkHid (ZY.out.keep hb8)
  clear cZX lZX
  have cZX := ZX.out.four
  have lZX := ZX.out.lt
  clear cZP lZP
  have cZP := ZP.out.four
  have lZP := ZP.out.lt
  clear cZQ lZQ
  have cZQ := ZQ.out.four
  have lZQ := ZQ.out.lt
  clear cZV lZV
  have cZV := ZV.out.four
  have lZV := ZV.out.lt
  clear cZU lZU
  have cZU := ZU.out.four
  have lZU := ZU.out.lt
  clear cZY lZY
  have cZY := ZY.out.four
  have lZY := ZY.out.lt
  clear hb8
  go_wp2_with fail
  refine (ris e7 _ _ _ Hve.out).mono ?_
  rintro e w9 ⟨rfl, hb9⟩
  replace ZX := mkHid (ZX.out.keep hb9)
  replace KB := mkHid (KB.out.step hb9)
  replace HA := mkHid (HA.out.below hb9)
  replace Hva := mkHid (Hva.out.below hb9)
  replace ZP := mkHid (ZP.out.keep hb9)
  replace Hvb := mkHid (Hvb.out.below hb9)
  replace ZQ := mkHid (ZQ.out.keep hb9)
  replace Hvc := mkHid (Hvc.out.below hb9)
  replace ZV := mkHid (ZV.out.keep hb9)
  replace Hvd := mkHid (Hvd.out.below hb9)
  replace ZU := mkHid (ZU.out.keep hb9)
  replace Hve := mkHid (Hve.out.below hb9)
  replace ZY := mkHid (ZY.out.keep hb9)
  clear cZX lZX
  have cZX := ZX.out.four
  have lZX := ZX.out.lt
  clear cZP lZP
  have cZP := ZP.out.four
  have lZP := ZP.out.lt
  clear cZQ lZQ
  have cZQ := ZQ.out.four
  have lZQ := ZQ.out.lt
  clear cZV lZV
  have cZV := ZV.out.four
  have lZV := ZV.out.lt
  clear cZU lZU
  have cZU := ZU.out.four
  have lZU := ZU.out.lt
  clear cZY lZY
  have cZY := ZY.out.four
  have lZY := ZY.out.lt
  clear hb9
  go_wp2_with fail
  refine (rsame (mkHid (decide_eq_true ⟨rfl, rfl, rfl, rfl⟩)) hl4 _ _ _ _ _ Hvc.out Hvd.out).mono ?_
  rintro e w10 ⟨rfl, hb10⟩
  replace ZX := mkHid (ZX.out.keep hb10)
  replace KB := mkHid (KB.out.step hb10)
  replace HA := mkHid (HA.out.below hb10)
  replace Hva := mkHid (Hva.out.below hb10)
  replace ZP := mkHid (ZP.out.keep hb10)
  replace Hvb := mkHid (Hvb.out.below hb10)
  replace ZQ := mkHid (ZQ.out.keep hb10)
  replace Hvc := mkHid (Hvc.out.below hb10)
  replace ZV := mkHid (ZV.out.keep hb10)
  replace Hvd := mkHid (Hvd.out.below hb10)
  replace ZU := mkHid (ZU.out.keep hb10)
  replace Hve := mkHid (Hve.out.below hb10)
  replace ZY := mkHid (ZY.out.keep hb10)
  clear cZX lZX
  have cZX := ZX.out.four
  have lZX := ZX.out.lt
  clear cZP lZP
  have cZP := ZP.out.four
  have lZP := ZP.out.lt
  clear cZQ lZQ
  have cZQ := ZQ.out.four
  have lZQ := ZQ.out.lt
  clear cZV lZV
  have cZV := ZV.out.four
  have lZV := ZV.out.lt
  clear cZU lZU
  have cZU := ZU.out.four
  have lZU := ZU.out.lt
  clear cZY lZY
  have cZY := ZY.out.four
  have lZY := ZY.out.lt
  clear hb10
  go_wp2_with fail
  refine (ssame_any (mkHid (decide_eq_true rfl)) hq4 _ _ _ _ _ Hve.out Hvb.out).mono ?_
  rintro e w11 ⟨rfl, hb11⟩
  replace ZX := mkHid (ZX.out.keep hb11)
  replace KB := mkHid (KB.out.step hb11)
  replace HA := mkHid (HA.out.below hb11)
  replace Hva := mkHid (Hva.out.below hb11)
  replace ZP := mkHid (ZP.out.keep hb11)
  replace Hvb := mkHid (Hvb.out.below hb11)
  replace ZQ := mkHid (ZQ.out.keep hb11)
  replace Hvc := mkHid (Hvc.out.below hb11)
  replace ZV := mkHid (ZV.out.keep hb11)
  replace Hvd := mkHid (Hvd.out.below hb11)
  replace ZU := mkHid (ZU.out.keep hb11)
  replace Hve := mkHid (Hve.out.below hb11)
  replace ZY := mkHid (ZY.out.keep hb11)
  clear cZX lZX
  have cZX := ZX.out.four
  have lZX := ZX.out.lt
  clear cZP lZP
  have cZP := ZP.out.four
  have lZP := ZP.out.lt
  clear cZQ lZQ
  have cZQ := ZQ.out.four
  have lZQ := ZQ.out.lt
  clear cZV lZV
  have cZV := ZV.out.four
  have lZV := ZV.out.lt
  clear cZU lZU
  have cZU := ZU.out.four
  have lZU := ZU.out.lt
  clear cZY lZY
  have cZY := ZY.out.four
  have lZY := ZY.out.lt
  clear hb11
  go_wp2_with fail
  go_ret
  exact ⟨rfl, KB.out⟩
theorem walk_RollOrder {w : World} (h room n : Int) (A : Option Addr) (s : List Nat) (c : Nat) (_wn : (Lit.int .i64 n).wf = true) (_lc : s.length ≤ c) (_mc : c ≤ maxLen) (hA : Reads w A s) (_hz : A = none → c = 0) (i : Int) (hi : (Lit.int .u64 i).wf = true) (k : Int) (hk : (Lit.int .u64 k).wf = true) :
    Calls Try.prog 6 #[.agg #[.int .i64 h, .int .i64 room, .slice A s.length c, .int .i64 n], .int .u64 i, .int .u64 k] w fun e w' => e = .returned (.bool true) ∧ Below w.heap.size w w' := by
  obtain ⟨i, rfl, _⟩ := nat_u64 hi
  obtain ⟨k, rfl, _⟩ := nat_u64 hk
  obtain ⟨z, hf⟩ : ∃ z, fewB s = z := ⟨_, rfl⟩
  cases z
  · exact rord_long (mkHid hf) A c w hA
  · by_cases hik : i = k
    · exact rord_same (mkHid hf) hik A c w hA
    · obtain ⟨P, r, e1⟩ : ∃ R r, rollAdd h room s n i = (R, r) := ⟨_, _, rfl⟩
      obtain ⟨Q, r2, e2⟩ : ∃ R r, rollAdd h room s n k = (R, r) := ⟨_, _, rfl⟩
      by_cases hr : r = 0
      · subst hr
        by_cases hr2 : r2 = 0
        · subst hr2
          obtain ⟨p1, q1, lp, lq, V, r3, e3, e4, cc⟩ := order_roll hik e1 e2
          rw [p1] at e1
          rw [q1] at e2
          rcases cc with ⟨_, rfl, rfl | rfl⟩ | ⟨rfl, v1, lv, ⟨_, e5⟩ | ⟨e5, e6, e7⟩⟩
          · exact rord_g6 (mkHid hf) hik (mkHid e1) (mkHid e2) (mkHid e3) (mkHid e4) A c w hA
          · exact rord_g9 (mkHid hf) hik (mkHid e1) (mkHid e2) (mkHid e3) (mkHid e4) A c w hA
          · rw [v1] at e3 e4
            exact rord_over (mkHid hf) hik (mkHid e1) (mkHid e2) (mkHid e3) (mkHid e4) lv lq (mkHid e5) A c w hA
          · rw [v1] at e3 e4
            exact rord_ok (mkHid hf) hik (mkHid e1) (mkHid e2) (mkHid e3) (mkHid e4) lv lq (mkHid e5) (mkHid e6) (mkHid e7) A c w hA
        · obtain rfl := add_err e2 hr2
          obtain ⟨_, _, _, _, _, _, rfl⟩ := add_ok e1
          exact rord_f (mkHid hf) hik (mkHid e1) (mkHid e2) hr2 A c w hA
      · obtain rfl := add_err e1 hr
        exact rord_e (mkHid hf) hik (mkHid e1) hr (mkHid e2) A c w hA
end Go.Proofs.Ytmehbonjpmlmfaa
