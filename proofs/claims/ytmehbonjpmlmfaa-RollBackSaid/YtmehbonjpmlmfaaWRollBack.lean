/- The walk of RollBack: the Go text answers true and writes nothing that was there. -/
import Derived.Test.YtmehbonjpmlmfaaRollP
namespace Go.Proofs.Ytmehbonjpmlmfaa
open Go.RowKit Go.Proofs.YtmehbonjpmlmfaaW.PrintWords

set_option maxRecDepth 100000 in
set_option maxHeartbeats 4000000 in
theorem rback_long {h room n : Int} {s : List Nat} {i : Nat} (hf : Hid (fewB s = false))  (A : Option Addr) (c : Nat) (w : World) (hA : Reads w A s) :
    Calls Try.prog 4 #[.agg #[.int .i64 h, .int .i64 room, .slice A s.length c, .int .i64 n], .int .u64 (i : Int)] w fun e w' => e = .returned (.bool true) ∧ Below w.heap.size w w' := by
  skip
  have ZX : Hid (Blk (w.alloc (.cells #[.int .i64 (h), .int .i64 (room), .slice A s.length c, .int .i64 (n)] 25)) w.heap.size 25 #[.int .i64 h, .int .i64 room, .slice A s.length c, .int .i64 n]) := mkHid (Blk.new _ _ _)
  have KB : Hid (Below w.heap.size w (w.alloc (.cells #[.int .i64 (h), .int .i64 (room), .slice A s.length c, .int .i64 (n)] 25))) := mkHid ((Below.refl _ _).alloc (Nat.le_refl _) _)
  have HA := mkHid (hA.below ((Below.refl _ _).alloc (Nat.le_refl _) (.cells #[.int .i64 (h), .int .i64 (room), .slice A s.length c, .int .i64 (n)] 25)))
  clear hA
  have cZX := ZX.out.four
  have lZX := ZX.out.lt
  go_enter Try.func4, Try.ntmps4
  go_wp2_with fail
  refine (live18 _).mono ?_
  rintro e w1 ⟨rfl, hb1⟩
  replace ZX := mkHid (ZX.out.keep hb1)
  replace KB := mkHid (KB.out.step hb1)
  replace HA := mkHid (HA.out.below hb1)
  clear cZX lZX
  have cZX := ZX.out.four
  have lZX := ZX.out.lt
  clear hb1
  go_wp2_with fail
  refine (few_any hf _ _ _).mono ?_
  rintro e w2 ⟨rfl, hb2⟩
  replace ZX := mkHid (ZX.out.keep hb2)
  replace KB := mkHid (KB.out.step hb2)
  replace HA := mkHid (HA.out.below hb2)
  clear cZX lZX
  have cZX := ZX.out.four
  have lZX := ZX.out.lt
  clear hb2
  go_wp2_with fail
  go_ret
  exact ⟨rfl, KB.out⟩

set_option maxRecDepth 100000 in
set_option maxHeartbeats 4000000 in
theorem rback_err {h room n : Int} {s : List Nat} {i : Nat} (hf : Hid (fewB s = true)) {r : Int} (e1 : Hid (rollAdd h room s n i = (⟨0, 0, [], 0⟩, r))) (hr : r ≠ 0)  (A : Option Addr) (c : Nat) (w : World) (hA : Reads w A s) :
    Calls Try.prog 4 #[.agg #[.int .i64 h, .int .i64 room, .slice A s.length c, .int .i64 n], .int .u64 (i : Int)] w fun e w' => e = .returned (.bool true) ∧ Below w.heap.size w w' := by
  have t0 : (r != (0 : Int)) = true := bne_iff_ne.2 hr
  have ZX : Hid (Blk (w.alloc (.cells #[.int .i64 (h), .int .i64 (room), .slice A s.length c, .int .i64 (n)] 25)) w.heap.size 25 #[.int .i64 h, .int .i64 room, .slice A s.length c, .int .i64 n]) := mkHid (Blk.new _ _ _)
  have KB : Hid (Below w.heap.size w (w.alloc (.cells #[.int .i64 (h), .int .i64 (room), .slice A s.length c, .int .i64 (n)] 25))) := mkHid ((Below.refl _ _).alloc (Nat.le_refl _) _)
  have HA := mkHid (hA.below ((Below.refl _ _).alloc (Nat.le_refl _) (.cells #[.int .i64 (h), .int .i64 (room), .slice A s.length c, .int .i64 (n)] 25)))
  clear hA
  have cZX := ZX.out.four
  have lZX := ZX.out.lt
  go_enter Try.func4, Try.ntmps4
  go_wp2_with fail
  refine (live18 _).mono ?_
  rintro e w1 ⟨rfl, hb1⟩
  replace ZX := mkHid (ZX.out.keep hb1)
  replace KB := mkHid (KB.out.step hb1)
  replace HA := mkHid (HA.out.below hb1)
  clear cZX lZX
  have cZX := ZX.out.four
  have lZX := ZX.out.lt
  clear hb1
  go_wp2_with fail
  refine (few_any hf _ _ _).mono ?_
  rintro e w2 ⟨rfl, hb2⟩
  replace ZX := mkHid (ZX.out.keep hb2)
  replace KB := mkHid (KB.out.step hb2)
  replace HA := mkHid (HA.out.below hb2)
  clear cZX lZX
  have cZX := ZX.out.four
  have lZX := ZX.out.lt
  clear hb2
  go_wp2_with fail
  refine (revoke_any e1 _ _ _ HA.out).mono ?_
  rintro e w3 ⟨v, rfl, ho, hb3⟩
  obtain ⟨va, vac, rfl, val, var, vam, vaz⟩ := Reads.of_rowOf ho
  clear ho var vam
  replace ZX := mkHid (ZX.out.keep hb3)
  replace KB := mkHid (KB.out.step hb3)
  replace HA := mkHid (HA.out.below hb3)
  clear cZX lZX
  have cZX := ZX.out.four
  have lZX := ZX.out.lt
  clear hb3
  have Sw3 : w.heap.size ≤ w3.heap.size := KB.out.size
  go_wp2_with fail
  replace ZX := mkHid (ZX.out.alloc (.cells #[.int .i64 (0), .int .i64 (0), .slice va 0 vac, .int .i64 (0)] 25))
  replace KB := mkHid (KB.out.alloc KB.out.size (.cells #[.int .i64 (0), .int .i64 (0), .slice va 0 vac, .int .i64 (0)] 25))
  replace HA := mkHid (HA.out.below ((Below.refl _ _).alloc (Nat.le_refl _) (.cells #[.int .i64 (0), .int .i64 (0), .slice va 0 vac, .int .i64 (0)] 25)))
  clear cZX lZX
  have cZX := ZX.out.four
  have lZX := ZX.out.lt
  have ZV : Hid (Blk (w3.alloc (.cells #[.int .i64 (0), .int .i64 (0), .slice va 0 vac, .int .i64 (0)] 25)) w3.heap.size 25 #[.int .i64 (0), .int .i64 (0), .slice va 0 vac, .int .i64 (0)]) := mkHid (Blk.new _ _ _)
  have cZV := ZV.out.four
  have lZV := ZV.out.lt
  go_ret
  exact ⟨rfl, KB.out⟩

set_option maxRecDepth 100000 in
set_option maxHeartbeats 4000000 in
theorem rback_over {h room n : Int} {s : List Nat} {i : Nat} (hf : Hid (fewB s = true)) {L : List Nat} (e1 : Hid (rollAdd h room s n i = (⟨h, room, L, n + 1⟩, 0))) (hn : n + 1 = 1099511627776) (e2 : Hid (rollDel h room L (n + 1) i = (⟨0, 0, [], 0⟩, 9)))  (A : Option Addr) (c : Nat) (w : World) (hA : Reads w A s) :
    Calls Try.prog 4 #[.agg #[.int .i64 h, .int .i64 room, .slice A s.length c, .int .i64 n], .int .u64 (i : Int)] w fun e w' => e = .returned (.bool true) ∧ Below w.heap.size w w' := by
  have t0 : (n + 1 == (1099511627776 : Int)) = true := beq_iff_eq.2 hn
  clear hn
  have ZX : Hid (Blk (w.alloc (.cells #[.int .i64 (h), .int .i64 (room), .slice A s.length c, .int .i64 (n)] 25)) w.heap.size 25 #[.int .i64 h, .int .i64 room, .slice A s.length c, .int .i64 n]) := mkHid (Blk.new _ _ _)
  have KB : Hid (Below w.heap.size w (w.alloc (.cells #[.int .i64 (h), .int .i64 (room), .slice A s.length c, .int .i64 (n)] 25))) := mkHid ((Below.refl _ _).alloc (Nat.le_refl _) _)
  have HA := mkHid (hA.below ((Below.refl _ _).alloc (Nat.le_refl _) (.cells #[.int .i64 (h), .int .i64 (room), .slice A s.length c, .int .i64 (n)] 25)))
  clear hA
  have cZX := ZX.out.four
  have lZX := ZX.out.lt
  go_enter Try.func4, Try.ntmps4
  go_wp2_with fail
  refine (live18 _).mono ?_
  rintro e w1 ⟨rfl, hb1⟩
  replace ZX := mkHid (ZX.out.keep hb1)
  replace KB := mkHid (KB.out.step hb1)
  replace HA := mkHid (HA.out.below hb1)
  clear cZX lZX
  have cZX := ZX.out.four
  have lZX := ZX.out.lt
  clear hb1
  go_wp2_with fail
  refine (few_any hf _ _ _).mono ?_
  rintro e w2 ⟨rfl, hb2⟩
  replace ZX := mkHid (ZX.out.keep hb2)
  replace KB := mkHid (KB.out.step hb2)
  replace HA := mkHid (HA.out.below hb2)
  clear cZX lZX
  have cZX := ZX.out.four
  have lZX := ZX.out.lt
  clear hb2
  go_wp2_with fail
  refine (revoke_any e1 _ _ _ HA.out).mono ?_
  rintro e w3 ⟨v, rfl, ho, hb3⟩
  obtain ⟨va, vac, rfl, val, var, vam, vaz⟩ := Reads.of_rowOf ho
  have Hva := mkHid var
  clear ho var vam
  replace ZX := mkHid (ZX.out.keep hb3)
  replace KB := mkHid (KB.out.step hb3)
  replace HA := mkHid (HA.out.below hb3)
  clear cZX lZX
  have cZX := ZX.out.four
  have lZX := ZX.out.lt
  clear hb3
  have Sw3 : w.heap.size ≤ w3.heap.size := KB.out.size
  go_wp2_with fail
  replace ZX := mkHid (ZX.out.alloc (.cells #[.int .i64 (h), .int .i64 (room), .slice va L.length vac, .int .i64 (n + 1)] 25))
  replace KB := mkHid (KB.out.alloc KB.out.size (.cells #[.int .i64 (h), .int .i64 (room), .slice va L.length vac, .int .i64 (n + 1)] 25))
  replace HA := mkHid (HA.out.below ((Below.refl _ _).alloc (Nat.le_refl _) (.cells #[.int .i64 (h), .int .i64 (room), .slice va L.length vac, .int .i64 (n + 1)] 25)))
  replace Hva := mkHid (Hva.out.below ((Below.refl _ _).alloc (Nat.le_refl _) (.cells #[.int .i64 (h), .int .i64 (room), .slice va L.length vac, .int .i64 (n + 1)] 25)))
  clear cZX lZX
  have cZX := ZX.out.four
  have lZX := ZX.out.lt
  have ZV : Hid (Blk (w3.alloc (.cells #[.int .i64 (h), .int .i64 (room), .slice va L.length vac, .int .i64 (n + 1)] 25)) w3.heap.size 25 #[.int .i64 (h), .int .i64 (room), .slice va L.length vac, .int .i64 (n + 1)]) := mkHid (Blk.new _ _ _)
  have cZV := ZV.out.four
  have lZV := ZV.out.lt
  refine (reinstate_any e2 _ _ _ Hva.out).mono ?_
  rintro e w4 ⟨v, rfl, ho, hb4⟩
  obtain ⟨vb, vbc, rfl, vbl, vbr, vbm, vbz⟩ := Reads.of_rowOf ho
  clear ho vbr vbm
  replace ZX := mkHid (ZX.out.keep hb4)
  replace KB := mkHid (KB.out.step hb4)
  replace HA := mkHid (HA.out.below hb4)
  replace Hva := mkHid (Hva.out.below hb4)
  replace ZV := mkHid (ZV.out.keep hb4)
  clear cZX lZX
  have cZX := ZX.out.four
  have lZX := ZX.out.lt
  clear cZV lZV
  have cZV := ZV.out.four
  have lZV := ZV.out.lt
  clear hb4
  have Sw4 : w.heap.size ≤ w4.heap.size := KB.out.size
  go_wp2_with fail
  replace ZX := mkHid (ZX.out.alloc (.cells #[.int .i64 (0), .int .i64 (0), .slice vb 0 vbc, .int .i64 (0)] 25))
  replace KB := mkHid (KB.out.alloc KB.out.size (.cells #[.int .i64 (0), .int .i64 (0), .slice vb 0 vbc, .int .i64 (0)] 25))
  replace HA := mkHid (HA.out.below ((Below.refl _ _).alloc (Nat.le_refl _) (.cells #[.int .i64 (0), .int .i64 (0), .slice vb 0 vbc, .int .i64 (0)] 25)))
  replace Hva := mkHid (Hva.out.below ((Below.refl _ _).alloc (Nat.le_refl _) (.cells #[.int .i64 (0), .int .i64 (0), .slice vb 0 vbc, .int .i64 (0)] 25)))
  replace ZV := mkHid (ZV.out.alloc (.cells #[.int .i64 (0), .int .i64 (0), .slice vb 0 vbc, .int .i64 (0)] 25))
  clear cZX lZX
  have cZX := ZX.out.four
  have lZX := ZX.out.lt
  clear cZV lZV
  have cZV := ZV.out.four
  have lZV := ZV.out.lt
  have ZU : Hid (Blk (w4.alloc (.cells #[.int .i64 (0), .int .i64 (0), .slice vb 0 vbc, .int .i64 (0)] 25)) w4.heap.size 25 #[.int .i64 (0), .int .i64 (0), .slice vb 0 vbc, .int .i64 (0)]) := mkHid (Blk.new _ _ _)
  have cZU := ZU.out.four
  have lZU := ZU.out.lt
  go_ret
  exact ⟨rfl, KB.out⟩

set_option maxRecDepth 100000 in
set_option maxHeartbeats 4000000 in
theorem rback_ok {h room n : Int} {s : List Nat} {i : Nat} (hf : Hid (fewB s = true)) {L : List Nat} (e1 : Hid (rollAdd h room s n i = (⟨h, room, L, n + 1⟩, 0))) (n0 : 0 ≤ n) (n1 : n < 1099511627776) (hl : s.length ≤ 1024) (e2 : Hid (rollDel h room L (n + 1) i = (⟨h, room, s, n + 1 + 1⟩, 0)))  (A : Option Addr) (c : Nat) (w : World) (hA : Reads w A s) :
    Calls Try.prog 4 #[.agg #[.int .i64 h, .int .i64 room, .slice A s.length c, .int .i64 n], .int .u64 (i : Int)] w fun e w' => e = .returned (.bool true) ∧ Below w.heap.size w w' := by
  have hs4 : s.length < 4611686018427387904 := by omega
  have eN : n + 1 + 1 - 2 = n := by omega
  have ZX : Hid (Blk (w.alloc (.cells #[.int .i64 (h), .int .i64 (room), .slice A s.length c, .int .i64 (n)] 25)) w.heap.size 25 #[.int .i64 h, .int .i64 room, .slice A s.length c, .int .i64 n]) := mkHid (Blk.new _ _ _)
  have KB : Hid (Below w.heap.size w (w.alloc (.cells #[.int .i64 (h), .int .i64 (room), .slice A s.length c, .int .i64 (n)] 25))) := mkHid ((Below.refl _ _).alloc (Nat.le_refl _) _)
  have HA := mkHid (hA.below ((Below.refl _ _).alloc (Nat.le_refl _) (.cells #[.int .i64 (h), .int .i64 (room), .slice A s.length c, .int .i64 (n)] 25)))
  clear hA
  have cZX := ZX.out.four
  have lZX := ZX.out.lt
  go_enter Try.func4, Try.ntmps4
  go_wp2_with fail
  refine (live18 _).mono ?_
  rintro e w1 ⟨rfl, hb1⟩
  replace ZX := mkHid (ZX.out.keep hb1)
  replace KB := mkHid (KB.out.step hb1)
  replace HA := mkHid (HA.out.below hb1)
  clear cZX lZX
  have cZX := ZX.out.four
  have lZX := ZX.out.lt
  clear hb1
  go_wp2_with fail
  refine (few_any hf _ _ _).mono ?_
  rintro e w2 ⟨rfl, hb2⟩
  replace ZX := mkHid (ZX.out.keep hb2)
  replace KB := mkHid (KB.out.step hb2)
  replace HA := mkHid (HA.out.below hb2)
  clear cZX lZX
  have cZX := ZX.out.four
  have lZX := ZX.out.lt
  clear hb2
  go_wp2_with fail
  refine (revoke_any e1 _ _ _ HA.out).mono ?_
  rintro e w3 ⟨v, rfl, ho, hb3⟩
  obtain ⟨va, vac, rfl, val, var, vam, vaz⟩ := Reads.of_rowOf ho
  have Hva := mkHid var
  clear ho var vam
  replace ZX := mkHid (ZX.out.keep hb3)
  replace KB := mkHid (KB.out.step hb3)
  replace HA := mkHid (HA.out.below hb3)
  clear cZX lZX
  have cZX := ZX.out.four
  have lZX := ZX.out.lt
  clear hb3
  have Sw3 : w.heap.size ≤ w3.heap.size := KB.out.size
  go_wp2_with fail
  replace ZX := mkHid (ZX.out.alloc (.cells #[.int .i64 (h), .int .i64 (room), .slice va L.length vac, .int .i64 (n + 1)] 25))
  replace KB := mkHid (KB.out.alloc KB.out.size (.cells #[.int .i64 (h), .int .i64 (room), .slice va L.length vac, .int .i64 (n + 1)] 25))
  replace HA := mkHid (HA.out.below ((Below.refl _ _).alloc (Nat.le_refl _) (.cells #[.int .i64 (h), .int .i64 (room), .slice va L.length vac, .int .i64 (n + 1)] 25)))
  replace Hva := mkHid (Hva.out.below ((Below.refl _ _).alloc (Nat.le_refl _) (.cells #[.int .i64 (h), .int .i64 (room), .slice va L.length vac, .int .i64 (n + 1)] 25)))
  clear cZX lZX
  have cZX := ZX.out.four
  have lZX := ZX.out.lt
  have ZV : Hid (Blk (w3.alloc (.cells #[.int .i64 (h), .int .i64 (room), .slice va L.length vac, .int .i64 (n + 1)] 25)) w3.heap.size 25 #[.int .i64 (h), .int .i64 (room), .slice va L.length vac, .int .i64 (n + 1)]) := mkHid (Blk.new _ _ _)
  have cZV := ZV.out.four
  have lZV := ZV.out.lt
  refine (reinstate_any e2 _ _ _ Hva.out).mono ?_
  rintro e w4 ⟨v, rfl, ho, hb4⟩
  obtain ⟨vb, vbc, rfl, vbl, vbr, vbm, vbz⟩ := Reads.of_rowOf ho
  have Hvb := mkHid vbr
  clear ho vbr vbm
  replace ZX := mkHid (ZX.out.keep hb4)
  replace KB := mkHid (KB.out.step hb4)
  replace HA := mkHid (HA.out.below hb4)
  replace Hva := mkHid (Hva.out.below hb4)
  replace ZV := mkHid (ZV.out.keep hb4)
  clear cZX lZX
  have cZX := ZX.out.four
  have lZX := ZX.out.lt
  clear cZV lZV
  have cZV := ZV.out.four
  have lZV := ZV.out.lt
  clear hb4
  have Sw4 : w.heap.size ≤ w4.heap.size := KB.out.size
  go_wp2_with fail
  replace ZX := mkHid (ZX.out.alloc (.cells #[.int .i64 (h), .int .i64 (room), .slice vb s.length vbc, .int .i64 (n)] 25))
  replace KB := mkHid (KB.out.alloc KB.out.size (.cells #[.int .i64 (h), .int .i64 (room), .slice vb s.length vbc, .int .i64 (n)] 25))
  replace HA := mkHid (HA.out.below ((Below.refl _ _).alloc (Nat.le_refl _) (.cells #[.int .i64 (h), .int .i64 (room), .slice vb s.length vbc, .int .i64 (n)] 25)))
  replace Hva := mkHid (Hva.out.below ((Below.refl _ _).alloc (Nat.le_refl _) (.cells #[.int .i64 (h), .int .i64 (room), .slice vb s.length vbc, .int .i64 (n)] 25)))
  replace ZV := mkHid (ZV.out.alloc (.cells #[.int .i64 (h), .int .i64 (room), .slice vb s.length vbc, .int .i64 (n)] 25))
  replace Hvb := mkHid (Hvb.out.below ((Below.refl _ _).alloc (Nat.le_refl _) (.cells #[.int .i64 (h), .int .i64 (room), .slice vb s.length vbc, .int .i64 (n)] 25)))
  clear cZX lZX
  have cZX := ZX.out.four
  have lZX := ZX.out.lt
  clear cZV lZV
  have cZV := ZV.out.four
  have lZV := ZV.out.lt
  have ZU : Hid (Blk (w4.alloc (.cells #[.int .i64 (h), .int .i64 (room), .slice vb s.length vbc, .int .i64 (n)] 25)) w4.heap.size 25 #[.int .i64 (h), .int .i64 (room), .slice vb s.length vbc, .int .i64 (n)]) := mkHid (Blk.new _ _ _)
  have cZU := ZU.out.four
  have lZU := ZU.out.lt
  refine (rsame (mkHid (decide_eq_true ⟨rfl, rfl, rfl, rfl⟩)) hs4 _ _ _ _ _ Hvb.out HA.out).mono ?_
  rintro e w5 ⟨rfl, hb5⟩
  replace ZX := mkHid (ZX.out.keep hb5)
  replace KB := mkHid (KB.out.step hb5)
  replace HA := mkHid (HA.out.below hb5)
  replace Hva := mkHid (Hva.out.below hb5)
  replace ZV := mkHid (ZV.out.keep hb5)
  replace Hvb := mkHid (Hvb.out.below hb5)
  replace ZU := mkHid (ZU.out.keep hb5)
  clear cZX lZX
  have cZX := ZX.out.four
  have lZX := ZX.out.lt
  clear cZV lZV
  have cZV := ZV.out.four
  have lZV := ZV.out.lt
  clear cZU lZU
  have cZU := ZU.out.four
  have lZU := ZU.out.lt
  clear hb5
  go_wp2_with fail
  go_ret
  exact ⟨rfl, KB.out⟩
theorem walk_RollBack {w : World} (h room n : Int) (A : Option Addr) (s : List Nat) (c : Nat) (_wn : (Lit.int .i64 n).wf = true) (_lc : s.length ≤ c) (_mc : c ≤ maxLen) (hA : Reads w A s) (_hz : A = none → c = 0) (i : Int) (hi : (Lit.int .u64 i).wf = true) :
    Calls Try.prog 4 #[.agg #[.int .i64 h, .int .i64 room, .slice A s.length c, .int .i64 n], .int .u64 i] w fun e w' => e = .returned (.bool true) ∧ Below w.heap.size w w' := by
  obtain ⟨i, rfl, _⟩ := nat_u64 hi
  obtain ⟨z, hf⟩ : ∃ z, fewB s = z := ⟨_, rfl⟩
  cases z
  · exact rback_long (mkHid hf) A c w hA
  · obtain ⟨R, r, e1⟩ : ∃ R r, rollAdd h room s n i = (R, r) := ⟨_, _, rfl⟩
    by_cases hr : r = 0
    · subst hr
      obtain ⟨a1, a2, a3, n0, n1, _, hl, e2⟩ := back_roll e1
      obtain ⟨Rh, Rr, Rs, Rn⟩ := R
      dsimp only at a1 a2 a3 e2
      subst a1 a2 a3
      by_cases hn : n + 1 = 1099511627776
      · rw [if_pos hn] at e2; exact rback_over (mkHid hf) (mkHid e1) hn (mkHid e2) A c w hA
      · rw [if_neg hn] at e2; exact rback_ok (mkHid hf) (mkHid e1) n0 n1 hl (mkHid e2) A c w hA
    · obtain rfl := add_err e1 hr
      exact rback_err (mkHid hf) (mkHid e1) hr A c w hA
end Go.Proofs.Ytmehbonjpmlmfaa
