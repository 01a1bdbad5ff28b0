/- The walk of RollDoes: the Go text answers true and writes nothing that was there. -/
import Derived.Test.YtmehbonjpmlmfaaRollP
import Derived.Deep.RegionHeld3
namespace Go.Proofs.Ytmehbonjpmlmfaa
open Go.RowKit Go.Proofs.YtmehbonjpmlmfaaW.PrintWords

theorem rollSame_refl (h room : Int) (s : List Nat) (n : Int) : Hid (rollSame h room s n h room s n = true) := decide_eq_true ⟨rfl, rfl, rfl, rfl⟩
theorem rollSame_nil (h room : Int) : Hid (rollSame h room [] 0 h room [] 0 = true) := rollSame_refl _ _ _ _
theorem srsame_nil (h room : Int) (w : World) : Calls Try.prog 24 #[.agg #[.int .i64 h, .int .i64 room, .slice none 0 0, .int .i64 0], .agg #[.int .i64 h, .int .i64 room, .slice none 0 0, .int .i64 0]] w fun e w' => e = .returned (.bool true) ∧ Below w.heap.size w w' := srsame (s := []) (t := []) (rollSame_refl _ _ _ _) (by decide) none none 0 0 w (Reads.nil _) (Reads.nil _)

set_option maxRecDepth 100000 in
set_option maxHeartbeats 8000000 in
theorem rdoes_long1 {h room n h2 room2 n2 hh rm : Int} {s s2 : List Nat} {i : Nat} (hf : Hid (fewB s = false))  (A A2 : Option Addr) (c c2 : Nat) (w : World) (hA : Reads w A s) (hA2 : Reads w A2 s2) :
    Calls Try.prog 5 #[.agg #[.int .i64 h, .int .i64 room, .slice A s.length c, .int .i64 n], .agg #[.int .i64 h2, .int .i64 room2, .slice A2 s2.length c2, .int .i64 n2], .int .i64 hh, .int .i64 rm, .int .u64 (i : Int)] w fun e w' => e = .returned (.bool true) ∧ Below w.heap.size w w' := by
  skip
  have ZX : Hid (Blk ((w.alloc (.cells #[.int .i64 (h), .int .i64 (room), .slice A s.length c, .int .i64 (n)] 25)).alloc (.cells #[.int .i64 (h2), .int .i64 (room2), .slice A2 s2.length c2, .int .i64 (n2)] 25)) w.heap.size 25 #[.int .i64 h, .int .i64 room, .slice A s.length c, .int .i64 n]) := mkHid ((Blk.new _ _ _).alloc _)
  have ZO : Hid (Blk ((w.alloc (.cells #[.int .i64 (h), .int .i64 (room), .slice A s.length c, .int .i64 (n)] 25)).alloc (.cells #[.int .i64 (h2), .int .i64 (room2), .slice A2 s2.length c2, .int .i64 (n2)] 25)) (w.heap.size + 1) 25 #[.int .i64 h2, .int .i64 room2, .slice A2 s2.length c2, .int .i64 n2]) := mkHid (Blk.at _ _ _ (by simp))
  have KB : Hid (Below w.heap.size w ((w.alloc (.cells #[.int .i64 (h), .int .i64 (room), .slice A s.length c, .int .i64 (n)] 25)).alloc (.cells #[.int .i64 (h2), .int .i64 (room2), .slice A2 s2.length c2, .int .i64 (n2)] 25))) := mkHid (((Below.refl _ _).alloc (Nat.le_refl _) (.cells #[.int .i64 (h), .int .i64 (room), .slice A s.length c, .int .i64 (n)] 25)).alloc (by simp) (.cells #[.int .i64 (h2), .int .i64 (room2), .slice A2 s2.length c2, .int .i64 (n2)] 25))
  have HA := mkHid (hA.below (((Below.refl _ _).alloc (Nat.le_refl _) (.cells #[.int .i64 (h), .int .i64 (room), .slice A s.length c, .int .i64 (n)] 25)).alloc (by simp) (.cells #[.int .i64 (h2), .int .i64 (room2), .slice A2 s2.length c2, .int .i64 (n2)] 25)))
  have HO := mkHid (hA2.below (((Below.refl _ _).alloc (Nat.le_refl _) (.cells #[.int .i64 (h), .int .i64 (room), .slice A s.length c, .int .i64 (n)] 25)).alloc (by simp) (.cells #[.int .i64 (h2), .int .i64 (room2), .slice A2 s2.length c2, .int .i64 (n2)] 25)))
  clear hA hA2
  have cZX := ZX.out.four
  have lZX := ZX.out.lt
  have cZO := ZO.out.four
  have lZO := ZO.out.lt
  go_enter Try.func5, Try.ntmps5
  go_wp2_with fail
  refine (live18 _).mono ?_
  rintro e w1 ⟨rfl, hb1⟩
  replace ZX := mkHid (ZX.out.keep hb1)
  replace ZO := mkHid (ZO.out.keep hb1)
  replace KB := mkHid (KB.out.step hb1)
  replace HA := mkHid (HA.out.below hb1)
  replace HO := mkHid (HO.out.below hb1)
  clear cZX lZX
  have cZX := ZX.out.four
  have lZX := ZX.out.lt
  clear cZO lZO
  have cZO := ZO.out.four
  have lZO := ZO.out.lt
  clear hb1
  go_wp2_with fail
  refine (few_any hf _ _ _).mono ?_
  rintro e w2 ⟨rfl, hb2⟩
  replace ZX := mkHid (ZX.out.keep hb2)
  replace ZO := mkHid (ZO.out.keep hb2)
  replace KB := mkHid (KB.out.step hb2)
  replace HA := mkHid (HA.out.below hb2)
  replace HO := mkHid (HO.out.below hb2)
  clear cZX lZX
  have cZX := ZX.out.four
  have lZX := ZX.out.lt
  clear cZO lZO
  have cZO := ZO.out.four
  have lZO := ZO.out.lt
  clear hb2
  go_wp2_with fail
  go_ret
  exact ⟨rfl, KB.out⟩

set_option maxRecDepth 100000 in
set_option maxHeartbeats 8000000 in
theorem rdoes_long2 {h room n h2 room2 n2 hh rm : Int} {s s2 : List Nat} {i : Nat} (hf : Hid (fewB s = true)) (hf2 : Hid (fewB s2 = false))  (A A2 : Option Addr) (c c2 : Nat) (w : World) (hA : Reads w A s) (hA2 : Reads w A2 s2) :
    Calls Try.prog 5 #[.agg #[.int .i64 h, .int .i64 room, .slice A s.length c, .int .i64 n], .agg #[.int .i64 h2, .int .i64 room2, .slice A2 s2.length c2, .int .i64 n2], .int .i64 hh, .int .i64 rm, .int .u64 (i : Int)] w fun e w' => e = .returned (.bool true) ∧ Below w.heap.size w w' := by
  skip
  have ZX : Hid (Blk ((w.alloc (.cells #[.int .i64 (h), .int .i64 (room), .slice A s.length c, .int .i64 (n)] 25)).alloc (.cells #[.int .i64 (h2), .int .i64 (room2), .slice A2 s2.length c2, .int .i64 (n2)] 25)) w.heap.size 25 #[.int .i64 h, .int .i64 room, .slice A s.length c, .int .i64 n]) := mkHid ((Blk.new _ _ _).alloc _)
  have ZO : Hid (Blk ((w.alloc (.cells #[.int .i64 (h), .int .i64 (room), .slice A s.length c, .int .i64 (n)] 25)).alloc (.cells #[.int .i64 (h2), .int .i64 (room2), .slice A2 s2.length c2, .int .i64 (n2)] 25)) (w.heap.size + 1) 25 #[.int .i64 h2, .int .i64 room2, .slice A2 s2.length c2, .int .i64 n2]) := mkHid (Blk.at _ _ _ (by simp))
  have KB : Hid (Below w.heap.size w ((w.alloc (.cells #[.int .i64 (h), .int .i64 (room), .slice A s.length c, .int .i64 (n)] 25)).alloc (.cells #[.int .i64 (h2), .int .i64 (room2), .slice A2 s2.length c2, .int .i64 (n2)] 25))) := mkHid (((Below.refl _ _).alloc (Nat.le_refl _) (.cells #[.int .i64 (h), .int .i64 (room), .slice A s.length c, .int .i64 (n)] 25)).alloc (by simp) (.cells #[.int .i64 (h2), .int .i64 (room2), .slice A2 s2.length c2, .int .i64 (n2)] 25))
  have HA := mkHid (hA.below (((Below.refl _ _).alloc (Nat.le_refl _) (.cells #[.int .i64 (h), .int .i64 (room), .slice A s.length c, .int .i64 (n)] 25)).alloc (by simp) (.cells #[.int .i64 (h2), .int .i64 (room2), .slice A2 s2.length c2, .int .i64 (n2)] 25)))
  have HO := mkHid (hA2.below (((Below.refl _ _).alloc (Nat.le_refl _) (.cells #[.int .i64 (h), .int .i64 (room), .slice A s.length c, .int .i64 (n)] 25)).alloc (by simp) (.cells #[.int .i64 (h2), .int .i64 (room2), .slice A2 s2.length c2, .int .i64 (n2)] 25)))
  clear hA hA2
  have cZX := ZX.out.four
  have lZX := ZX.out.lt
  have cZO := ZO.out.four
  have lZO := ZO.out.lt
  go_enter Try.func5, Try.ntmps5
  go_wp2_with fail
  refine (live18 _).mono ?_
  rintro e w1 ⟨rfl, hb1⟩
  replace ZX := mkHid (ZX.out.keep hb1)
  replace ZO := mkHid (ZO.out.keep hb1)
  replace KB := mkHid (KB.out.step hb1)
  replace HA := mkHid (HA.out.below hb1)
  replace HO := mkHid (HO.out.below hb1)
  clear cZX lZX
  have cZX := ZX.out.four
  have lZX := ZX.out.lt
  clear cZO lZO
  have cZO := ZO.out.four
  have lZO := ZO.out.lt
  clear hb1
  go_wp2_with fail
  refine (few_any hf _ _ _).mono ?_
  rintro e w2 ⟨rfl, hb2⟩
  replace ZX := mkHid (ZX.out.keep hb2)
  replace ZO := mkHid (ZO.out.keep hb2)
  replace KB := mkHid (KB.out.step hb2)
  replace HA := mkHid (HA.out.below hb2)
  replace HO := mkHid (HO.out.below hb2)
  clear cZX lZX
  have cZX := ZX.out.four
  have lZX := ZX.out.lt
  clear cZO lZO
  have cZO := ZO.out.four
  have lZO := ZO.out.lt
  clear hb2
  go_wp2_with fail
  refine (few_any hf2 _ _ _).mono ?_
  rintro e w3 ⟨rfl, hb3⟩
  replace ZX := mkHid (ZX.out.keep hb3)
  replace ZO := mkHid (ZO.out.keep hb3)
  replace KB := mkHid (KB.out.step hb3)
  replace HA := mkHid (HA.out.below hb3)
  replace HO := mkHid (HO.out.below hb3)
  clear cZX lZX
  have cZX := ZX.out.four
  have lZX := ZX.out.lt
  clear cZO lZO
  have cZO := ZO.out.four
  have lZO := ZO.out.lt
  clear hb3
  go_wp2_with fail
  go_ret
  exact ⟨rfl, KB.out⟩

set_option maxRecDepth 100000 in
set_option maxHeartbeats 8000000 in
theorem rdoes_ok {h room n h2 room2 n2 hh rm : Int} {s s2 : List Nat} {i : Nat} (hf : Hid (fewB s = true)) (hf2 : Hid (fewB s2 = true)) (hs' : s.length ≤ 1030) {P Q : RollA} {r1 r2 r3 r4 : Int} {z1 z2 : Bool} (e1 : Hid (rollAdd h room s n i = (P, r1))) (e2 : Hid (rollDel h room s n i = (Q, r2))) (e3 : Hid (rollIs h room s n i = (z1, r3))) (e4 : Hid (rollCheck h room s n = r4)) (e5 : Hid (rollSame h room s n h2 room2 s2 n2 = z2)) (l1 : P.s.length ≤ 1024) (l2 : Q.s.length ≤ 1024) (e6 : Hid (rollCheck hh rm [] 0 = 0))  (A A2 : Option Addr) (c c2 : Nat) (hz : A = none → c = 0) (w : World) (hA : Reads w A s) (hA2 : Reads w A2 s2) :
    Calls Try.prog 5 #[.agg #[.int .i64 h, .int .i64 room, .slice A s.length c, .int .i64 n], .agg #[.int .i64 h2, .int .i64 room2, .slice A2 s2.length c2, .int .i64 n2], .int .i64 hh, .int .i64 rm, .int .u64 (i : Int)] w fun e w' => e = .returned (.bool true) ∧ Below w.heap.size w w' := by
  have hs4 : s.length < 4611686018427387904 := by omega
  have p4 : P.s.length < 4611686018427387904 := by omega
  have q4 : Q.s.length < 4611686018427387904 := by omega
  have ZX : Hid (Blk ((w.alloc (.cells #[.int .i64 (h), .int .i64 (room), .slice A s.length c, .int .i64 (n)] 25)).alloc (.cells #[.int .i64 (h2), .int .i64 (room2), .slice A2 s2.length c2, .int .i64 (n2)] 25)) w.heap.size 25 #[.int .i64 h, .int .i64 room, .slice A s.length c, .int .i64 n]) := mkHid ((Blk.new _ _ _).alloc _)
  have ZO : Hid (Blk ((w.alloc (.cells #[.int .i64 (h), .int .i64 (room), .slice A s.length c, .int .i64 (n)] 25)).alloc (.cells #[.int .i64 (h2), .int .i64 (room2), .slice A2 s2.length c2, .int .i64 (n2)] 25)) (w.heap.size + 1) 25 #[.int .i64 h2, .int .i64 room2, .slice A2 s2.length c2, .int .i64 n2]) := mkHid (Blk.at _ _ _ (by simp))
  have KB : Hid (Below w.heap.size w ((w.alloc (.cells #[.int .i64 (h), .int .i64 (room), .slice A s.length c, .int .i64 (n)] 25)).alloc (.cells #[.int .i64 (h2), .int .i64 (room2), .slice A2 s2.length c2, .int .i64 (n2)] 25))) := mkHid (((Below.refl _ _).alloc (Nat.le_refl _) (.cells #[.int .i64 (h), .int .i64 (room), .slice A s.length c, .int .i64 (n)] 25)).alloc (by simp) (.cells #[.int .i64 (h2), .int .i64 (room2), .slice A2 s2.length c2, .int .i64 (n2)] 25))
  have HA := mkHid (hA.below (((Below.refl _ _).alloc (Nat.le_refl _) (.cells #[.int .i64 (h), .int .i64 (room), .slice A s.length c, .int .i64 (n)] 25)).alloc (by simp) (.cells #[.int .i64 (h2), .int .i64 (room2), .slice A2 s2.length c2, .int .i64 (n2)] 25)))
  have HO := mkHid (hA2.below (((Below.refl _ _).alloc (Nat.le_refl _) (.cells #[.int .i64 (h), .int .i64 (room), .slice A s.length c, .int .i64 (n)] 25)).alloc (by simp) (.cells #[.int .i64 (h2), .int .i64 (room2), .slice A2 s2.length c2, .int .i64 (n2)] 25)))
  clear hA hA2
  have cZX := ZX.out.four
  have lZX := ZX.out.lt
  have cZO := ZO.out.four
  have lZO := ZO.out.lt
  go_enter Try.func5, Try.ntmps5
  go_wp2_with fail
  refine (live18 _).mono ?_
  rintro e w1 ⟨rfl, hb1⟩
  replace ZX := mkHid (ZX.out.keep hb1)
  replace ZO := mkHid (ZO.out.keep hb1)
  replace KB := mkHid (KB.out.step hb1)
  replace HA := mkHid (HA.out.below hb1)
  replace HO := mkHid (HO.out.below hb1)
  clear cZX lZX
  have cZX := ZX.out.four
  have lZX := ZX.out.lt
  clear cZO lZO
  have cZO := ZO.out.four
  have lZO := ZO.out.lt
  clear hb1
  go_wp2_with fail
  refine (few_any hf _ _ _).mono ?_
  rintro e w2 ⟨rfl, hb2⟩
  replace ZX := mkHid (ZX.out.keep hb2)
  replace ZO := mkHid (ZO.out.keep hb2)
  replace KB := mkHid (KB.out.step hb2)
  replace HA := mkHid (HA.out.below hb2)
  replace HO := mkHid (HO.out.below hb2)
  clear cZX lZX
  have cZX := ZX.out.four
  have lZX := ZX.out.lt
  clear cZO lZO
  have cZO := ZO.out.four
  have lZO := ZO.out.lt
  clear hb2
  go_wp2_with fail
  refine (few_any hf2 _ _ _).mono ?_
  rintro e w3 ⟨rfl, hb3⟩
  replace ZX := mkHid (ZX.out.keep hb3)
  replace ZO := mkHid (ZO.out.keep hb3)
  replace KB := mkHid (KB.out.step hb3)
  replace HA := mkHid (HA.out.below hb3)
  replace HO := mkHid (HO.out.below hb3)
  clear cZX lZX
  have cZX := ZX.out.four
  have lZX := ZX.out.lt
  clear cZO lZO
  have cZO := ZO.out.four
  have lZO := ZO.out.lt
  clear hb3
  go_wp2_with (at_builtin; refine wpList_append_u64 (by first | rfl | simp [Region.wanted, yielded]) _ _ rfl w3.heap.size _ [] rfl (World.ownsRow_nil _ _ _ _) A c s rfl HA.out hz (by simp; omega) (Nat.le_refl _) ?_; intro v4 w4 ho4 hb4; rw [List.nil_append] at ho4; have _cx := (ZX.out.keep hb4).four)
  obtain ⟨WA, wk, rfl, lW, mW, RW⟩ := Reads.of_row ho4
  clear ho4
  replace ZX := mkHid (ZX.out.keep hb4)
  replace ZO := mkHid (ZO.out.keep hb4)
  replace KB := mkHid (KB.out.step hb4)
  replace HA := mkHid (HA.out.below hb4)
  replace HO := mkHid (HO.out.below hb4)
  clear cZX lZX
  have cZX := ZX.out.four
  have lZX := ZX.out.lt
  clear cZO lZO
  have cZO := ZO.out.four
  have lZO := ZO.out.lt
  have HW := mkHid RW
  clear hb4 RW
  have X4 : w.heap.size < w4.heap.size := ZX.out.lt
  have HA2 := HA
  have HW2 := HW
  have KB2 := KB
  have K2 : Hid (Below w4.heap.size w4 w4) := mkHid (Below.refl _ _)
  go_wp2_with fail
  refine (revoke_any e1 _ _ _ HA.out).mono ?_
  rintro e w5 ⟨v, rfl, ho, hb5⟩
  obtain ⟨va, vac, rfl, val, var, vam, vaz⟩ := Reads.of_rowOf ho
  have Hva := mkHid var
  have Mva := mkHid vam
  have qva := vam.lt
  have nva := hb5.size
  clear ho var vam
  replace ZX := mkHid (ZX.out.keep hb5)
  replace ZO := mkHid (ZO.out.keep hb5)
  replace KB := mkHid (KB.out.step hb5)
  replace HA := mkHid (HA.out.below hb5)
  replace HO := mkHid (HO.out.below hb5)
  replace HW := mkHid (HW.out.below hb5)
  replace K2 := mkHid (K2.out.step hb5)
  clear cZX lZX
  have cZX := ZX.out.four
  have lZX := ZX.out.lt
  clear cZO lZO
  have cZO := ZO.out.four
  have lZO := ZO.out.lt
  clear hb5
  have Sw5 : w.heap.size ≤ w5.heap.size := KB.out.size
  go_wp2_with fail
  replace ZX := mkHid (ZX.out.alloc (.cells #[.int .i64 (P.h), .int .i64 (P.room), .slice va P.s.length vac, .int .i64 (P.n)] 25))
  replace ZO := mkHid (ZO.out.alloc (.cells #[.int .i64 (P.h), .int .i64 (P.room), .slice va P.s.length vac, .int .i64 (P.n)] 25))
  replace KB := mkHid (KB.out.alloc KB.out.size (.cells #[.int .i64 (P.h), .int .i64 (P.room), .slice va P.s.length vac, .int .i64 (P.n)] 25))
  replace HA := mkHid (HA.out.below ((Below.refl _ _).alloc (Nat.le_refl _) (.cells #[.int .i64 (P.h), .int .i64 (P.room), .slice va P.s.length vac, .int .i64 (P.n)] 25)))
  replace HO := mkHid (HO.out.below ((Below.refl _ _).alloc (Nat.le_refl _) (.cells #[.int .i64 (P.h), .int .i64 (P.room), .slice va P.s.length vac, .int .i64 (P.n)] 25)))
  replace HW := mkHid (HW.out.below ((Below.refl _ _).alloc (Nat.le_refl _) (.cells #[.int .i64 (P.h), .int .i64 (P.room), .slice va P.s.length vac, .int .i64 (P.n)] 25)))
  replace K2 := mkHid (K2.out.alloc K2.out.size (.cells #[.int .i64 (P.h), .int .i64 (P.room), .slice va P.s.length vac, .int .i64 (P.n)] 25))
  replace Hva := mkHid (Hva.out.below ((Below.refl _ _).alloc (Nat.le_refl _) (.cells #[.int .i64 (P.h), .int .i64 (P.room), .slice va P.s.length vac, .int .i64 (P.n)] 25)))
  replace Mva := mkHid (Mva.out.below ((Below.refl _ _).alloc (Nat.le_refl _) (.cells #[.int .i64 (P.h), .int .i64 (P.room), .slice va P.s.length vac, .int .i64 (P.n)] 25)))
  clear cZX lZX
  have cZX := ZX.out.four
  have lZX := ZX.out.lt
  clear cZO lZO
  have cZO := ZO.out.four
  have lZO := ZO.out.lt
  have ZVA : Hid (Blk (w5.alloc (.cells #[.int .i64 (P.h), .int .i64 (P.room), .slice va P.s.length vac, .int .i64 (P.n)] 25)) w5.heap.size 25 #[.int .i64 (P.h), .int .i64 (P.room), .slice va P.s.length vac, .int .i64 (P.n)]) := mkHid (Blk.new _ _ _)
  have cZVA := ZVA.out.four
  have lZVA := ZVA.out.lt
  skip
  refine (srevoke_any e1 _ _ _ HA.out).mono ?_
  rintro e w6 ⟨v, rfl, ho, hb6⟩
  obtain ⟨vb, vbc, rfl, vbl, vbr, vbm, vbz⟩ := Reads.of_rowOf ho
  have Hvb := mkHid vbr
  have nvb := hb6.size
  clear ho vbr vbm
  replace ZX := mkHid (ZX.out.keep hb6)
  replace ZO := mkHid (ZO.out.keep hb6)
  replace KB := mkHid (KB.out.step hb6)
  replace HA := mkHid (HA.out.below hb6)
  replace HO := mkHid (HO.out.below hb6)
  replace HW := mkHid (HW.out.below hb6)
  replace K2 := mkHid (K2.out.step hb6)
  replace Hva := mkHid (Hva.out.below hb6)
  replace Mva := mkHid (Mva.out.below hb6)
  replace ZVA := mkHid (ZVA.out.keep hb6)
  clear cZX lZX
  have cZX := ZX.out.four
  have lZX := ZX.out.lt
  clear cZO lZO
  have cZO := ZO.out.four
  have lZO := ZO.out.lt
  clear cZVA lZVA
  have cZVA := ZVA.out.four
  have lZVA := ZVA.out.lt
  clear hb6
  have Sw6 : w.heap.size ≤ w6.heap.size := KB.out.size
  go_wp2_with fail
  replace ZX := mkHid (ZX.out.alloc (.cells #[.int .i64 (P.h), .int .i64 (P.room), .slice vb P.s.length vbc, .int .i64 (P.n)] 25))
  replace ZO := mkHid (ZO.out.alloc (.cells #[.int .i64 (P.h), .int .i64 (P.room), .slice vb P.s.length vbc, .int .i64 (P.n)] 25))
  replace KB := mkHid (KB.out.alloc KB.out.size (.cells #[.int .i64 (P.h), .int .i64 (P.room), .slice vb P.s.length vbc, .int .i64 (P.n)] 25))
  replace HA := mkHid (HA.out.below ((Below.refl _ _).alloc (Nat.le_refl _) (.cells #[.int .i64 (P.h), .int .i64 (P.room), .slice vb P.s.length vbc, .int .i64 (P.n)] 25)))
  replace HO := mkHid (HO.out.below ((Below.refl _ _).alloc (Nat.le_refl _) (.cells #[.int .i64 (P.h), .int .i64 (P.room), .slice vb P.s.length vbc, .int .i64 (P.n)] 25)))
  replace HW := mkHid (HW.out.below ((Below.refl _ _).alloc (Nat.le_refl _) (.cells #[.int .i64 (P.h), .int .i64 (P.room), .slice vb P.s.length vbc, .int .i64 (P.n)] 25)))
  replace K2 := mkHid (K2.out.alloc K2.out.size (.cells #[.int .i64 (P.h), .int .i64 (P.room), .slice vb P.s.length vbc, .int .i64 (P.n)] 25))
  replace Hva := mkHid (Hva.out.below ((Below.refl _ _).alloc (Nat.le_refl _) (.cells #[.int .i64 (P.h), .int .i64 (P.room), .slice vb P.s.length vbc, .int .i64 (P.n)] 25)))
  replace Mva := mkHid (Mva.out.below ((Below.refl _ _).alloc (Nat.le_refl _) (.cells #[.int .i64 (P.h), .int .i64 (P.room), .slice vb P.s.length vbc, .int .i64 (P.n)] 25)))
  replace ZVA := mkHid (ZVA.out.alloc (.cells #[.int .i64 (P.h), .int .i64 (P.room), .slice vb P.s.length vbc, .int .i64 (P.n)] 25))
  replace Hvb := mkHid (Hvb.out.below ((Below.refl _ _).alloc (Nat.le_refl _) (.cells #[.int .i64 (P.h), .int .i64 (P.room), .slice vb P.s.length vbc, .int .i64 (P.n)] 25)))
  clear cZX lZX
  have cZX := ZX.out.four
  have lZX := ZX.out.lt
  clear cZO lZO
  have cZO := ZO.out.four
  have lZO := ZO.out.lt
  clear cZVA lZVA
  have cZVA := ZVA.out.four
  have lZVA := ZVA.out.lt
  have ZVB : Hid (Blk (w6.alloc (.cells #[.int .i64 (P.h), .int .i64 (P.room), .slice vb P.s.length vbc, .int .i64 (P.n)] 25)) w6.heap.size 25 #[.int .i64 (P.h), .int .i64 (P.room), .slice vb P.s.length vbc, .int .i64 (P.n)]) := mkHid (Blk.new _ _ _)
  have cZVB := ZVB.out.four
  have lZVB := ZVB.out.lt
  refine (reinstate_any e2 _ _ _ HA.out).mono ?_
  rintro e w7 ⟨v, rfl, ho, hb7⟩
  obtain ⟨vc, vcc, rfl, vcl, vcr, vcm, vcz⟩ := Reads.of_rowOf ho
  have Hvc := mkHid vcr
  have Mvc := mkHid vcm
  have qvc := vcm.lt
  have nvc := hb7.size
  clear ho vcr vcm
  replace ZX := mkHid (ZX.out.keep hb7)
  replace ZO := mkHid (ZO.out.keep hb7)
  replace KB := mkHid (KB.out.step hb7)
  replace HA := mkHid (HA.out.below hb7)
  replace HO := mkHid (HO.out.below hb7)
  replace HW := mkHid (HW.out.below hb7)
  replace K2 := mkHid (K2.out.step hb7)
  replace Hva := mkHid (Hva.out.below hb7)
  replace Mva := mkHid (Mva.out.below hb7)
  replace ZVA := mkHid (ZVA.out.keep hb7)
  replace Hvb := mkHid (Hvb.out.below hb7)
  replace ZVB := mkHid (ZVB.out.keep hb7)
  clear cZX lZX
  have cZX := ZX.out.four
  have lZX := ZX.out.lt
  clear cZO lZO
  have cZO := ZO.out.four
  have lZO := ZO.out.lt
  clear cZVA lZVA
  have cZVA := ZVA.out.four
  have lZVA := ZVA.out.lt
  clear cZVB lZVB
  have cZVB := ZVB.out.four
  have lZVB := ZVB.out.lt
  clear hb7
  have Sw7 : w.heap.size ≤ w7.heap.size := KB.out.size
  go_wp2_with fail
  replace ZX := mkHid (ZX.out.alloc (.cells #[.int .i64 (Q.h), .int .i64 (Q.room), .slice vc Q.s.length vcc, .int .i64 (Q.n)] 25))
  replace ZO := mkHid (ZO.out.alloc (.cells #[.int .i64 (Q.h), .int .i64 (Q.room), .slice vc Q.s.length vcc, .int .i64 (Q.n)] 25))
  replace KB := mkHid (KB.out.alloc KB.out.size (.cells #[.int .i64 (Q.h), .int .i64 (Q.room), .slice vc Q.s.length vcc, .int .i64 (Q.n)] 25))
  replace HA := mkHid (HA.out.below ((Below.refl _ _).alloc (Nat.le_refl _) (.cells #[.int .i64 (Q.h), .int .i64 (Q.room), .slice vc Q.s.length vcc, .int .i64 (Q.n)] 25)))
  replace HO := mkHid (HO.out.below ((Below.refl _ _).alloc (Nat.le_refl _) (.cells #[.int .i64 (Q.h), .int .i64 (Q.room), .slice vc Q.s.length vcc, .int .i64 (Q.n)] 25)))
  replace HW := mkHid (HW.out.below ((Below.refl _ _).alloc (Nat.le_refl _) (.cells #[.int .i64 (Q.h), .int .i64 (Q.room), .slice vc Q.s.length vcc, .int .i64 (Q.n)] 25)))
  replace K2 := mkHid (K2.out.alloc K2.out.size (.cells #[.int .i64 (Q.h), .int .i64 (Q.room), .slice vc Q.s.length vcc, .int .i64 (Q.n)] 25))
  replace Hva := mkHid (Hva.out.below ((Below.refl _ _).alloc (Nat.le_refl _) (.cells #[.int .i64 (Q.h), .int .i64 (Q.room), .slice vc Q.s.length vcc, .int .i64 (Q.n)] 25)))
  replace Mva := mkHid (Mva.out.below ((Below.refl _ _).alloc (Nat.le_refl _) (.cells #[.int .i64 (Q.h), .int .i64 (Q.room), .slice vc Q.s.length vcc, .int .i64 (Q.n)] 25)))
  replace ZVA := mkHid (ZVA.out.alloc (.cells #[.int .i64 (Q.h), .int .i64 (Q.room), .slice vc Q.s.length vcc, .int .i64 (Q.n)] 25))
  replace Hvb := mkHid (Hvb.out.below ((Below.refl _ _).alloc (Nat.le_refl _) (.cells #[.int .i64 (Q.h), .int .i64 (Q.room), .slice vc Q.s.length vcc, .int .i64 (Q.n)] 25)))
  replace ZVB := mkHid (ZVB.out.alloc (.cells #[.int .i64 (Q.h), .int .i64 (Q.room), .slice vc Q.s.length vcc, .int .i64 (Q.n)] 25))
  replace Hvc := mkHid (Hvc.out.below ((Below.refl _ _).alloc (Nat.le_refl _) (.cells #[.int .i64 (Q.h), .int .i64 (Q.room), .slice vc Q.s.length vcc, .int .i64 (Q.n)] 25)))
  replace Mvc := mkHid (Mvc.out.below ((Below.refl _ _).alloc (Nat.le_refl _) (.cells #[.int .i64 (Q.h), .int .i64 (Q.room), .slice vc Q.s.length vcc, .int .i64 (Q.n)] 25)))
  clear cZX lZX
  have cZX := ZX.out.four
  have lZX := ZX.out.lt
  clear cZO lZO
  have cZO := ZO.out.four
  have lZO := ZO.out.lt
  clear cZVA lZVA
  have cZVA := ZVA.out.four
  have lZVA := ZVA.out.lt
  clear cZVB lZVB
  have cZVB := ZVB.out.four
  have lZVB := ZVB.out.lt
  have ZVC : Hid (Blk (w7.alloc (.cells #[.int .i64 (Q.h), .int .i64 (Q.room), .slice vc Q.s.length vcc, .int .i64 (Q.n)] 25)) w7.heap.size 25 #[.int .i64 (Q.h), .int .i64 (Q.room), .slice vc Q.s.length vcc, .int .i64 (Q.n)]) := mkHid (Blk.new _ _ _)
  have cZVC := ZVC.out.four
  have lZVC := ZVC.out.lt
  refine (sreinstate_any e2 _ _ _ HA.out).mono ?_
  rintro e w8 ⟨v, rfl, ho, hb8⟩
  obtain ⟨vd, vdc, rfl, vdl, vdr, vdm, vdz⟩ := Reads.of_rowOf ho
  have Hvd := mkHid vdr
  have nvd := hb8.size
  clear ho vdr vdm
  replace ZX := mkHid (ZX.out.keep hb8)
  replace ZO := mkHid (ZO.out.keep hb8)
  replace KB := mkHid (KB.out.step hb8)
  replace HA := mkHid (HA.out.below hb8)
  replace HO := mkHid (HO.out.below hb8)
  replace HW := mkHid (HW.out.below hb8)
  replace K2 := mkHid (K2.out.step hb8)
  replace Hva := mkHid (Hva.out.below hb8)
  replace Mva := mkHid (Mva.out.below hb8)
  replace ZVA := mkHid (ZVA.out.keep hb8)
  replace Hvb := mkHid (Hvb.out.below hb8)
  replace ZVB := mkHid (ZVB.out.keep hb8)
  replace Hvc := mkHid (Hvc.out.below hb8)
  replace Mvc := mkHid (Mvc.out.below hb8)
  replace ZVC := mkHid (ZVC.out.keep hb8)
  clear cZX lZX
  have cZX := ZX.out.four
  have lZX := ZX.out.lt
  clear cZO lZO
  have cZO := ZO.out.four
  have lZO := ZO.out.lt
  clear cZVA lZVA
  have cZVA := ZVA.out.four
  have lZVA := ZVA.out.lt
  clear cZVB lZVB
  have cZVB := ZVB.out.four
  have lZVB := ZVB.out.lt
  clear cZVC lZVC
  have cZVC := ZVC.out.four
  have lZVC := ZVC.out.lt
  clear hb8
  have Sw8 : w.heap.size ≤ w8.heap.size := KB.out.size
  go_wp2_with fail
  replace ZX := mkHid (ZX.out.alloc (.cells #[.int .i64 (Q.h), .int .i64 (Q.room), .slice vd Q.s.length vdc, .int .i64 (Q.n)] 25))
  replace ZO := mkHid (ZO.out.alloc (.cells #[.int .i64 (Q.h), .int .i64 (Q.room), .slice vd Q.s.length vdc, .int .i64 (Q.n)] 25))
  replace KB := mkHid (KB.out.alloc KB.out.size (.cells #[.int .i64 (Q.h), .int .i64 (Q.room), .slice vd Q.s.length vdc, .int .i64 (Q.n)] 25))
  replace HA := mkHid (HA.out.below ((Below.refl _ _).alloc (Nat.le_refl _) (.cells #[.int .i64 (Q.h), .int .i64 (Q.room), .slice vd Q.s.length vdc, .int .i64 (Q.n)] 25)))
  replace HO := mkHid (HO.out.below ((Below.refl _ _).alloc (Nat.le_refl _) (.cells #[.int .i64 (Q.h), .int .i64 (Q.room), .slice vd Q.s.length vdc, .int .i64 (Q.n)] 25)))
  replace HW := mkHid (HW.out.below ((Below.refl _ _).alloc (Nat.le_refl _) (.cells #[.int .i64 (Q.h), .int .i64 (Q.room), .slice vd Q.s.length vdc, .int .i64 (Q.n)] 25)))
  replace K2 := mkHid (K2.out.alloc K2.out.size (.cells #[.int .i64 (Q.h), .int .i64 (Q.room), .slice vd Q.s.length vdc, .int .i64 (Q.n)] 25))
  replace Hva := mkHid (Hva.out.below ((Below.refl _ _).alloc (Nat.le_refl _) (.cells #[.int .i64 (Q.h), .int .i64 (Q.room), .slice vd Q.s.length vdc, .int .i64 (Q.n)] 25)))
  replace Mva := mkHid (Mva.out.below ((Below.refl _ _).alloc (Nat.le_refl _) (.cells #[.int .i64 (Q.h), .int .i64 (Q.room), .slice vd Q.s.length vdc, .int .i64 (Q.n)] 25)))
  replace ZVA := mkHid (ZVA.out.alloc (.cells #[.int .i64 (Q.h), .int .i64 (Q.room), .slice vd Q.s.length vdc, .int .i64 (Q.n)] 25))
  replace Hvb := mkHid (Hvb.out.below ((Below.refl _ _).alloc (Nat.le_refl _) (.cells #[.int .i64 (Q.h), .int .i64 (Q.room), .slice vd Q.s.length vdc, .int .i64 (Q.n)] 25)))
  replace ZVB := mkHid (ZVB.out.alloc (.cells #[.int .i64 (Q.h), .int .i64 (Q.room), .slice vd Q.s.length vdc, .int .i64 (Q.n)] 25))
  replace Hvc := mkHid (Hvc.out.below ((Below.refl _ _).alloc (Nat.le_refl _) (.cells #[.int .i64 (Q.h), .int .i64 (Q.room), .slice vd Q.s.length vdc, .int .i64 (Q.n)] 25)))
  replace Mvc := mkHid (Mvc.out.below ((Below.refl _ _).alloc (Nat.le_refl _) (.cells #[.int .i64 (Q.h), .int .i64 (Q.room), .slice vd Q.s.length vdc, .int .i64 (Q.n)] 25)))
  replace ZVC := mkHid (ZVC.out.alloc (.cells #[.int .i64 (Q.h), .int .i64 (Q.room), .slice vd Q.s.length vdc, .int .i64 (Q.n)] 25))
  replace Hvd := mkHid (Hvd.out.below ((Below.refl _ _).alloc (Nat.le_refl _) (.cells #[.int .i64 (Q.h), .int .i64 (Q.room), .slice vd Q.s.length vdc, .int .i64 (Q.n)] 25)))
  clear cZX lZX
  have cZX := ZX.out.four
  have lZX := ZX.out.lt
  clear cZO lZO
  have cZO := ZO.out.four
  have lZO := ZO.out.lt
  clear cZVA lZVA
  have cZVA := ZVA.out.four
  have lZVA := ZVA.out.lt
  clear cZVB lZVB
  have cZVB := ZVB.out.four
  have lZVB := ZVB.out.lt
  clear cZVC lZVC
  have cZVC := ZVC.out.four
  have lZVC := ZVC.out.lt
  have ZVD : Hid (Blk (w8.alloc (.cells #[.int .i64 (Q.h), .int .i64 (Q.room), .slice vd Q.s.length vdc, .int .i64 (Q.n)] 25)) w8.heap.size 25 #[.int .i64 (Q.h), .int .i64 (Q.room), .slice vd Q.s.length vdc, .int .i64 (Q.n)]) := mkHid (Blk.new _ _ _)
  have cZVD := ZVD.out.four
  have lZVD := ZVD.out.lt
  refine (ris e3 _ _ _ HA.out).mono ?_
  rintro e w9 ⟨rfl, hb9⟩
  replace ZX := mkHid (ZX.out.keep hb9)
  replace ZO := mkHid (ZO.out.keep hb9)
  replace KB := mkHid (KB.out.step hb9)
  replace HA := mkHid (HA.out.below hb9)
  replace HO := mkHid (HO.out.below hb9)
  replace HW := mkHid (HW.out.below hb9)
  replace K2 := mkHid (K2.out.step hb9)
  replace Hva := mkHid (Hva.out.below hb9)
  replace Mva := mkHid (Mva.out.below hb9)
  replace ZVA := mkHid (ZVA.out.keep hb9)
  replace Hvb := mkHid (Hvb.out.below hb9)
  replace ZVB := mkHid (ZVB.out.keep hb9)
  replace Hvc := mkHid (Hvc.out.below hb9)
  replace Mvc := mkHid (Mvc.out.below hb9)
  replace ZVC := mkHid (ZVC.out.keep hb9)
  replace Hvd := mkHid (Hvd.out.below hb9)
  replace ZVD := mkHid (ZVD.out.keep hb9)
  clear cZX lZX
  have cZX := ZX.out.four
  have lZX := ZX.out.lt
  clear cZO lZO
  have cZO := ZO.out.four
  have lZO := ZO.out.lt
  clear cZVA lZVA
  have cZVA := ZVA.out.four
  have lZVA := ZVA.out.lt
  clear cZVB lZVB
  have cZVB := ZVB.out.four
  have lZVB := ZVB.out.lt
  clear cZVC lZVC
  have cZVC := ZVC.out.four
  have lZVC := ZVC.out.lt
  clear cZVD lZVD
  have cZVD := ZVD.out.four
  have lZVD := ZVD.out.lt
  clear hb9
  go_wp2_with fail
  refine (sris e3 _ _ _ HA.out).mono ?_
  rintro e w10 ⟨rfl, hb10⟩
  replace ZX := mkHid (ZX.out.keep hb10)
  replace ZO := mkHid (ZO.out.keep hb10)
  replace KB := mkHid (KB.out.step hb10)
  replace HA := mkHid (HA.out.below hb10)
  replace HO := mkHid (HO.out.below hb10)
  replace HW := mkHid (HW.out.below hb10)
  replace K2 := mkHid (K2.out.step hb10)
  replace Hva := mkHid (Hva.out.below hb10)
  replace Mva := mkHid (Mva.out.below hb10)
  replace ZVA := mkHid (ZVA.out.keep hb10)
  replace Hvb := mkHid (Hvb.out.below hb10)
  replace ZVB := mkHid (ZVB.out.keep hb10)
  replace Hvc := mkHid (Hvc.out.below hb10)
  replace Mvc := mkHid (Mvc.out.below hb10)
  replace ZVC := mkHid (ZVC.out.keep hb10)
  replace Hvd := mkHid (Hvd.out.below hb10)
  replace ZVD := mkHid (ZVD.out.keep hb10)
  clear cZX lZX
  have cZX := ZX.out.four
  have lZX := ZX.out.lt
  clear cZO lZO
  have cZO := ZO.out.four
  have lZO := ZO.out.lt
  clear cZVA lZVA
  have cZVA := ZVA.out.four
  have lZVA := ZVA.out.lt
  clear cZVB lZVB
  have cZVB := ZVB.out.four
  have lZVB := ZVB.out.lt
  clear cZVC lZVC
  have cZVC := ZVC.out.four
  have lZVC := ZVC.out.lt
  clear cZVD lZVD
  have cZVD := ZVD.out.four
  have lZVD := ZVD.out.lt
  clear hb10
  go_wp2_with fail
  refine (rnew_yes e6 _).mono ?_
  rintro e w11 ⟨rfl, hb11⟩
  replace ZX := mkHid (ZX.out.keep hb11)
  replace ZO := mkHid (ZO.out.keep hb11)
  replace KB := mkHid (KB.out.step hb11)
  replace HA := mkHid (HA.out.below hb11)
  replace HO := mkHid (HO.out.below hb11)
  replace HW := mkHid (HW.out.below hb11)
  replace K2 := mkHid (K2.out.step hb11)
  replace Hva := mkHid (Hva.out.below hb11)
  replace Mva := mkHid (Mva.out.below hb11)
  replace ZVA := mkHid (ZVA.out.keep hb11)
  replace Hvb := mkHid (Hvb.out.below hb11)
  replace ZVB := mkHid (ZVB.out.keep hb11)
  replace Hvc := mkHid (Hvc.out.below hb11)
  replace Mvc := mkHid (Mvc.out.below hb11)
  replace ZVC := mkHid (ZVC.out.keep hb11)
  replace Hvd := mkHid (Hvd.out.below hb11)
  replace ZVD := mkHid (ZVD.out.keep hb11)
  clear cZX lZX
  have cZX := ZX.out.four
  have lZX := ZX.out.lt
  clear cZO lZO
  have cZO := ZO.out.four
  have lZO := ZO.out.lt
  clear cZVA lZVA
  have cZVA := ZVA.out.four
  have lZVA := ZVA.out.lt
  clear cZVB lZVB
  have cZVB := ZVB.out.four
  have lZVB := ZVB.out.lt
  clear cZVC lZVC
  have cZVC := ZVC.out.four
  have lZVC := ZVC.out.lt
  clear cZVD lZVD
  have cZVD := ZVD.out.four
  have lZVD := ZVD.out.lt
  clear hb11
  have Sw11 : w.heap.size ≤ w11.heap.size := KB.out.size
  go_wp2_with fail
  replace ZX := mkHid (ZX.out.alloc (.cells #[.int .i64 (hh), .int .i64 (rm), .slice none 0 0, .int .i64 (0)] 25))
  replace ZO := mkHid (ZO.out.alloc (.cells #[.int .i64 (hh), .int .i64 (rm), .slice none 0 0, .int .i64 (0)] 25))
  replace KB := mkHid (KB.out.alloc KB.out.size (.cells #[.int .i64 (hh), .int .i64 (rm), .slice none 0 0, .int .i64 (0)] 25))
  replace HA := mkHid (HA.out.below ((Below.refl _ _).alloc (Nat.le_refl _) (.cells #[.int .i64 (hh), .int .i64 (rm), .slice none 0 0, .int .i64 (0)] 25)))
  replace HO := mkHid (HO.out.below ((Below.refl _ _).alloc (Nat.le_refl _) (.cells #[.int .i64 (hh), .int .i64 (rm), .slice none 0 0, .int .i64 (0)] 25)))
  replace HW := mkHid (HW.out.below ((Below.refl _ _).alloc (Nat.le_refl _) (.cells #[.int .i64 (hh), .int .i64 (rm), .slice none 0 0, .int .i64 (0)] 25)))
  replace K2 := mkHid (K2.out.alloc K2.out.size (.cells #[.int .i64 (hh), .int .i64 (rm), .slice none 0 0, .int .i64 (0)] 25))
  replace Hva := mkHid (Hva.out.below ((Below.refl _ _).alloc (Nat.le_refl _) (.cells #[.int .i64 (hh), .int .i64 (rm), .slice none 0 0, .int .i64 (0)] 25)))
  replace Mva := mkHid (Mva.out.below ((Below.refl _ _).alloc (Nat.le_refl _) (.cells #[.int .i64 (hh), .int .i64 (rm), .slice none 0 0, .int .i64 (0)] 25)))
  replace ZVA := mkHid (ZVA.out.alloc (.cells #[.int .i64 (hh), .int .i64 (rm), .slice none 0 0, .int .i64 (0)] 25))
  replace Hvb := mkHid (Hvb.out.below ((Below.refl _ _).alloc (Nat.le_refl _) (.cells #[.int .i64 (hh), .int .i64 (rm), .slice none 0 0, .int .i64 (0)] 25)))
  replace ZVB := mkHid (ZVB.out.alloc (.cells #[.int .i64 (hh), .int .i64 (rm), .slice none 0 0, .int .i64 (0)] 25))
  replace Hvc := mkHid (Hvc.out.below ((Below.refl _ _).alloc (Nat.le_refl _) (.cells #[.int .i64 (hh), .int .i64 (rm), .slice none 0 0, .int .i64 (0)] 25)))
  replace Mvc := mkHid (Mvc.out.below ((Below.refl _ _).alloc (Nat.le_refl _) (.cells #[.int .i64 (hh), .int .i64 (rm), .slice none 0 0, .int .i64 (0)] 25)))
  replace ZVC := mkHid (ZVC.out.alloc (.cells #[.int .i64 (hh), .int .i64 (rm), .slice none 0 0, .int .i64 (0)] 25))
  replace Hvd := mkHid (Hvd.out.below ((Below.refl _ _).alloc (Nat.le_refl _) (.cells #[.int .i64 (hh), .int .i64 (rm), .slice none 0 0, .int .i64 (0)] 25)))
  replace ZVD := mkHid (ZVD.out.alloc (.cells #[.int .i64 (hh), .int .i64 (rm), .slice none 0 0, .int .i64 (0)] 25))
  clear cZX lZX
  have cZX := ZX.out.four
  have lZX := ZX.out.lt
  clear cZO lZO
  have cZO := ZO.out.four
  have lZO := ZO.out.lt
  clear cZVA lZVA
  have cZVA := ZVA.out.four
  have lZVA := ZVA.out.lt
  clear cZVB lZVB
  have cZVB := ZVB.out.four
  have lZVB := ZVB.out.lt
  clear cZVC lZVC
  have cZVC := ZVC.out.four
  have lZVC := ZVC.out.lt
  clear cZVD lZVD
  have cZVD := ZVD.out.four
  have lZVD := ZVD.out.lt
  have ZNA : Hid (Blk (w11.alloc (.cells #[.int .i64 (hh), .int .i64 (rm), .slice none 0 0, .int .i64 (0)] 25)) w11.heap.size 25 #[.int .i64 (hh), .int .i64 (rm), .slice none 0 0, .int .i64 0]) := mkHid (Blk.new _ _ _)
  have cZNA := ZNA.out.four
  have lZNA := ZNA.out.lt
  refine (srnew_yes e6 _).mono ?_
  rintro e w12 ⟨rfl, hb12⟩
  replace ZX := mkHid (ZX.out.keep hb12)
  replace ZO := mkHid (ZO.out.keep hb12)
  replace KB := mkHid (KB.out.step hb12)
  replace HA := mkHid (HA.out.below hb12)
  replace HO := mkHid (HO.out.below hb12)
  replace HW := mkHid (HW.out.below hb12)
  replace K2 := mkHid (K2.out.step hb12)
  replace Hva := mkHid (Hva.out.below hb12)
  replace Mva := mkHid (Mva.out.below hb12)
  replace ZVA := mkHid (ZVA.out.keep hb12)
  replace Hvb := mkHid (Hvb.out.below hb12)
  replace ZVB := mkHid (ZVB.out.keep hb12)
  replace Hvc := mkHid (Hvc.out.below hb12)
  replace Mvc := mkHid (Mvc.out.below hb12)
  replace ZVC := mkHid (ZVC.out.keep hb12)
  replace Hvd := mkHid (Hvd.out.below hb12)
  replace ZVD := mkHid (ZVD.out.keep hb12)
  replace ZNA := mkHid (ZNA.out.keep hb12)
  clear cZX lZX
  have cZX := ZX.out.four
  have lZX := ZX.out.lt
  clear cZO lZO
  have cZO := ZO.out.four
  have lZO := ZO.out.lt
  clear cZVA lZVA
  have cZVA := ZVA.out.four
  have lZVA := ZVA.out.lt
  clear cZVB lZVB
  have cZVB := ZVB.out.four
  have lZVB := ZVB.out.lt
  clear cZVC lZVC
  have cZVC := ZVC.out.four
  have lZVC := ZVC.out.lt
  clear cZVD lZVD
  have cZVD := ZVD.out.four
  have lZVD := ZVD.out.lt
  clear cZNA lZNA
  have cZNA := ZNA.out.four
  have lZNA := ZNA.out.lt
  clear hb12
  have Sw12 : w.heap.size ≤ w12.heap.size := KB.out.size
  go_wp2_with fail
  replace ZX := mkHid (ZX.out.alloc (.cells #[.int .i64 (hh), .int .i64 (rm), .slice none 0 0, .int .i64 (0)] 25))
  replace ZO := mkHid (ZO.out.alloc (.cells #[.int .i64 (hh), .int .i64 (rm), .slice none 0 0, .int .i64 (0)] 25))
  replace KB := mkHid (KB.out.alloc KB.out.size (.cells #[.int .i64 (hh), .int .i64 (rm), .slice none 0 0, .int .i64 (0)] 25))
  replace HA := mkHid (HA.out.below ((Below.refl _ _).alloc (Nat.le_refl _) (.cells #[.int .i64 (hh), .int .i64 (rm), .slice none 0 0, .int .i64 (0)] 25)))
  replace HO := mkHid (HO.out.below ((Below.refl _ _).alloc (Nat.le_refl _) (.cells #[.int .i64 (hh), .int .i64 (rm), .slice none 0 0, .int .i64 (0)] 25)))
  replace HW := mkHid (HW.out.below ((Below.refl _ _).alloc (Nat.le_refl _) (.cells #[.int .i64 (hh), .int .i64 (rm), .slice none 0 0, .int .i64 (0)] 25)))
  replace K2 := mkHid (K2.out.alloc K2.out.size (.cells #[.int .i64 (hh), .int .i64 (rm), .slice none 0 0, .int .i64 (0)] 25))
  replace Hva := mkHid (Hva.out.below ((Below.refl _ _).alloc (Nat.le_refl _) (.cells #[.int .i64 (hh), .int .i64 (rm), .slice none 0 0, .int .i64 (0)] 25)))
  replace Mva := mkHid (Mva.out.below ((Below.refl _ _).alloc (Nat.le_refl _) (.cells #[.int .i64 (hh), .int .i64 (rm), .slice none 0 0, .int .i64 (0)] 25)))
  replace ZVA := mkHid (ZVA.out.alloc (.cells #[.int .i64 (hh), .int .i64 (rm), .slice none 0 0, .int .i64 (0)] 25))
  replace Hvb := mkHid (Hvb.out.below ((Below.refl _ _).alloc (Nat.le_refl _) (.cells #[.int .i64 (hh), .int .i64 (rm), .slice none 0 0, .int .i64 (0)] 25)))
  replace ZVB := mkHid (ZVB.out.alloc (.cells #[.int .i64 (hh), .int .i64 (rm), .slice none 0 0, .int .i64 (0)] 25))
  replace Hvc := mkHid (Hvc.out.below ((Below.refl _ _).alloc (Nat.le_refl _) (.cells #[.int .i64 (hh), .int .i64 (rm), .slice none 0 0, .int .i64 (0)] 25)))
  replace Mvc := mkHid (Mvc.out.below ((Below.refl _ _).alloc (Nat.le_refl _) (.cells #[.int .i64 (hh), .int .i64 (rm), .slice none 0 0, .int .i64 (0)] 25)))
  replace ZVC := mkHid (ZVC.out.alloc (.cells #[.int .i64 (hh), .int .i64 (rm), .slice none 0 0, .int .i64 (0)] 25))
  replace Hvd := mkHid (Hvd.out.below ((Below.refl _ _).alloc (Nat.le_refl _) (.cells #[.int .i64 (hh), .int .i64 (rm), .slice none 0 0, .int .i64 (0)] 25)))
  replace ZVD := mkHid (ZVD.out.alloc (.cells #[.int .i64 (hh), .int .i64 (rm), .slice none 0 0, .int .i64 (0)] 25))
  replace ZNA := mkHid (ZNA.out.alloc (.cells #[.int .i64 (hh), .int .i64 (rm), .slice none 0 0, .int .i64 (0)] 25))
  clear cZX lZX
  have cZX := ZX.out.four
  have lZX := ZX.out.lt
  clear cZO lZO
  have cZO := ZO.out.four
  have lZO := ZO.out.lt
  clear cZVA lZVA
  have cZVA := ZVA.out.four
  have lZVA := ZVA.out.lt
  clear cZVB lZVB
  have cZVB := ZVB.out.four
  have lZVB := ZVB.out.lt
  clear cZVC lZVC
  have cZVC := ZVC.out.four
  have lZVC := ZVC.out.lt
  clear cZVD lZVD
  have cZVD := ZVD.out.four
  have lZVD := ZVD.out.lt
  clear cZNA lZNA
  have cZNA := ZNA.out.four
  have lZNA := ZNA.out.lt
  have ZNB : Hid (Blk (w12.alloc (.cells #[.int .i64 (hh), .int .i64 (rm), .slice none 0 0, .int .i64 (0)] 25)) w12.heap.size 25 #[.int .i64 (hh), .int .i64 (rm), .slice none 0 0, .int .i64 0]) := mkHid (Blk.new _ _ _)
  have cZNB := ZNB.out.four
  have lZNB := ZNB.out.lt
  generalize hwS : w12.alloc (.cells #[.int .i64 (hh), .int .i64 (rm), .slice none 0 0, .int .i64 (0)] 25) = wS at *
  clear hwS
  have k0 : wS.cell? ⟨w.heap.size, 0, none⟩ = some (.int .i64 (h)) := ZX.out.cell 0
  have k1 : wS.cell? ⟨w.heap.size, 1, none⟩ = some (.int .i64 (room)) := ZX.out.cell 1
  have k2 : wS.cell? ⟨w.heap.size, 2, none⟩ = some (.slice A s.length c) := ZX.out.cell 2
  have k3 : wS.cell? ⟨w.heap.size, 3, none⟩ = some (.int .i64 (n)) := ZX.out.cell 3
  have k4 : wS.cell? ⟨w.heap.size + 1, 0, none⟩ = some (.int .i64 (h2)) := ZO.out.cell 0
  have k5 : wS.cell? ⟨w.heap.size + 1, 1, none⟩ = some (.int .i64 (room2)) := ZO.out.cell 1
  have k6 : wS.cell? ⟨w.heap.size + 1, 2, none⟩ = some (.slice A2 s2.length c2) := ZO.out.cell 2
  have k7 : wS.cell? ⟨w.heap.size + 1, 3, none⟩ = some (.int .i64 (n2)) := ZO.out.cell 3
  have k8 : wS.cell? ⟨w5.heap.size, 0, none⟩ = some (.int .i64 (P.h)) := ZVA.out.cell 0
  have k9 : wS.cell? ⟨w5.heap.size, 1, none⟩ = some (.int .i64 (P.room)) := ZVA.out.cell 1
  have k10 : wS.cell? ⟨w5.heap.size, 2, none⟩ = some (.slice va P.s.length vac) := ZVA.out.cell 2
  have k11 : wS.cell? ⟨w5.heap.size, 3, none⟩ = some (.int .i64 (P.n)) := ZVA.out.cell 3
  have k12 : wS.cell? ⟨w6.heap.size, 0, none⟩ = some (.int .i64 (P.h)) := ZVB.out.cell 0
  have k13 : wS.cell? ⟨w6.heap.size, 1, none⟩ = some (.int .i64 (P.room)) := ZVB.out.cell 1
  have k14 : wS.cell? ⟨w6.heap.size, 2, none⟩ = some (.slice vb P.s.length vbc) := ZVB.out.cell 2
  have k15 : wS.cell? ⟨w6.heap.size, 3, none⟩ = some (.int .i64 (P.n)) := ZVB.out.cell 3
  have k16 : wS.cell? ⟨w7.heap.size, 0, none⟩ = some (.int .i64 (Q.h)) := ZVC.out.cell 0
  have k17 : wS.cell? ⟨w7.heap.size, 1, none⟩ = some (.int .i64 (Q.room)) := ZVC.out.cell 1
  have k18 : wS.cell? ⟨w7.heap.size, 2, none⟩ = some (.slice vc Q.s.length vcc) := ZVC.out.cell 2
  have k19 : wS.cell? ⟨w7.heap.size, 3, none⟩ = some (.int .i64 (Q.n)) := ZVC.out.cell 3
  have k20 : wS.cell? ⟨w8.heap.size, 0, none⟩ = some (.int .i64 (Q.h)) := ZVD.out.cell 0
  have k21 : wS.cell? ⟨w8.heap.size, 1, none⟩ = some (.int .i64 (Q.room)) := ZVD.out.cell 1
  have k22 : wS.cell? ⟨w8.heap.size, 2, none⟩ = some (.slice vd Q.s.length vdc) := ZVD.out.cell 2
  have k23 : wS.cell? ⟨w8.heap.size, 3, none⟩ = some (.int .i64 (Q.n)) := ZVD.out.cell 3
  have k24 : wS.cell? ⟨w11.heap.size, 0, none⟩ = some (.int .i64 (hh)) := ZNA.out.cell 0
  have k25 : wS.cell? ⟨w11.heap.size, 1, none⟩ = some (.int .i64 (rm)) := ZNA.out.cell 1
  have k26 : wS.cell? ⟨w11.heap.size, 2, none⟩ = some (.slice none 0 0) := ZNA.out.cell 2
  have k27 : wS.cell? ⟨w11.heap.size, 3, none⟩ = some (.int .i64 (0)) := ZNA.out.cell 3
  have k28 : wS.cell? ⟨w12.heap.size, 0, none⟩ = some (.int .i64 (hh)) := ZNB.out.cell 0
  have k29 : wS.cell? ⟨w12.heap.size, 1, none⟩ = some (.int .i64 (rm)) := ZNB.out.cell 1
  have k30 : wS.cell? ⟨w12.heap.size, 2, none⟩ = some (.slice none 0 0) := ZNB.out.cell 2
  have k31 : wS.cell? ⟨w12.heap.size, 3, none⟩ = some (.int .i64 (0)) := ZNB.out.cell 3
  clear cZX lZX cZO lZO cZVA lZVA cZVB lZVB cZVC lZVC cZVD lZVD cZNA lZNA cZNB lZNB _cx
  have hb0 : Below wS.heap.size wS wS.drew := Below.drew (Below.refl _ _)
  go_region_held3 (fun w' => Below wS.heap.size wS w' ∧ w'.cell? ⟨w.heap.size, 0, none⟩ = some (.int .i64 (h)) ∧ w'.cell? ⟨w.heap.size, 1, none⟩ = some (.int .i64 (room)) ∧ w'.cell? ⟨w.heap.size, 2, none⟩ = some (.slice A s.length c) ∧ w'.cell? ⟨w.heap.size, 3, none⟩ = some (.int .i64 (n)) ∧ w'.cell? ⟨w.heap.size + 1, 0, none⟩ = some (.int .i64 (h2)) ∧ w'.cell? ⟨w.heap.size + 1, 1, none⟩ = some (.int .i64 (room2)) ∧ w'.cell? ⟨w.heap.size + 1, 2, none⟩ = some (.slice A2 s2.length c2) ∧ w'.cell? ⟨w.heap.size + 1, 3, none⟩ = some (.int .i64 (n2)) ∧ w'.cell? ⟨w5.heap.size, 0, none⟩ = some (.int .i64 (P.h)) ∧ w'.cell? ⟨w5.heap.size, 1, none⟩ = some (.int .i64 (P.room)) ∧ w'.cell? ⟨w5.heap.size, 2, none⟩ = some (.slice va P.s.length vac) ∧ w'.cell? ⟨w5.heap.size, 3, none⟩ = some (.int .i64 (P.n)) ∧ w'.cell? ⟨w6.heap.size, 0, none⟩ = some (.int .i64 (P.h)) ∧ w'.cell? ⟨w6.heap.size, 1, none⟩ = some (.int .i64 (P.room)) ∧ w'.cell? ⟨w6.heap.size, 2, none⟩ = some (.slice vb P.s.length vbc) ∧ w'.cell? ⟨w6.heap.size, 3, none⟩ = some (.int .i64 (P.n)) ∧ w'.cell? ⟨w7.heap.size, 0, none⟩ = some (.int .i64 (Q.h)) ∧ w'.cell? ⟨w7.heap.size, 1, none⟩ = some (.int .i64 (Q.room)) ∧ w'.cell? ⟨w7.heap.size, 2, none⟩ = some (.slice vc Q.s.length vcc) ∧ w'.cell? ⟨w7.heap.size, 3, none⟩ = some (.int .i64 (Q.n)) ∧ w'.cell? ⟨w8.heap.size, 0, none⟩ = some (.int .i64 (Q.h)) ∧ w'.cell? ⟨w8.heap.size, 1, none⟩ = some (.int .i64 (Q.room)) ∧ w'.cell? ⟨w8.heap.size, 2, none⟩ = some (.slice vd Q.s.length vdc) ∧ w'.cell? ⟨w8.heap.size, 3, none⟩ = some (.int .i64 (Q.n)) ∧ w'.cell? ⟨w11.heap.size, 0, none⟩ = some (.int .i64 (hh)) ∧ w'.cell? ⟨w11.heap.size, 1, none⟩ = some (.int .i64 (rm)) ∧ w'.cell? ⟨w11.heap.size, 2, none⟩ = some (.slice none 0 0) ∧ w'.cell? ⟨w11.heap.size, 3, none⟩ = some (.int .i64 (0)) ∧ w'.cell? ⟨w12.heap.size, 0, none⟩ = some (.int .i64 (hh)) ∧ w'.cell? ⟨w12.heap.size, 1, none⟩ = some (.int .i64 (rm)) ∧ w'.cell? ⟨w12.heap.size, 2, none⟩ = some (.slice none 0 0) ∧ w'.cell? ⟨w12.heap.size, 3, none⟩ = some (.int .i64 (0)))
    (first | ((try dsimp only); (try go_split_ands); refine ⟨?_, ?_, ?_, ?_, ?_, ?_, ?_, ?_, ?_, ?_, ?_, ?_, ?_, ?_, ?_, ?_, ?_, ?_, ?_, ?_, ?_, ?_, ?_, ?_, ?_, ?_, ?_, ?_, ?_, ?_, ?_, ?_, ?_⟩ <;> first | with_reducible assumption | exact Below.refl _ _ | exact (Below.refl _ _).drew) | (go_keep; done))
    (first
        | (go_at_call 24; ((with_reducible refine (srsame (rollSame_refl _ _ _ _) p4 _ _ _ _ _ (Hva.out.below (w1 := _) (by assumption)) (Hvb.out.below (w1 := _) (by assumption))).mono ?_); (try go_split_ands); rintro e wn ⟨rfl, hbn⟩; have hBw : Below wS.heap.size wS wn := Below.step (by assumption) hbn; clear hbn; have fc0 := keeps hBw k0; have fc1 := keeps hBw k1; have fc2 := keeps hBw k2; have fc3 := keeps hBw k3; have fc4 := keeps hBw k4; have fc5 := keeps hBw k5; have fc6 := keeps hBw k6; have fc7 := keeps hBw k7; have fc8 := keeps hBw k8; have fc9 := keeps hBw k9; have fc10 := keeps hBw k10; have fc11 := keeps hBw k11; have fc12 := keeps hBw k12; have fc13 := keeps hBw k13; have fc14 := keeps hBw k14; have fc15 := keeps hBw k15; have fc16 := keeps hBw k16; have fc17 := keeps hBw k17; have fc18 := keeps hBw k18; have fc19 := keeps hBw k19; have fc20 := keeps hBw k20; have fc21 := keeps hBw k21; have fc22 := keeps hBw k22; have fc23 := keeps hBw k23; have fc24 := keeps hBw k24; have fc25 := keeps hBw k25; have fc26 := keeps hBw k26; have fc27 := keeps hBw k27; have fc28 := keeps hBw k28; have fc29 := keeps hBw k29; have fc30 := keeps hBw k30; have fc31 := keeps hBw k31))
        | (go_at_call 24; ((with_reducible refine (srsame (rollSame_refl _ _ _ _) q4 _ _ _ _ _ (Hvc.out.below (w1 := _) (by assumption)) (Hvd.out.below (w1 := _) (by assumption))).mono ?_); (try go_split_ands); rintro e wn ⟨rfl, hbn⟩; have hBw : Below wS.heap.size wS wn := Below.step (by assumption) hbn; clear hbn; have fc0 := keeps hBw k0; have fc1 := keeps hBw k1; have fc2 := keeps hBw k2; have fc3 := keeps hBw k3; have fc4 := keeps hBw k4; have fc5 := keeps hBw k5; have fc6 := keeps hBw k6; have fc7 := keeps hBw k7; have fc8 := keeps hBw k8; have fc9 := keeps hBw k9; have fc10 := keeps hBw k10; have fc11 := keeps hBw k11; have fc12 := keeps hBw k12; have fc13 := keeps hBw k13; have fc14 := keeps hBw k14; have fc15 := keeps hBw k15; have fc16 := keeps hBw k16; have fc17 := keeps hBw k17; have fc18 := keeps hBw k18; have fc19 := keeps hBw k19; have fc20 := keeps hBw k20; have fc21 := keeps hBw k21; have fc22 := keeps hBw k22; have fc23 := keeps hBw k23; have fc24 := keeps hBw k24; have fc25 := keeps hBw k25; have fc26 := keeps hBw k26; have fc27 := keeps hBw k27; have fc28 := keeps hBw k28; have fc29 := keeps hBw k29; have fc30 := keeps hBw k30; have fc31 := keeps hBw k31))
        | (go_at_call 24; ((with_reducible refine (srsame_nil _ _ _).mono ?_); (try go_split_ands); rintro e wn ⟨rfl, hbn⟩; have hBw : Below wS.heap.size wS wn := Below.step (by assumption) hbn; clear hbn; have fc0 := keeps hBw k0; have fc1 := keeps hBw k1; have fc2 := keeps hBw k2; have fc3 := keeps hBw k3; have fc4 := keeps hBw k4; have fc5 := keeps hBw k5; have fc6 := keeps hBw k6; have fc7 := keeps hBw k7; have fc8 := keeps hBw k8; have fc9 := keeps hBw k9; have fc10 := keeps hBw k10; have fc11 := keeps hBw k11; have fc12 := keeps hBw k12; have fc13 := keeps hBw k13; have fc14 := keeps hBw k14; have fc15 := keeps hBw k15; have fc16 := keeps hBw k16; have fc17 := keeps hBw k17; have fc18 := keeps hBw k18; have fc19 := keeps hBw k19; have fc20 := keeps hBw k20; have fc21 := keeps hBw k21; have fc22 := keeps hBw k22; have fc23 := keeps hBw k23; have fc24 := keeps hBw k24; have fc25 := keeps hBw k25; have fc26 := keeps hBw k26; have fc27 := keeps hBw k27; have fc28 := keeps hBw k28; have fc29 := keeps hBw k29; have fc30 := keeps hBw k30; have fc31 := keeps hBw k31))
        | (go_at_call 17; ((with_reducible refine (rchk e4 _ _ _ (HA.out.below (w1 := _) (by assumption))).mono ?_); (try go_split_ands); rintro e wn ⟨rfl, hbn⟩; have hBw : Below wS.heap.size wS wn := Below.step (by assumption) hbn; clear hbn; have fc0 := keeps hBw k0; have fc1 := keeps hBw k1; have fc2 := keeps hBw k2; have fc3 := keeps hBw k3; have fc4 := keeps hBw k4; have fc5 := keeps hBw k5; have fc6 := keeps hBw k6; have fc7 := keeps hBw k7; have fc8 := keeps hBw k8; have fc9 := keeps hBw k9; have fc10 := keeps hBw k10; have fc11 := keeps hBw k11; have fc12 := keeps hBw k12; have fc13 := keeps hBw k13; have fc14 := keeps hBw k14; have fc15 := keeps hBw k15; have fc16 := keeps hBw k16; have fc17 := keeps hBw k17; have fc18 := keeps hBw k18; have fc19 := keeps hBw k19; have fc20 := keeps hBw k20; have fc21 := keeps hBw k21; have fc22 := keeps hBw k22; have fc23 := keeps hBw k23; have fc24 := keeps hBw k24; have fc25 := keeps hBw k25; have fc26 := keeps hBw k26; have fc27 := keeps hBw k27; have fc28 := keeps hBw k28; have fc29 := keeps hBw k29; have fc30 := keeps hBw k30; have fc31 := keeps hBw k31))
        | (go_at_call 25; ((with_reducible refine (schk e4 _ _ _ (HA.out.below (w1 := _) (by assumption))).mono ?_); (try go_split_ands); rintro e wn ⟨rfl, hbn⟩; have hBw : Below wS.heap.size wS wn := Below.step (by assumption) hbn; clear hbn; have fc0 := keeps hBw k0; have fc1 := keeps hBw k1; have fc2 := keeps hBw k2; have fc3 := keeps hBw k3; have fc4 := keeps hBw k4; have fc5 := keeps hBw k5; have fc6 := keeps hBw k6; have fc7 := keeps hBw k7; have fc8 := keeps hBw k8; have fc9 := keeps hBw k9; have fc10 := keeps hBw k10; have fc11 := keeps hBw k11; have fc12 := keeps hBw k12; have fc13 := keeps hBw k13; have fc14 := keeps hBw k14; have fc15 := keeps hBw k15; have fc16 := keeps hBw k16; have fc17 := keeps hBw k17; have fc18 := keeps hBw k18; have fc19 := keeps hBw k19; have fc20 := keeps hBw k20; have fc21 := keeps hBw k21; have fc22 := keeps hBw k22; have fc23 := keeps hBw k23; have fc24 := keeps hBw k24; have fc25 := keeps hBw k25; have fc26 := keeps hBw k26; have fc27 := keeps hBw k27; have fc28 := keeps hBw k28; have fc29 := keeps hBw k29; have fc30 := keeps hBw k30; have fc31 := keeps hBw k31))
        | (go_at_call 19; ((with_reducible refine (rsame e5 hs4 _ _ _ _ _ (HA.out.below (w1 := _) (by assumption)) (HO.out.below (w1 := _) (by assumption))).mono ?_); (try go_split_ands); rintro e wn ⟨rfl, hbn⟩; have hBw : Below wS.heap.size wS wn := Below.step (by assumption) hbn; clear hbn; have fc0 := keeps hBw k0; have fc1 := keeps hBw k1; have fc2 := keeps hBw k2; have fc3 := keeps hBw k3; have fc4 := keeps hBw k4; have fc5 := keeps hBw k5; have fc6 := keeps hBw k6; have fc7 := keeps hBw k7; have fc8 := keeps hBw k8; have fc9 := keeps hBw k9; have fc10 := keeps hBw k10; have fc11 := keeps hBw k11; have fc12 := keeps hBw k12; have fc13 := keeps hBw k13; have fc14 := keeps hBw k14; have fc15 := keeps hBw k15; have fc16 := keeps hBw k16; have fc17 := keeps hBw k17; have fc18 := keeps hBw k18; have fc19 := keeps hBw k19; have fc20 := keeps hBw k20; have fc21 := keeps hBw k21; have fc22 := keeps hBw k22; have fc23 := keeps hBw k23; have fc24 := keeps hBw k24; have fc25 := keeps hBw k25; have fc26 := keeps hBw k26; have fc27 := keeps hBw k27; have fc28 := keeps hBw k28; have fc29 := keeps hBw k29; have fc30 := keeps hBw k30; have fc31 := keeps hBw k31))
        | (go_at_call 24; ((with_reducible refine (srsame e5 hs4 _ _ _ _ _ (HA.out.below (w1 := _) (by assumption)) (HO.out.below (w1 := _) (by assumption))).mono ?_); (try go_split_ands); rintro e wn ⟨rfl, hbn⟩; have hBw : Below wS.heap.size wS wn := Below.step (by assumption) hbn; clear hbn; have fc0 := keeps hBw k0; have fc1 := keeps hBw k1; have fc2 := keeps hBw k2; have fc3 := keeps hBw k3; have fc4 := keeps hBw k4; have fc5 := keeps hBw k5; have fc6 := keeps hBw k6; have fc7 := keeps hBw k7; have fc8 := keeps hBw k8; have fc9 := keeps hBw k9; have fc10 := keeps hBw k10; have fc11 := keeps hBw k11; have fc12 := keeps hBw k12; have fc13 := keeps hBw k13; have fc14 := keeps hBw k14; have fc15 := keeps hBw k15; have fc16 := keeps hBw k16; have fc17 := keeps hBw k17; have fc18 := keeps hBw k18; have fc19 := keeps hBw k19; have fc20 := keeps hBw k20; have fc21 := keeps hBw k21; have fc22 := keeps hBw k22; have fc23 := keeps hBw k23; have fc24 := keeps hBw k24; have fc25 := keeps hBw k25; have fc26 := keeps hBw k26; have fc27 := keeps hBw k27; have fc28 := keeps hBw k28; have fc29 := keeps hBw k29; have fc30 := keeps hBw k30; have fc31 := keeps hBw k31)))
  replace K2 := mkHid (K2.out.step hBw)
  replace Mva := mkHid (Mva.out.below hBw)
  replace Mvc := mkHid (Mvc.out.below hBw)
  have XR := mkHid (ZX.out.keep hBw)
  have AR := mkHid (ZVA.out.keep hBw)
  have CR := mkHid (ZVC.out.keep hBw)
  simp at nva nvb nvc Mvc
  clear hb0 k0 k1 k2 k3 k4 k5 k6 k7 k8 k9 k10 k11 k12 k13 k14 k15 k16 k17 k18 k19 k20 k21 k22 k23 k24 k25 k26 k27 k28 k29 k30 k31 fc0 fc1 fc3 fc4 fc5 fc6 fc7 fc8 fc9 fc11 fc12 fc13 fc14 fc15 fc16 fc17 fc19 fc20 fc21 fc22 fc23 fc24 fc25 fc26 fc27 fc28 fc29 fc30 fc31 ZX ZO KB HA HO HW Hva Hvb Hvc Hvd ZVA ZVB ZVC ZVD ZNA ZNB hBw
  go_wp2_with fail
  go_loopw [150] (fun i wr => ∃ k : Nat, k ≤ P.s.length ∧ i = .int .i64 (k : Int) ∧ Hid (Below w4.heap.size w4 wr) ∧ Hid (Mine wr w4.heap.size va P.s.length) ∧ Hid (Mine wr (w6.heap.size + 1) vc Q.s.length) ∧ Blk wr w.heap.size 25 #[.int .i64 h, .int .i64 room, .slice A s.length c, .int .i64 n] ∧ Blk wr w5.heap.size 25 #[.int .i64 P.h, .int .i64 P.room, .slice va P.s.length vac, .int .i64 P.n] ∧ Blk wr w7.heap.size 25 #[.int .i64 Q.h, .int .i64 Q.room, .slice vc Q.s.length vcc, .int .i64 Q.n]) (fun i _ => P.s.length - (intOf i).toNat)
  case atStart => exact ⟨0, by omega, rfl, K2, Mva, Mvc, XR, AR, CR⟩
  case round =>
    clear K2 Mva Mvc XR AR CR
    obtain ⟨k, hk, rfl, hB, hM, hP, bX, bA, bC⟩ := hrel
    have cX := bX.cell 2
    have cA := bA.cell 2
    have cC := bC.cell 2
    by_cases hlt : k < P.s.length
    · obtain ⟨gb, rfl, hgb, hc⟩ := hM.out (by omega)
      obtain ⟨⟨y, cy⟩, fy⟩ := hc k hlt
      have hgl : gb < w5.heap.size := qva gb (by omega) rfl
      go_wp2
      go_roundw
      case rel => exact ⟨k + 1, by omega, by go_num, mkHid (hB.out.setCell hgb _), mkHid (hM.out.set k _), mkHid (hP.out.past (by omega) k _), bX.other _ (by omega), bA.other _ (by omega), bC.other _ (by omega)⟩
      case measure => simp [intOf]; omega
    · obtain rfl : k = P.s.length := by omega
      go_wp2_with fail
      go_loopw [164] (fun i wq => ∃ k : Nat, k ≤ Q.s.length ∧ i = .int .i64 (k : Int) ∧ Hid (Below w4.heap.size w4 wq) ∧ Hid (Mine wq (w6.heap.size + 1) vc Q.s.length) ∧ Blk wq w.heap.size 25 #[.int .i64 h, .int .i64 room, .slice A s.length c, .int .i64 n] ∧ Blk wq w7.heap.size 25 #[.int .i64 Q.h, .int .i64 Q.room, .slice vc Q.s.length vcc, .int .i64 Q.n]) (fun i _ => Q.s.length - (intOf i).toNat)
      case atStart => exact ⟨0, by omega, rfl, hB, hP, bX, bC⟩
      case round =>
        clear hB hP bX bC cX cA cC bA hM
        obtain ⟨k, hk, rfl, hB, hP, bX, bC⟩ := hrel
        have cX := bX.cell 2
        have cC := bC.cell 2
        by_cases hlt : k < Q.s.length
        · obtain ⟨gb, rfl, hgb, hc⟩ := hP.out (by omega)
          obtain ⟨⟨y, cy⟩, fy⟩ := hc k hlt
          have hgl : gb < w7.heap.size := qvc gb (by omega) rfl
          go_wp2
          go_roundw
          case rel => exact ⟨k + 1, by omega, by go_num, mkHid (hB.out.setCell (show w4.heap.size ≤ gb by omega) _), mkHid (hP.out.set k _), bX.other _ (by omega), bC.other _ (by omega)⟩
          case measure => simp [intOf]; omega
        · obtain rfl : k = Q.s.length := by omega
          have hAe := HA2.out.below hB.out
          have hWe := HW2.out.below hB.out
          go_wp2_with fail
          refine (ssame_any (mkHid (decide_eq_true rfl)) hs4 _ _ _ _ _ hAe hWe).mono ?_
          rintro e we ⟨rfl, hbe⟩
          have hF := mkHid (KB2.out.step (hB.out.step hbe))
          clear hbe hAe hWe hB hP
          go_wp2_with fail
          go_ret
          exact ⟨rfl, hF.out⟩

set_option maxRecDepth 100000 in
set_option maxHeartbeats 8000000 in
theorem rdoes_no {h room n h2 room2 n2 hh rm : Int} {s s2 : List Nat} {i : Nat} (hf : Hid (fewB s = true)) (hf2 : Hid (fewB s2 = true)) (hs' : s.length ≤ 1030) {P Q : RollA} {r1 r2 r3 r4 : Int} {z1 z2 : Bool} (e1 : Hid (rollAdd h room s n i = (P, r1))) (e2 : Hid (rollDel h room s n i = (Q, r2))) (e3 : Hid (rollIs h room s n i = (z1, r3))) (e4 : Hid (rollCheck h room s n = r4)) (e5 : Hid (rollSame h room s n h2 room2 s2 n2 = z2)) (l1 : P.s.length ≤ 1024) (l2 : Q.s.length ≤ 1024) (e6 : Hid (rollCheck hh rm [] 0 = 1))  (A A2 : Option Addr) (c c2 : Nat) (hz : A = none → c = 0) (w : World) (hA : Reads w A s) (hA2 : Reads w A2 s2) :
    Calls Try.prog 5 #[.agg #[.int .i64 h, .int .i64 room, .slice A s.length c, .int .i64 n], .agg #[.int .i64 h2, .int .i64 room2, .slice A2 s2.length c2, .int .i64 n2], .int .i64 hh, .int .i64 rm, .int .u64 (i : Int)] w fun e w' => e = .returned (.bool true) ∧ Below w.heap.size w w' := by
  have hs4 : s.length < 4611686018427387904 := by omega
  have p4 : P.s.length < 4611686018427387904 := by omega
  have q4 : Q.s.length < 4611686018427387904 := by omega
  have ZX : Hid (Blk ((w.alloc (.cells #[.int .i64 (h), .int .i64 (room), .slice A s.length c, .int .i64 (n)] 25)).alloc (.cells #[.int .i64 (h2), .int .i64 (room2), .slice A2 s2.length c2, .int .i64 (n2)] 25)) w.heap.size 25 #[.int .i64 h, .int .i64 room, .slice A s.length c, .int .i64 n]) := mkHid ((Blk.new _ _ _).alloc _)
  have ZO : Hid (Blk ((w.alloc (.cells #[.int .i64 (h), .int .i64 (room), .slice A s.length c, .int .i64 (n)] 25)).alloc (.cells #[.int .i64 (h2), .int .i64 (room2), .slice A2 s2.length c2, .int .i64 (n2)] 25)) (w.heap.size + 1) 25 #[.int .i64 h2, .int .i64 room2, .slice A2 s2.length c2, .int .i64 n2]) := mkHid (Blk.at _ _ _ (by simp))
  have KB : Hid (Below w.heap.size w ((w.alloc (.cells #[.int .i64 (h), .int .i64 (room), .slice A s.length c, .int .i64 (n)] 25)).alloc (.cells #[.int .i64 (h2), .int .i64 (room2), .slice A2 s2.length c2, .int .i64 (n2)] 25))) := mkHid (((Below.refl _ _).alloc (Nat.le_refl _) (.cells #[.int .i64 (h), .int .i64 (room), .slice A s.length c, .int .i64 (n)] 25)).alloc (by simp) (.cells #[.int .i64 (h2), .int .i64 (room2), .slice A2 s2.length c2, .int .i64 (n2)] 25))
  have HA := mkHid (hA.below (((Below.refl _ _).alloc (Nat.le_refl _) (.cells #[.int .i64 (h), .int .i64 (room), .slice A s.length c, .int .i64 (n)] 25)).alloc (by simp) (.cells #[.int .i64 (h2), .int .i64 (room2), .slice A2 s2.length c2, .int .i64 (n2)] 25)))
  have HO := mkHid (hA2.below (((Below.refl _ _).alloc (Nat.le_refl _) (.cells #[.int .i64 (h), .int .i64 (room), .slice A s.length c, .int .i64 (n)] 25)).alloc (by simp) (.cells #[.int .i64 (h2), .int .i64 (room2), .slice A2 s2.length c2, .int .i64 (n2)] 25)))
  clear hA hA2
  have cZX := ZX.out.four
  have lZX := ZX.out.lt
  have cZO := ZO.out.four
  have lZO := ZO.out.lt
  go_enter Try.func5, Try.ntmps5
  go_wp2_with fail
  refine (live18 _).mono ?_
  rintro e w1 ⟨rfl, hb1⟩
  replace ZX := mkHid (ZX.out.keep hb1)
  replace ZO := mkHid (ZO.out.keep hb1)
  replace KB := mkHid (KB.out.step hb1)
  replace HA := mkHid (HA.out.below hb1)
  replace HO := mkHid (HO.out.below hb1)
  clear cZX lZX
  have cZX := ZX.out.four
  have lZX := ZX.out.lt
  clear cZO lZO
  have cZO := ZO.out.four
  have lZO := ZO.out.lt
  clear hb1
  go_wp2_with fail
  refine (few_any hf _ _ _).mono ?_
  rintro e w2 ⟨rfl, hb2⟩
  replace ZX := mkHid (ZX.out.keep hb2)
  replace ZO := mkHid (ZO.out.keep hb2)
  replace KB := mkHid (KB.out.step hb2)
  replace HA := mkHid (HA.out.below hb2)
  replace HO := mkHid (HO.out.below hb2)
  clear cZX lZX
  have cZX := ZX.out.four
  have lZX := ZX.out.lt
  clear cZO lZO
  have cZO := ZO.out.four
  have lZO := ZO.out.lt
  clear hb2
  go_wp2_with fail
  refine (few_any hf2 _ _ _).mono ?_
  rintro e w3 ⟨rfl, hb3⟩
  replace ZX := mkHid (ZX.out.keep hb3)
  replace ZO := mkHid (ZO.out.keep hb3)
  replace KB := mkHid (KB.out.step hb3)
  replace HA := mkHid (HA.out.below hb3)
  replace HO := mkHid (HO.out.below hb3)
  clear cZX lZX
  have cZX := ZX.out.four
  have lZX := ZX.out.lt
  clear cZO lZO
  have cZO := ZO.out.four
  have lZO := ZO.out.lt
  clear hb3
  go_wp2_with (at_builtin; refine wpList_append_u64 (by first | rfl | simp [Region.wanted, yielded]) _ _ rfl w3.heap.size _ [] rfl (World.ownsRow_nil _ _ _ _) A c s rfl HA.out hz (by simp; omega) (Nat.le_refl _) ?_; intro v4 w4 ho4 hb4; rw [List.nil_append] at ho4; have _cx := (ZX.out.keep hb4).four)
  obtain ⟨WA, wk, rfl, lW, mW, RW⟩ := Reads.of_row ho4
  clear ho4
  replace ZX := mkHid (ZX.out.keep hb4)
  replace ZO := mkHid (ZO.out.keep hb4)
  replace KB := mkHid (KB.out.step hb4)
  replace HA := mkHid (HA.out.below hb4)
  replace HO := mkHid (HO.out.below hb4)
  clear cZX lZX
  have cZX := ZX.out.four
  have lZX := ZX.out.lt
  clear cZO lZO
  have cZO := ZO.out.four
  have lZO := ZO.out.lt
  have HW := mkHid RW
  clear hb4 RW
  have X4 : w.heap.size < w4.heap.size := ZX.out.lt
  have HA2 := HA
  have HW2 := HW
  have KB2 := KB
  have K2 : Hid (Below w4.heap.size w4 w4) := mkHid (Below.refl _ _)
  go_wp2_with fail
  refine (revoke_any e1 _ _ _ HA.out).mono ?_
  rintro e w5 ⟨v, rfl, ho, hb5⟩
  obtain ⟨va, vac, rfl, val, var, vam, vaz⟩ := Reads.of_rowOf ho
  have Hva := mkHid var
  have Mva := mkHid vam
  have qva := vam.lt
  have nva := hb5.size
  clear ho var vam
  replace ZX := mkHid (ZX.out.keep hb5)
  replace ZO := mkHid (ZO.out.keep hb5)
  replace KB := mkHid (KB.out.step hb5)
  replace HA := mkHid (HA.out.below hb5)
  replace HO := mkHid (HO.out.below hb5)
  replace HW := mkHid (HW.out.below hb5)
  replace K2 := mkHid (K2.out.step hb5)
  clear cZX lZX
  have cZX := ZX.out.four
  have lZX := ZX.out.lt
  clear cZO lZO
  have cZO := ZO.out.four
  have lZO := ZO.out.lt
  clear hb5
  have Sw5 : w.heap.size ≤ w5.heap.size := KB.out.size
  go_wp2_with fail
  replace ZX := mkHid (ZX.out.alloc (.cells #[.int .i64 (P.h), .int .i64 (P.room), .slice va P.s.length vac, .int .i64 (P.n)] 25))
  replace ZO := mkHid (ZO.out.alloc (.cells #[.int .i64 (P.h), .int .i64 (P.room), .slice va P.s.length vac, .int .i64 (P.n)] 25))
  replace KB := mkHid (KB.out.alloc KB.out.size (.cells #[.int .i64 (P.h), .int .i64 (P.room), .slice va P.s.length vac, .int .i64 (P.n)] 25))
  replace HA := mkHid (HA.out.below ((Below.refl _ _).alloc (Nat.le_refl _) (.cells #[.int .i64 (P.h), .int .i64 (P.room), .slice va P.s.length vac, .int .i64 (P.n)] 25)))
  replace HO := mkHid (HO.out.below ((Below.refl _ _).alloc (Nat.le_refl _) (.cells #[.int .i64 (P.h), .int .i64 (P.room), .slice va P.s.length vac, .int .i64 (P.n)] 25)))
  replace HW := mkHid (HW.out.below ((Below.refl _ _).alloc (Nat.le_refl _) (.cells #[.int .i64 (P.h), .int .i64 (P.room), .slice va P.s.length vac, .int .i64 (P.n)] 25)))
  replace K2 := mkHid (K2.out.alloc K2.out.size (.cells #[.int .i64 (P.h), .int .i64 (P.room), .slice va P.s.length vac, .int .i64 (P.n)] 25))
  replace Hva := mkHid (Hva.out.below ((Below.refl _ _).alloc (Nat.le_refl _) (.cells #[.int .i64 (P.h), .int .i64 (P.room), .slice va P.s.length vac, .int .i64 (P.n)] 25)))
  replace Mva := mkHid (Mva.out.below ((Below.refl _ _).alloc (Nat.le_refl _) (.cells #[.int .i64 (P.h), .int .i64 (P.room), .slice va P.s.length vac, .int .i64 (P.n)] 25)))
  clear cZX lZX
  have cZX := ZX.out.four
  have lZX := ZX.out.lt
  clear cZO lZO
  have cZO := ZO.out.four
  have lZO := ZO.out.lt
  have ZVA : Hid (Blk (w5.alloc (.cells #[.int .i64 (P.h), .int .i64 (P.room), .slice va P.s.length vac, .int .i64 (P.n)] 25)) w5.heap.size 25 #[.int .i64 (P.h), .int .i64 (P.room), .slice va P.s.length vac, .int .i64 (P.n)]) := mkHid (Blk.new _ _ _)
  have cZVA := ZVA.out.four
  have lZVA := ZVA.out.lt
  skip
  refine (srevoke_any e1 _ _ _ HA.out).mono ?_
  rintro e w6 ⟨v, rfl, ho, hb6⟩
  obtain ⟨vb, vbc, rfl, vbl, vbr, vbm, vbz⟩ := Reads.of_rowOf ho
  have Hvb := mkHid vbr
  have nvb := hb6.size
  clear ho vbr vbm
  replace ZX := mkHid (ZX.out.keep hb6)
  replace ZO := mkHid (ZO.out.keep hb6)
  replace KB := mkHid (KB.out.step hb6)
  replace HA := mkHid (HA.out.below hb6)
  replace HO := mkHid (HO.out.below hb6)
  replace HW := mkHid (HW.out.below hb6)
  replace K2 := mkHid (K2.out.step hb6)
  replace Hva := mkHid (Hva.out.below hb6)
  replace Mva := mkHid (Mva.out.below hb6)
  replace ZVA := mkHid (ZVA.out.keep hb6)
  clear cZX lZX
  have cZX := ZX.out.four
  have lZX := ZX.out.lt
  clear cZO lZO
  have cZO := ZO.out.four
  have lZO := ZO.out.lt
  clear cZVA lZVA
  have cZVA := ZVA.out.four
  have lZVA := ZVA.out.lt
  clear hb6
  have Sw6 : w.heap.size ≤ w6.heap.size := KB.out.size
  go_wp2_with fail
  replace ZX := mkHid (ZX.out.alloc (.cells #[.int .i64 (P.h), .int .i64 (P.room), .slice vb P.s.length vbc, .int .i64 (P.n)] 25))
  replace ZO := mkHid (ZO.out.alloc (.cells #[.int .i64 (P.h), .int .i64 (P.room), .slice vb P.s.length vbc, .int .i64 (P.n)] 25))
  replace KB := mkHid (KB.out.alloc KB.out.size (.cells #[.int .i64 (P.h), .int .i64 (P.room), .slice vb P.s.length vbc, .int .i64 (P.n)] 25))
  replace HA := mkHid (HA.out.below ((Below.refl _ _).alloc (Nat.le_refl _) (.cells #[.int .i64 (P.h), .int .i64 (P.room), .slice vb P.s.length vbc, .int .i64 (P.n)] 25)))
  replace HO := mkHid (HO.out.below ((Below.refl _ _).alloc (Nat.le_refl _) (.cells #[.int .i64 (P.h), .int .i64 (P.room), .slice vb P.s.length vbc, .int .i64 (P.n)] 25)))
  replace HW := mkHid (HW.out.below ((Below.refl _ _).alloc (Nat.le_refl _) (.cells #[.int .i64 (P.h), .int .i64 (P.room), .slice vb P.s.length vbc, .int .i64 (P.n)] 25)))
  replace K2 := mkHid (K2.out.alloc K2.out.size (.cells #[.int .i64 (P.h), .int .i64 (P.room), .slice vb P.s.length vbc, .int .i64 (P.n)] 25))
  replace Hva := mkHid (Hva.out.below ((Below.refl _ _).alloc (Nat.le_refl _) (.cells #[.int .i64 (P.h), .int .i64 (P.room), .slice vb P.s.length vbc, .int .i64 (P.n)] 25)))
  replace Mva := mkHid (Mva.out.below ((Below.refl _ _).alloc (Nat.le_refl _) (.cells #[.int .i64 (P.h), .int .i64 (P.room), .slice vb P.s.length vbc, .int .i64 (P.n)] 25)))
  replace ZVA := mkHid (ZVA.out.alloc (.cells #[.int .i64 (P.h), .int .i64 (P.room), .slice vb P.s.length vbc, .int .i64 (P.n)] 25))
  replace Hvb := mkHid (Hvb.out.below ((Below.refl _ _).alloc (Nat.le_refl _) (.cells #[.int .i64 (P.h), .int .i64 (P.room), .slice vb P.s.length vbc, .int .i64 (P.n)] 25)))
  clear cZX lZX
  have cZX := ZX.out.four
  have lZX := ZX.out.lt
  clear cZO lZO
  have cZO := ZO.out.four
  have lZO := ZO.out.lt
  clear cZVA lZVA
  have cZVA := ZVA.out.four
  have lZVA := ZVA.out.lt
  have ZVB : Hid (Blk (w6.alloc (.cells #[.int .i64 (P.h), .int .i64 (P.room), .slice vb P.s.length vbc, .int .i64 (P.n)] 25)) w6.heap.size 25 #[.int .i64 (P.h), .int .i64 (P.room), .slice vb P.s.length vbc, .int .i64 (P.n)]) := mkHid (Blk.new _ _ _)
  have cZVB := ZVB.out.four
  have lZVB := ZVB.out.lt
  refine (reinstate_any e2 _ _ _ HA.out).mono ?_
  rintro e w7 ⟨v, rfl, ho, hb7⟩
  obtain ⟨vc, vcc, rfl, vcl, vcr, vcm, vcz⟩ := Reads.of_rowOf ho
  have Hvc := mkHid vcr
  have Mvc := mkHid vcm
  have qvc := vcm.lt
  have nvc := hb7.size
  clear ho vcr vcm
  replace ZX := mkHid (ZX.out.keep hb7)
  replace ZO := mkHid (ZO.out.keep hb7)
  replace KB := mkHid (KB.out.step hb7)
  replace HA := mkHid (HA.out.below hb7)
  replace HO := mkHid (HO.out.below hb7)
  replace HW := mkHid (HW.out.below hb7)
  replace K2 := mkHid (K2.out.step hb7)
  replace Hva := mkHid (Hva.out.below hb7)
  replace Mva := mkHid (Mva.out.below hb7)
  replace ZVA := mkHid (ZVA.out.keep hb7)
  replace Hvb := mkHid (Hvb.out.below hb7)
  replace ZVB := mkHid (ZVB.out.keep hb7)
  clear cZX lZX
  have cZX := ZX.out.four
  have lZX := ZX.out.lt
  clear cZO lZO
  have cZO := ZO.out.four
  have lZO := ZO.out.lt
  clear cZVA lZVA
  have cZVA := ZVA.out.four
  have lZVA := ZVA.out.lt
  clear cZVB lZVB
  have cZVB := ZVB.out.four
  have lZVB := ZVB.out.lt
  clear hb7
  have Sw7 : w.heap.size ≤ w7.heap.size := KB.out.size
  go_wp2_with fail
  replace ZX := mkHid (ZX.out.alloc (.cells #[.int .i64 (Q.h), .int .i64 (Q.room), .slice vc Q.s.length vcc, .int .i64 (Q.n)] 25))
  replace ZO := mkHid (ZO.out.alloc (.cells #[.int .i64 (Q.h), .int .i64 (Q.room), .slice vc Q.s.length vcc, .int .i64 (Q.n)] 25))
  replace KB := mkHid (KB.out.alloc KB.out.size (.cells #[.int .i64 (Q.h), .int .i64 (Q.room), .slice vc Q.s.length vcc, .int .i64 (Q.n)] 25))
  replace HA := mkHid (HA.out.below ((Below.refl _ _).alloc (Nat.le_refl _) (.cells #[.int .i64 (Q.h), .int .i64 (Q.room), .slice vc Q.s.length vcc, .int .i64 (Q.n)] 25)))
  replace HO := mkHid (HO.out.below ((Below.refl _ _).alloc (Nat.le_refl _) (.cells #[.int .i64 (Q.h), .int .i64 (Q.room), .slice vc Q.s.length vcc, .int .i64 (Q.n)] 25)))
  replace HW := mkHid (HW.out.below ((Below.refl _ _).alloc (Nat.le_refl _) (.cells #[.int .i64 (Q.h), .int .i64 (Q.room), .slice vc Q.s.length vcc, .int .i64 (Q.n)] 25)))
  replace K2 := mkHid (K2.out.alloc K2.out.size (.cells #[.int .i64 (Q.h), .int .i64 (Q.room), .slice vc Q.s.length vcc, .int .i64 (Q.n)] 25))
  replace Hva := mkHid (Hva.out.below ((Below.refl _ _).alloc (Nat.le_refl _) (.cells #[.int .i64 (Q.h), .int .i64 (Q.room), .slice vc Q.s.length vcc, .int .i64 (Q.n)] 25)))
  replace Mva := mkHid (Mva.out.below ((Below.refl _ _).alloc (Nat.le_refl _) (.cells #[.int .i64 (Q.h), .int .i64 (Q.room), .slice vc Q.s.length vcc, .int .i64 (Q.n)] 25)))
  replace ZVA := mkHid (ZVA.out.alloc (.cells #[.int .i64 (Q.h), .int .i64 (Q.room), .slice vc Q.s.length vcc, .int .i64 (Q.n)] 25))
  replace Hvb := mkHid (Hvb.out.below ((Below.refl _ _).alloc (Nat.le_refl _) (.cells #[.int .i64 (Q.h), .int .i64 (Q.room), .slice vc Q.s.length vcc, .int .i64 (Q.n)] 25)))
  replace ZVB := mkHid (ZVB.out.alloc (.cells #[.int .i64 (Q.h), .int .i64 (Q.room), .slice vc Q.s.length vcc, .int .i64 (Q.n)] 25))
  replace Hvc := mkHid (Hvc.out.below ((Below.refl _ _).alloc (Nat.le_refl _) (.cells #[.int .i64 (Q.h), .int .i64 (Q.room), .slice vc Q.s.length vcc, .int .i64 (Q.n)] 25)))
  replace Mvc := mkHid (Mvc.out.below ((Below.refl _ _).alloc (Nat.le_refl _) (.cells #[.int .i64 (Q.h), .int .i64 (Q.room), .slice vc Q.s.length vcc, .int .i64 (Q.n)] 25)))
  clear cZX lZX
  have cZX := ZX.out.four
  have lZX := ZX.out.lt
  clear cZO lZO
  have cZO := ZO.out.four
  have lZO := ZO.out.lt
  clear cZVA lZVA
  have cZVA := ZVA.out.four
  have lZVA := ZVA.out.lt
  clear cZVB lZVB
  have cZVB := ZVB.out.four
  have lZVB := ZVB.out.lt
  have ZVC : Hid (Blk (w7.alloc (.cells #[.int .i64 (Q.h), .int .i64 (Q.room), .slice vc Q.s.length vcc, .int .i64 (Q.n)] 25)) w7.heap.size 25 #[.int .i64 (Q.h), .int .i64 (Q.room), .slice vc Q.s.length vcc, .int .i64 (Q.n)]) := mkHid (Blk.new _ _ _)
  have cZVC := ZVC.out.four
  have lZVC := ZVC.out.lt
  refine (sreinstate_any e2 _ _ _ HA.out).mono ?_
  rintro e w8 ⟨v, rfl, ho, hb8⟩
  obtain ⟨vd, vdc, rfl, vdl, vdr, vdm, vdz⟩ := Reads.of_rowOf ho
  have Hvd := mkHid vdr
  have nvd := hb8.size
  clear ho vdr vdm
  replace ZX := mkHid (ZX.out.keep hb8)
  replace ZO := mkHid (ZO.out.keep hb8)
  replace KB := mkHid (KB.out.step hb8)
  replace HA := mkHid (HA.out.below hb8)
  replace HO := mkHid (HO.out.below hb8)
  replace HW := mkHid (HW.out.below hb8)
  replace K2 := mkHid (K2.out.step hb8)
  replace Hva := mkHid (Hva.out.below hb8)
  replace Mva := mkHid (Mva.out.below hb8)
  replace ZVA := mkHid (ZVA.out.keep hb8)
  replace Hvb := mkHid (Hvb.out.below hb8)
  replace ZVB := mkHid (ZVB.out.keep hb8)
  replace Hvc := mkHid (Hvc.out.below hb8)
  replace Mvc := mkHid (Mvc.out.below hb8)
  replace ZVC := mkHid (ZVC.out.keep hb8)
  clear cZX lZX
  have cZX := ZX.out.four
  have lZX := ZX.out.lt
  clear cZO lZO
  have cZO := ZO.out.four
  have lZO := ZO.out.lt
  clear cZVA lZVA
  have cZVA := ZVA.out.four
  have lZVA := ZVA.out.lt
  clear cZVB lZVB
  have cZVB := ZVB.out.four
  have lZVB := ZVB.out.lt
  clear cZVC lZVC
  have cZVC := ZVC.out.four
  have lZVC := ZVC.out.lt
  clear hb8
  have Sw8 : w.heap.size ≤ w8.heap.size := KB.out.size
  go_wp2_with fail
  replace ZX := mkHid (ZX.out.alloc (.cells #[.int .i64 (Q.h), .int .i64 (Q.room), .slice vd Q.s.length vdc, .int .i64 (Q.n)] 25))
  replace ZO := mkHid (ZO.out.alloc (.cells #[.int .i64 (Q.h), .int .i64 (Q.room), .slice vd Q.s.length vdc, .int .i64 (Q.n)] 25))
  replace KB := mkHid (KB.out.alloc KB.out.size (.cells #[.int .i64 (Q.h), .int .i64 (Q.room), .slice vd Q.s.length vdc, .int .i64 (Q.n)] 25))
  replace HA := mkHid (HA.out.below ((Below.refl _ _).alloc (Nat.le_refl _) (.cells #[.int .i64 (Q.h), .int .i64 (Q.room), .slice vd Q.s.length vdc, .int .i64 (Q.n)] 25)))
  replace HO := mkHid (HO.out.below ((Below.refl _ _).alloc (Nat.le_refl _) (.cells #[.int .i64 (Q.h), .int .i64 (Q.room), .slice vd Q.s.length vdc, .int .i64 (Q.n)] 25)))
  replace HW := mkHid (HW.out.below ((Below.refl _ _).alloc (Nat.le_refl _) (.cells #[.int .i64 (Q.h), .int .i64 (Q.room), .slice vd Q.s.length vdc, .int .i64 (Q.n)] 25)))
  replace K2 := mkHid (K2.out.alloc K2.out.size (.cells #[.int .i64 (Q.h), .int .i64 (Q.room), .slice vd Q.s.length vdc, .int .i64 (Q.n)] 25))
  replace Hva := mkHid (Hva.out.below ((Below.refl _ _).alloc (Nat.le_refl _) (.cells #[.int .i64 (Q.h), .int .i64 (Q.room), .slice vd Q.s.length vdc, .int .i64 (Q.n)] 25)))
  replace Mva := mkHid (Mva.out.below ((Below.refl _ _).alloc (Nat.le_refl _) (.cells #[.int .i64 (Q.h), .int .i64 (Q.room), .slice vd Q.s.length vdc, .int .i64 (Q.n)] 25)))
  replace ZVA := mkHid (ZVA.out.alloc (.cells #[.int .i64 (Q.h), .int .i64 (Q.room), .slice vd Q.s.length vdc, .int .i64 (Q.n)] 25))
  replace Hvb := mkHid (Hvb.out.below ((Below.refl _ _).alloc (Nat.le_refl _) (.cells #[.int .i64 (Q.h), .int .i64 (Q.room), .slice vd Q.s.length vdc, .int .i64 (Q.n)] 25)))
  replace ZVB := mkHid (ZVB.out.alloc (.cells #[.int .i64 (Q.h), .int .i64 (Q.room), .slice vd Q.s.length vdc, .int .i64 (Q.n)] 25))
  replace Hvc := mkHid (Hvc.out.below ((Below.refl _ _).alloc (Nat.le_refl _) (.cells #[.int .i64 (Q.h), .int .i64 (Q.room), .slice vd Q.s.length vdc, .int .i64 (Q.n)] 25)))
  replace Mvc := mkHid (Mvc.out.below ((Below.refl _ _).alloc (Nat.le_refl _) (.cells #[.int .i64 (Q.h), .int .i64 (Q.room), .slice vd Q.s.length vdc, .int .i64 (Q.n)] 25)))
  replace ZVC := mkHid (ZVC.out.alloc (.cells #[.int .i64 (Q.h), .int .i64 (Q.room), .slice vd Q.s.length vdc, .int .i64 (Q.n)] 25))
  replace Hvd := mkHid (Hvd.out.below ((Below.refl _ _).alloc (Nat.le_refl _) (.cells #[.int .i64 (Q.h), .int .i64 (Q.room), .slice vd Q.s.length vdc, .int .i64 (Q.n)] 25)))
  clear cZX lZX
  have cZX := ZX.out.four
  have lZX := ZX.out.lt
  clear cZO lZO
  have cZO := ZO.out.four
  have lZO := ZO.out.lt
  clear cZVA lZVA
  have cZVA := ZVA.out.four
  have lZVA := ZVA.out.lt
  clear cZVB lZVB
  have cZVB := ZVB.out.four
  have lZVB := ZVB.out.lt
  clear cZVC lZVC
  have cZVC := ZVC.out.four
  have lZVC := ZVC.out.lt
  have ZVD : Hid (Blk (w8.alloc (.cells #[.int .i64 (Q.h), .int .i64 (Q.room), .slice vd Q.s.length vdc, .int .i64 (Q.n)] 25)) w8.heap.size 25 #[.int .i64 (Q.h), .int .i64 (Q.room), .slice vd Q.s.length vdc, .int .i64 (Q.n)]) := mkHid (Blk.new _ _ _)
  have cZVD := ZVD.out.four
  have lZVD := ZVD.out.lt
  refine (ris e3 _ _ _ HA.out).mono ?_
  rintro e w9 ⟨rfl, hb9⟩
  replace ZX := mkHid (ZX.out.keep hb9)
  replace ZO := mkHid (ZO.out.keep hb9)
  replace KB := mkHid (KB.out.step hb9)
  replace HA := mkHid (HA.out.below hb9)
  replace HO := mkHid (HO.out.below hb9)
  replace HW := mkHid (HW.out.below hb9)
  replace K2 := mkHid (K2.out.step hb9)
  replace Hva := mkHid (Hva.out.below hb9)
  replace Mva := mkHid (Mva.out.below hb9)
  replace ZVA := mkHid (ZVA.out.keep hb9)
  replace Hvb := mkHid (Hvb.out.below hb9)
  replace ZVB := mkHid (ZVB.out.keep hb9)
  replace Hvc := mkHid (Hvc.out.below hb9)
  replace Mvc := mkHid (Mvc.out.below hb9)
  replace ZVC := mkHid (ZVC.out.keep hb9)
  replace Hvd := mkHid (Hvd.out.below hb9)
  replace ZVD := mkHid (ZVD.out.keep hb9)
  clear cZX lZX
  have cZX := ZX.out.four
  have lZX := ZX.out.lt
  clear cZO lZO
  have cZO := ZO.out.four
  have lZO := ZO.out.lt
  clear cZVA lZVA
  have cZVA := ZVA.out.four
  have lZVA := ZVA.out.lt
  clear cZVB lZVB
  have cZVB := ZVB.out.four
  have lZVB := ZVB.out.lt
  clear cZVC lZVC
  have cZVC := ZVC.out.four
  have lZVC := ZVC.out.lt
  clear cZVD lZVD
  have cZVD := ZVD.out.four
  have lZVD := ZVD.out.lt
  clear hb9
  go_wp2_with fail
  refine (sris e3 _ _ _ HA.out).mono ?_
  rintro e w10 ⟨rfl, hb10⟩
  replace ZX := mkHid (ZX.out.keep hb10)
  replace ZO := mkHid (ZO.out.keep hb10)
  replace KB := mkHid (KB.out.step hb10)
  replace HA := mkHid (HA.out.below hb10)
  replace HO := mkHid (HO.out.below hb10)
  replace HW := mkHid (HW.out.below hb10)
  replace K2 := mkHid (K2.out.step hb10)
  replace Hva := mkHid (Hva.out.below hb10)
  replace Mva := mkHid (Mva.out.below hb10)
  replace ZVA := mkHid (ZVA.out.keep hb10)
  replace Hvb := mkHid (Hvb.out.below hb10)
  replace ZVB := mkHid (ZVB.out.keep hb10)
  replace Hvc := mkHid (Hvc.out.below hb10)
  replace Mvc := mkHid (Mvc.out.below hb10)
  replace ZVC := mkHid (ZVC.out.keep hb10)
  replace Hvd := mkHid (Hvd.out.below hb10)
  replace ZVD := mkHid (ZVD.out.keep hb10)
  clear cZX lZX
  have cZX := ZX.out.four
  have lZX := ZX.out.lt
  clear cZO lZO
  have cZO := ZO.out.four
  have lZO := ZO.out.lt
  clear cZVA lZVA
  have cZVA := ZVA.out.four
  have lZVA := ZVA.out.lt
  clear cZVB lZVB
  have cZVB := ZVB.out.four
  have lZVB := ZVB.out.lt
  clear cZVC lZVC
  have cZVC := ZVC.out.four
  have lZVC := ZVC.out.lt
  clear cZVD lZVD
  have cZVD := ZVD.out.four
  have lZVD := ZVD.out.lt
  clear hb10
  go_wp2_with fail
  refine (rnew_no e6 _).mono ?_
  rintro e w11 ⟨rfl, hb11⟩
  replace ZX := mkHid (ZX.out.keep hb11)
  replace ZO := mkHid (ZO.out.keep hb11)
  replace KB := mkHid (KB.out.step hb11)
  replace HA := mkHid (HA.out.below hb11)
  replace HO := mkHid (HO.out.below hb11)
  replace HW := mkHid (HW.out.below hb11)
  replace K2 := mkHid (K2.out.step hb11)
  replace Hva := mkHid (Hva.out.below hb11)
  replace Mva := mkHid (Mva.out.below hb11)
  replace ZVA := mkHid (ZVA.out.keep hb11)
  replace Hvb := mkHid (Hvb.out.below hb11)
  replace ZVB := mkHid (ZVB.out.keep hb11)
  replace Hvc := mkHid (Hvc.out.below hb11)
  replace Mvc := mkHid (Mvc.out.below hb11)
  replace ZVC := mkHid (ZVC.out.keep hb11)
  replace Hvd := mkHid (Hvd.out.below hb11)
  replace ZVD := mkHid (ZVD.out.keep hb11)
  clear cZX lZX
  have cZX := ZX.out.four
  have lZX := ZX.out.lt
  clear cZO lZO
  have cZO := ZO.out.four
  have lZO := ZO.out.lt
  clear cZVA lZVA
  have cZVA := ZVA.out.four
  have lZVA := ZVA.out.lt
  clear cZVB lZVB
  have cZVB := ZVB.out.four
  have lZVB := ZVB.out.lt
  clear cZVC lZVC
  have cZVC := ZVC.out.four
  have lZVC := ZVC.out.lt
  clear cZVD lZVD
  have cZVD := ZVD.out.four
  have lZVD := ZVD.out.lt
  clear hb11
  have Sw11 : w.heap.size ≤ w11.heap.size := KB.out.size
  go_wp2_with fail
  replace ZX := mkHid (ZX.out.alloc (.cells #[.int .i64 (0), .int .i64 (0), .slice none 0 0, .int .i64 (0)] 25))
  replace ZO := mkHid (ZO.out.alloc (.cells #[.int .i64 (0), .int .i64 (0), .slice none 0 0, .int .i64 (0)] 25))
  replace KB := mkHid (KB.out.alloc KB.out.size (.cells #[.int .i64 (0), .int .i64 (0), .slice none 0 0, .int .i64 (0)] 25))
  replace HA := mkHid (HA.out.below ((Below.refl _ _).alloc (Nat.le_refl _) (.cells #[.int .i64 (0), .int .i64 (0), .slice none 0 0, .int .i64 (0)] 25)))
  replace HO := mkHid (HO.out.below ((Below.refl _ _).alloc (Nat.le_refl _) (.cells #[.int .i64 (0), .int .i64 (0), .slice none 0 0, .int .i64 (0)] 25)))
  replace HW := mkHid (HW.out.below ((Below.refl _ _).alloc (Nat.le_refl _) (.cells #[.int .i64 (0), .int .i64 (0), .slice none 0 0, .int .i64 (0)] 25)))
  replace K2 := mkHid (K2.out.alloc K2.out.size (.cells #[.int .i64 (0), .int .i64 (0), .slice none 0 0, .int .i64 (0)] 25))
  replace Hva := mkHid (Hva.out.below ((Below.refl _ _).alloc (Nat.le_refl _) (.cells #[.int .i64 (0), .int .i64 (0), .slice none 0 0, .int .i64 (0)] 25)))
  replace Mva := mkHid (Mva.out.below ((Below.refl _ _).alloc (Nat.le_refl _) (.cells #[.int .i64 (0), .int .i64 (0), .slice none 0 0, .int .i64 (0)] 25)))
  replace ZVA := mkHid (ZVA.out.alloc (.cells #[.int .i64 (0), .int .i64 (0), .slice none 0 0, .int .i64 (0)] 25))
  replace Hvb := mkHid (Hvb.out.below ((Below.refl _ _).alloc (Nat.le_refl _) (.cells #[.int .i64 (0), .int .i64 (0), .slice none 0 0, .int .i64 (0)] 25)))
  replace ZVB := mkHid (ZVB.out.alloc (.cells #[.int .i64 (0), .int .i64 (0), .slice none 0 0, .int .i64 (0)] 25))
  replace Hvc := mkHid (Hvc.out.below ((Below.refl _ _).alloc (Nat.le_refl _) (.cells #[.int .i64 (0), .int .i64 (0), .slice none 0 0, .int .i64 (0)] 25)))
  replace Mvc := mkHid (Mvc.out.below ((Below.refl _ _).alloc (Nat.le_refl _) (.cells #[.int .i64 (0), .int .i64 (0), .slice none 0 0, .int .i64 (0)] 25)))
  replace ZVC := mkHid (ZVC.out.alloc (.cells #[.int .i64 (0), .int .i64 (0), .slice none 0 0, .int .i64 (0)] 25))
  replace Hvd := mkHid (Hvd.out.below ((Below.refl _ _).alloc (Nat.le_refl _) (.cells #[.int .i64 (0), .int .i64 (0), .slice none 0 0, .int .i64 (0)] 25)))
  replace ZVD := mkHid (ZVD.out.alloc (.cells #[.int .i64 (0), .int .i64 (0), .slice none 0 0, .int .i64 (0)] 25))
  clear cZX lZX
  have cZX := ZX.out.four
  have lZX := ZX.out.lt
  clear cZO lZO
  have cZO := ZO.out.four
  have lZO := ZO.out.lt
  clear cZVA lZVA
  have cZVA := ZVA.out.four
  have lZVA := ZVA.out.lt
  clear cZVB lZVB
  have cZVB := ZVB.out.four
  have lZVB := ZVB.out.lt
  clear cZVC lZVC
  have cZVC := ZVC.out.four
  have lZVC := ZVC.out.lt
  clear cZVD lZVD
  have cZVD := ZVD.out.four
  have lZVD := ZVD.out.lt
  have ZNA : Hid (Blk (w11.alloc (.cells #[.int .i64 (0), .int .i64 (0), .slice none 0 0, .int .i64 (0)] 25)) w11.heap.size 25 #[.int .i64 (0), .int .i64 (0), .slice none 0 0, .int .i64 0]) := mkHid (Blk.new _ _ _)
  have cZNA := ZNA.out.four
  have lZNA := ZNA.out.lt
  refine (srnew_no e6 _).mono ?_
  rintro e w12 ⟨rfl, hb12⟩
  replace ZX := mkHid (ZX.out.keep hb12)
  replace ZO := mkHid (ZO.out.keep hb12)
  replace KB := mkHid (KB.out.step hb12)
  replace HA := mkHid (HA.out.below hb12)
  replace HO := mkHid (HO.out.below hb12)
  replace HW := mkHid (HW.out.below hb12)
  replace K2 := mkHid (K2.out.step hb12)
  replace Hva := mkHid (Hva.out.below hb12)
  replace Mva := mkHid (Mva.out.below hb12)
  replace ZVA := mkHid (ZVA.out.keep hb12)
  replace Hvb := mkHid (Hvb.out.below hb12)
  replace ZVB := mkHid (ZVB.out.keep hb12)
  replace Hvc := mkHid (Hvc.out.below hb12)
  replace Mvc := mkHid (Mvc.out.below hb12)
  replace ZVC := mkHid (ZVC.out.keep hb12)
  replace Hvd := mkHid (Hvd.out.below hb12)
  replace ZVD := mkHid (ZVD.out.keep hb12)
  replace ZNA := mkHid (ZNA.out.keep hb12)
  clear cZX lZX
  have cZX := ZX.out.four
  have lZX := ZX.out.lt
  clear cZO lZO
  have cZO := ZO.out.four
  have lZO := ZO.out.lt
  clear cZVA lZVA
  have cZVA := ZVA.out.four
  have lZVA := ZVA.out.lt
  clear cZVB lZVB
  have cZVB := ZVB.out.four
  have lZVB := ZVB.out.lt
  clear cZVC lZVC
  have cZVC := ZVC.out.four
  have lZVC := ZVC.out.lt
  clear cZVD lZVD
  have cZVD := ZVD.out.four
  have lZVD := ZVD.out.lt
  clear cZNA lZNA
  have cZNA := ZNA.out.four
  have lZNA := ZNA.out.lt
  clear hb12
  have Sw12 : w.heap.size ≤ w12.heap.size := KB.out.size
  go_wp2_with fail
  replace ZX := mkHid (ZX.out.alloc (.cells #[.int .i64 (0), .int .i64 (0), .slice none 0 0, .int .i64 (0)] 25))
  replace ZO := mkHid (ZO.out.alloc (.cells #[.int .i64 (0), .int .i64 (0), .slice none 0 0, .int .i64 (0)] 25))
  replace KB := mkHid (KB.out.alloc KB.out.size (.cells #[.int .i64 (0), .int .i64 (0), .slice none 0 0, .int .i64 (0)] 25))
  replace HA := mkHid (HA.out.below ((Below.refl _ _).alloc (Nat.le_refl _) (.cells #[.int .i64 (0), .int .i64 (0), .slice none 0 0, .int .i64 (0)] 25)))
  replace HO := mkHid (HO.out.below ((Below.refl _ _).alloc (Nat.le_refl _) (.cells #[.int .i64 (0), .int .i64 (0), .slice none 0 0, .int .i64 (0)] 25)))
  replace HW := mkHid (HW.out.below ((Below.refl _ _).alloc (Nat.le_refl _) (.cells #[.int .i64 (0), .int .i64 (0), .slice none 0 0, .int .i64 (0)] 25)))
  replace K2 := mkHid (K2.out.alloc K2.out.size (.cells #[.int .i64 (0), .int .i64 (0), .slice none 0 0, .int .i64 (0)] 25))
  replace Hva := mkHid (Hva.out.below ((Below.refl _ _).alloc (Nat.le_refl _) (.cells #[.int .i64 (0), .int .i64 (0), .slice none 0 0, .int .i64 (0)] 25)))
  replace Mva := mkHid (Mva.out.below ((Below.refl _ _).alloc (Nat.le_refl _) (.cells #[.int .i64 (0), .int .i64 (0), .slice none 0 0, .int .i64 (0)] 25)))
  replace ZVA := mkHid (ZVA.out.alloc (.cells #[.int .i64 (0), .int .i64 (0), .slice none 0 0, .int .i64 (0)] 25))
  replace Hvb := mkHid (Hvb.out.below ((Below.refl _ _).alloc (Nat.le_refl _) (.cells #[.int .i64 (0), .int .i64 (0), .slice none 0 0, .int .i64 (0)] 25)))
  replace ZVB := mkHid (ZVB.out.alloc (.cells #[.int .i64 (0), .int .i64 (0), .slice none 0 0, .int .i64 (0)] 25))
  replace Hvc := mkHid (Hvc.out.below ((Below.refl _ _).alloc (Nat.le_refl _) (.cells #[.int .i64 (0), .int .i64 (0), .slice none 0 0, .int .i64 (0)] 25)))
  replace Mvc := mkHid (Mvc.out.below ((Below.refl _ _).alloc (Nat.le_refl _) (.cells #[.int .i64 (0), .int .i64 (0), .slice none 0 0, .int .i64 (0)] 25)))
  replace ZVC := mkHid (ZVC.out.alloc (.cells #[.int .i64 (0), .int .i64 (0), .slice none 0 0, .int .i64 (0)] 25))
  replace Hvd := mkHid (Hvd.out.below ((Below.refl _ _).alloc (Nat.le_refl _) (.cells #[.int .i64 (0), .int .i64 (0), .slice none 0 0, .int .i64 (0)] 25)))
  replace ZVD := mkHid (ZVD.out.alloc (.cells #[.int .i64 (0), .int .i64 (0), .slice none 0 0, .int .i64 (0)] 25))
  replace ZNA := mkHid (ZNA.out.alloc (.cells #[.int .i64 (0), .int .i64 (0), .slice none 0 0, .int .i64 (0)] 25))
  clear cZX lZX
  have cZX := ZX.out.four
  have lZX := ZX.out.lt
  clear cZO lZO
  have cZO := ZO.out.four
  have lZO := ZO.out.lt
  clear cZVA lZVA
  have cZVA := ZVA.out.four
  have lZVA := ZVA.out.lt
  clear cZVB lZVB
  have cZVB := ZVB.out.four
  have lZVB := ZVB.out.lt
  clear cZVC lZVC
  have cZVC := ZVC.out.four
  have lZVC := ZVC.out.lt
  clear cZVD lZVD
  have cZVD := ZVD.out.four
  have lZVD := ZVD.out.lt
  clear cZNA lZNA
  have cZNA := ZNA.out.four
  have lZNA := ZNA.out.lt
  have ZNB : Hid (Blk (w12.alloc (.cells #[.int .i64 (0), .int .i64 (0), .slice none 0 0, .int .i64 (0)] 25)) w12.heap.size 25 #[.int .i64 (0), .int .i64 (0), .slice none 0 0, .int .i64 0]) := mkHid (Blk.new _ _ _)
  have cZNB := ZNB.out.four
  have lZNB := ZNB.out.lt
  generalize hwS : w12.alloc (.cells #[.int .i64 (0), .int .i64 (0), .slice none 0 0, .int .i64 (0)] 25) = wS at *
  clear hwS
  have k0 : wS.cell? ⟨w.heap.size, 0, none⟩ = some (.int .i64 (h)) := ZX.out.cell 0
  have k1 : wS.cell? ⟨w.heap.size, 1, none⟩ = some (.int .i64 (room)) := ZX.out.cell 1
  have k2 : wS.cell? ⟨w.heap.size, 2, none⟩ = some (.slice A s.length c) := ZX.out.cell 2
  have k3 : wS.cell? ⟨w.heap.size, 3, none⟩ = some (.int .i64 (n)) := ZX.out.cell 3
  have k4 : wS.cell? ⟨w.heap.size + 1, 0, none⟩ = some (.int .i64 (h2)) := ZO.out.cell 0
  have k5 : wS.cell? ⟨w.heap.size + 1, 1, none⟩ = some (.int .i64 (room2)) := ZO.out.cell 1
  have k6 : wS.cell? ⟨w.heap.size + 1, 2, none⟩ = some (.slice A2 s2.length c2) := ZO.out.cell 2
  have k7 : wS.cell? ⟨w.heap.size + 1, 3, none⟩ = some (.int .i64 (n2)) := ZO.out.cell 3
  have k8 : wS.cell? ⟨w5.heap.size, 0, none⟩ = some (.int .i64 (P.h)) := ZVA.out.cell 0
  have k9 : wS.cell? ⟨w5.heap.size, 1, none⟩ = some (.int .i64 (P.room)) := ZVA.out.cell 1
  have k10 : wS.cell? ⟨w5.heap.size, 2, none⟩ = some (.slice va P.s.length vac) := ZVA.out.cell 2
  have k11 : wS.cell? ⟨w5.heap.size, 3, none⟩ = some (.int .i64 (P.n)) := ZVA.out.cell 3
  have k12 : wS.cell? ⟨w6.heap.size, 0, none⟩ = some (.int .i64 (P.h)) := ZVB.out.cell 0
  have k13 : wS.cell? ⟨w6.heap.size, 1, none⟩ = some (.int .i64 (P.room)) := ZVB.out.cell 1
  have k14 : wS.cell? ⟨w6.heap.size, 2, none⟩ = some (.slice vb P.s.length vbc) := ZVB.out.cell 2
  have k15 : wS.cell? ⟨w6.heap.size, 3, none⟩ = some (.int .i64 (P.n)) := ZVB.out.cell 3
  have k16 : wS.cell? ⟨w7.heap.size, 0, none⟩ = some (.int .i64 (Q.h)) := ZVC.out.cell 0
  have k17 : wS.cell? ⟨w7.heap.size, 1, none⟩ = some (.int .i64 (Q.room)) := ZVC.out.cell 1
  have k18 : wS.cell? ⟨w7.heap.size, 2, none⟩ = some (.slice vc Q.s.length vcc) := ZVC.out.cell 2
  have k19 : wS.cell? ⟨w7.heap.size, 3, none⟩ = some (.int .i64 (Q.n)) := ZVC.out.cell 3
  have k20 : wS.cell? ⟨w8.heap.size, 0, none⟩ = some (.int .i64 (Q.h)) := ZVD.out.cell 0
  have k21 : wS.cell? ⟨w8.heap.size, 1, none⟩ = some (.int .i64 (Q.room)) := ZVD.out.cell 1
  have k22 : wS.cell? ⟨w8.heap.size, 2, none⟩ = some (.slice vd Q.s.length vdc) := ZVD.out.cell 2
  have k23 : wS.cell? ⟨w8.heap.size, 3, none⟩ = some (.int .i64 (Q.n)) := ZVD.out.cell 3
  have k24 : wS.cell? ⟨w11.heap.size, 0, none⟩ = some (.int .i64 (0)) := ZNA.out.cell 0
  have k25 : wS.cell? ⟨w11.heap.size, 1, none⟩ = some (.int .i64 (0)) := ZNA.out.cell 1
  have k26 : wS.cell? ⟨w11.heap.size, 2, none⟩ = some (.slice none 0 0) := ZNA.out.cell 2
  have k27 : wS.cell? ⟨w11.heap.size, 3, none⟩ = some (.int .i64 (0)) := ZNA.out.cell 3
  have k28 : wS.cell? ⟨w12.heap.size, 0, none⟩ = some (.int .i64 (0)) := ZNB.out.cell 0
  have k29 : wS.cell? ⟨w12.heap.size, 1, none⟩ = some (.int .i64 (0)) := ZNB.out.cell 1
  have k30 : wS.cell? ⟨w12.heap.size, 2, none⟩ = some (.slice none 0 0) := ZNB.out.cell 2
  have k31 : wS.cell? ⟨w12.heap.size, 3, none⟩ = some (.int .i64 (0)) := ZNB.out.cell 3
  clear cZX lZX cZO lZO cZVA lZVA cZVB lZVB cZVC lZVC cZVD lZVD cZNA lZNA cZNB lZNB _cx
  have hb0 : Below wS.heap.size wS wS.drew := Below.drew (Below.refl _ _)
  go_region_held3 (fun w' => Below wS.heap.size wS w' ∧ w'.cell? ⟨w.heap.size, 0, none⟩ = some (.int .i64 (h)) ∧ w'.cell? ⟨w.heap.size, 1, none⟩ = some (.int .i64 (room)) ∧ w'.cell? ⟨w.heap.size, 2, none⟩ = some (.slice A s.length c) ∧ w'.cell? ⟨w.heap.size, 3, none⟩ = some (.int .i64 (n)) ∧ w'.cell? ⟨w.heap.size + 1, 0, none⟩ = some (.int .i64 (h2)) ∧ w'.cell? ⟨w.heap.size + 1, 1, none⟩ = some (.int .i64 (room2)) ∧ w'.cell? ⟨w.heap.size + 1, 2, none⟩ = some (.slice A2 s2.length c2) ∧ w'.cell? ⟨w.heap.size + 1, 3, none⟩ = some (.int .i64 (n2)) ∧ w'.cell? ⟨w5.heap.size, 0, none⟩ = some (.int .i64 (P.h)) ∧ w'.cell? ⟨w5.heap.size, 1, none⟩ = some (.int .i64 (P.room)) ∧ w'.cell? ⟨w5.heap.size, 2, none⟩ = some (.slice va P.s.length vac) ∧ w'.cell? ⟨w5.heap.size, 3, none⟩ = some (.int .i64 (P.n)) ∧ w'.cell? ⟨w6.heap.size, 0, none⟩ = some (.int .i64 (P.h)) ∧ w'.cell? ⟨w6.heap.size, 1, none⟩ = some (.int .i64 (P.room)) ∧ w'.cell? ⟨w6.heap.size, 2, none⟩ = some (.slice vb P.s.length vbc) ∧ w'.cell? ⟨w6.heap.size, 3, none⟩ = some (.int .i64 (P.n)) ∧ w'.cell? ⟨w7.heap.size, 0, none⟩ = some (.int .i64 (Q.h)) ∧ w'.cell? ⟨w7.heap.size, 1, none⟩ = some (.int .i64 (Q.room)) ∧ w'.cell? ⟨w7.heap.size, 2, none⟩ = some (.slice vc Q.s.length vcc) ∧ w'.cell? ⟨w7.heap.size, 3, none⟩ = some (.int .i64 (Q.n)) ∧ w'.cell? ⟨w8.heap.size, 0, none⟩ = some (.int .i64 (Q.h)) ∧ w'.cell? ⟨w8.heap.size, 1, none⟩ = some (.int .i64 (Q.room)) ∧ w'.cell? ⟨w8.heap.size, 2, none⟩ = some (.slice vd Q.s.length vdc) ∧ w'.cell? ⟨w8.heap.size, 3, none⟩ = some (.int .i64 (Q.n)) ∧ w'.cell? ⟨w11.heap.size, 0, none⟩ = some (.int .i64 (0)) ∧ w'.cell? ⟨w11.heap.size, 1, none⟩ = some (.int .i64 (0)) ∧ w'.cell? ⟨w11.heap.size, 2, none⟩ = some (.slice none 0 0) ∧ w'.cell? ⟨w11.heap.size, 3, none⟩ = some (.int .i64 (0)) ∧ w'.cell? ⟨w12.heap.size, 0, none⟩ = some (.int .i64 (0)) ∧ w'.cell? ⟨w12.heap.size, 1, none⟩ = some (.int .i64 (0)) ∧ w'.cell? ⟨w12.heap.size, 2, none⟩ = some (.slice none 0 0) ∧ w'.cell? ⟨w12.heap.size, 3, none⟩ = some (.int .i64 (0)))
    (first | ((try dsimp only); (try go_split_ands); refine ⟨?_, ?_, ?_, ?_, ?_, ?_, ?_, ?_, ?_, ?_, ?_, ?_, ?_, ?_, ?_, ?_, ?_, ?_, ?_, ?_, ?_, ?_, ?_, ?_, ?_, ?_, ?_, ?_, ?_, ?_, ?_, ?_, ?_⟩ <;> first | with_reducible assumption | exact Below.refl _ _ | exact (Below.refl _ _).drew) | (go_keep; done))
    (first
        | (go_at_call 24; ((with_reducible refine (srsame (rollSame_refl _ _ _ _) p4 _ _ _ _ _ (Hva.out.below (w1 := _) (by assumption)) (Hvb.out.below (w1 := _) (by assumption))).mono ?_); (try go_split_ands); rintro e wn ⟨rfl, hbn⟩; have hBw : Below wS.heap.size wS wn := Below.step (by assumption) hbn; clear hbn; have fc0 := keeps hBw k0; have fc1 := keeps hBw k1; have fc2 := keeps hBw k2; have fc3 := keeps hBw k3; have fc4 := keeps hBw k4; have fc5 := keeps hBw k5; have fc6 := keeps hBw k6; have fc7 := keeps hBw k7; have fc8 := keeps hBw k8; have fc9 := keeps hBw k9; have fc10 := keeps hBw k10; have fc11 := keeps hBw k11; have fc12 := keeps hBw k12; have fc13 := keeps hBw k13; have fc14 := keeps hBw k14; have fc15 := keeps hBw k15; have fc16 := keeps hBw k16; have fc17 := keeps hBw k17; have fc18 := keeps hBw k18; have fc19 := keeps hBw k19; have fc20 := keeps hBw k20; have fc21 := keeps hBw k21; have fc22 := keeps hBw k22; have fc23 := keeps hBw k23; have fc24 := keeps hBw k24; have fc25 := keeps hBw k25; have fc26 := keeps hBw k26; have fc27 := keeps hBw k27; have fc28 := keeps hBw k28; have fc29 := keeps hBw k29; have fc30 := keeps hBw k30; have fc31 := keeps hBw k31))
        | (go_at_call 24; ((with_reducible refine (srsame (rollSame_refl _ _ _ _) q4 _ _ _ _ _ (Hvc.out.below (w1 := _) (by assumption)) (Hvd.out.below (w1 := _) (by assumption))).mono ?_); (try go_split_ands); rintro e wn ⟨rfl, hbn⟩; have hBw : Below wS.heap.size wS wn := Below.step (by assumption) hbn; clear hbn; have fc0 := keeps hBw k0; have fc1 := keeps hBw k1; have fc2 := keeps hBw k2; have fc3 := keeps hBw k3; have fc4 := keeps hBw k4; have fc5 := keeps hBw k5; have fc6 := keeps hBw k6; have fc7 := keeps hBw k7; have fc8 := keeps hBw k8; have fc9 := keeps hBw k9; have fc10 := keeps hBw k10; have fc11 := keeps hBw k11; have fc12 := keeps hBw k12; have fc13 := keeps hBw k13; have fc14 := keeps hBw k14; have fc15 := keeps hBw k15; have fc16 := keeps hBw k16; have fc17 := keeps hBw k17; have fc18 := keeps hBw k18; have fc19 := keeps hBw k19; have fc20 := keeps hBw k20; have fc21 := keeps hBw k21; have fc22 := keeps hBw k22; have fc23 := keeps hBw k23; have fc24 := keeps hBw k24; have fc25 := keeps hBw k25; have fc26 := keeps hBw k26; have fc27 := keeps hBw k27; have fc28 := keeps hBw k28; have fc29 := keeps hBw k29; have fc30 := keeps hBw k30; have fc31 := keeps hBw k31))
        | (go_at_call 24; ((with_reducible refine (srsame_nil _ _ _).mono ?_); (try go_split_ands); rintro e wn ⟨rfl, hbn⟩; have hBw : Below wS.heap.size wS wn := Below.step (by assumption) hbn; clear hbn; have fc0 := keeps hBw k0; have fc1 := keeps hBw k1; have fc2 := keeps hBw k2; have fc3 := keeps hBw k3; have fc4 := keeps hBw k4; have fc5 := keeps hBw k5; have fc6 := keeps hBw k6; have fc7 := keeps hBw k7; have fc8 := keeps hBw k8; have fc9 := keeps hBw k9; have fc10 := keeps hBw k10; have fc11 := keeps hBw k11; have fc12 := keeps hBw k12; have fc13 := keeps hBw k13; have fc14 := keeps hBw k14; have fc15 := keeps hBw k15; have fc16 := keeps hBw k16; have fc17 := keeps hBw k17; have fc18 := keeps hBw k18; have fc19 := keeps hBw k19; have fc20 := keeps hBw k20; have fc21 := keeps hBw k21; have fc22 := keeps hBw k22; have fc23 := keeps hBw k23; have fc24 := keeps hBw k24; have fc25 := keeps hBw k25; have fc26 := keeps hBw k26; have fc27 := keeps hBw k27; have fc28 := keeps hBw k28; have fc29 := keeps hBw k29; have fc30 := keeps hBw k30; have fc31 := keeps hBw k31))
        | (go_at_call 17; ((with_reducible refine (rchk e4 _ _ _ (HA.out.below (w1 := _) (by assumption))).mono ?_); (try go_split_ands); rintro e wn ⟨rfl, hbn⟩; have hBw : Below wS.heap.size wS wn := Below.step (by assumption) hbn; clear hbn; have fc0 := keeps hBw k0; have fc1 := keeps hBw k1; have fc2 := keeps hBw k2; have fc3 := keeps hBw k3; have fc4 := keeps hBw k4; have fc5 := keeps hBw k5; have fc6 := keeps hBw k6; have fc7 := keeps hBw k7; have fc8 := keeps hBw k8; have fc9 := keeps hBw k9; have fc10 := keeps hBw k10; have fc11 := keeps hBw k11; have fc12 := keeps hBw k12; have fc13 := keeps hBw k13; have fc14 := keeps hBw k14; have fc15 := keeps hBw k15; have fc16 := keeps hBw k16; have fc17 := keeps hBw k17; have fc18 := keeps hBw k18; have fc19 := keeps hBw k19; have fc20 := keeps hBw k20; have fc21 := keeps hBw k21; have fc22 := keeps hBw k22; have fc23 := keeps hBw k23; have fc24 := keeps hBw k24; have fc25 := keeps hBw k25; have fc26 := keeps hBw k26; have fc27 := keeps hBw k27; have fc28 := keeps hBw k28; have fc29 := keeps hBw k29; have fc30 := keeps hBw k30; have fc31 := keeps hBw k31))
        | (go_at_call 25; ((with_reducible refine (schk e4 _ _ _ (HA.out.below (w1 := _) (by assumption))).mono ?_); (try go_split_ands); rintro e wn ⟨rfl, hbn⟩; have hBw : Below wS.heap.size wS wn := Below.step (by assumption) hbn; clear hbn; have fc0 := keeps hBw k0; have fc1 := keeps hBw k1; have fc2 := keeps hBw k2; have fc3 := keeps hBw k3; have fc4 := keeps hBw k4; have fc5 := keeps hBw k5; have fc6 := keeps hBw k6; have fc7 := keeps hBw k7; have fc8 := keeps hBw k8; have fc9 := keeps hBw k9; have fc10 := keeps hBw k10; have fc11 := keeps hBw k11; have fc12 := keeps hBw k12; have fc13 := keeps hBw k13; have fc14 := keeps hBw k14; have fc15 := keeps hBw k15; have fc16 := keeps hBw k16; have fc17 := keeps hBw k17; have fc18 := keeps hBw k18; have fc19 := keeps hBw k19; have fc20 := keeps hBw k20; have fc21 := keeps hBw k21; have fc22 := keeps hBw k22; have fc23 := keeps hBw k23; have fc24 := keeps hBw k24; have fc25 := keeps hBw k25; have fc26 := keeps hBw k26; have fc27 := keeps hBw k27; have fc28 := keeps hBw k28; have fc29 := keeps hBw k29; have fc30 := keeps hBw k30; have fc31 := keeps hBw k31))
        | (go_at_call 19; ((with_reducible refine (rsame e5 hs4 _ _ _ _ _ (HA.out.below (w1 := _) (by assumption)) (HO.out.below (w1 := _) (by assumption))).mono ?_); (try go_split_ands); rintro e wn ⟨rfl, hbn⟩; have hBw : Below wS.heap.size wS wn := Below.step (by assumption) hbn; clear hbn; have fc0 := keeps hBw k0; have fc1 := keeps hBw k1; have fc2 := keeps hBw k2; have fc3 := keeps hBw k3; have fc4 := keeps hBw k4; have fc5 := keeps hBw k5; have fc6 := keeps hBw k6; have fc7 := keeps hBw k7; have fc8 := keeps hBw k8; have fc9 := keeps hBw k9; have fc10 := keeps hBw k10; have fc11 := keeps hBw k11; have fc12 := keeps hBw k12; have fc13 := keeps hBw k13; have fc14 := keeps hBw k14; have fc15 := keeps hBw k15; have fc16 := keeps hBw k16; have fc17 := keeps hBw k17; have fc18 := keeps hBw k18; have fc19 := keeps hBw k19; have fc20 := keeps hBw k20; have fc21 := keeps hBw k21; have fc22 := keeps hBw k22; have fc23 := keeps hBw k23; have fc24 := keeps hBw k24; have fc25 := keeps hBw k25; have fc26 := keeps hBw k26; have fc27 := keeps hBw k27; have fc28 := keeps hBw k28; have fc29 := keeps hBw k29; have fc30 := keeps hBw k30; have fc31 := keeps hBw k31))
        | (go_at_call 24; ((with_reducible refine (srsame e5 hs4 _ _ _ _ _ (HA.out.below (w1 := _) (by assumption)) (HO.out.below (w1 := _) (by assumption))).mono ?_); (try go_split_ands); rintro e wn ⟨rfl, hbn⟩; have hBw : Below wS.heap.size wS wn := Below.step (by assumption) hbn; clear hbn; have fc0 := keeps hBw k0; have fc1 := keeps hBw k1; have fc2 := keeps hBw k2; have fc3 := keeps hBw k3; have fc4 := keeps hBw k4; have fc5 := keeps hBw k5; have fc6 := keeps hBw k6; have fc7 := keeps hBw k7; have fc8 := keeps hBw k8; have fc9 := keeps hBw k9; have fc10 := keeps hBw k10; have fc11 := keeps hBw k11; have fc12 := keeps hBw k12; have fc13 := keeps hBw k13; have fc14 := keeps hBw k14; have fc15 := keeps hBw k15; have fc16 := keeps hBw k16; have fc17 := keeps hBw k17; have fc18 := keeps hBw k18; have fc19 := keeps hBw k19; have fc20 := keeps hBw k20; have fc21 := keeps hBw k21; have fc22 := keeps hBw k22; have fc23 := keeps hBw k23; have fc24 := keeps hBw k24; have fc25 := keeps hBw k25; have fc26 := keeps hBw k26; have fc27 := keeps hBw k27; have fc28 := keeps hBw k28; have fc29 := keeps hBw k29; have fc30 := keeps hBw k30; have fc31 := keeps hBw k31)))
  replace K2 := mkHid (K2.out.step hBw)
  replace Mva := mkHid (Mva.out.below hBw)
  replace Mvc := mkHid (Mvc.out.below hBw)
  have XR := mkHid (ZX.out.keep hBw)
  have AR := mkHid (ZVA.out.keep hBw)
  have CR := mkHid (ZVC.out.keep hBw)
  simp at nva nvb nvc Mvc
  clear hb0 k0 k1 k2 k3 k4 k5 k6 k7 k8 k9 k10 k11 k12 k13 k14 k15 k16 k17 k18 k19 k20 k21 k22 k23 k24 k25 k26 k27 k28 k29 k30 k31 fc0 fc1 fc3 fc4 fc5 fc6 fc7 fc8 fc9 fc11 fc12 fc13 fc14 fc15 fc16 fc17 fc19 fc20 fc21 fc22 fc23 fc24 fc25 fc26 fc27 fc28 fc29 fc30 fc31 ZX ZO KB HA HO HW Hva Hvb Hvc Hvd ZVA ZVB ZVC ZVD ZNA ZNB hBw
  go_wp2_with fail
  go_loopw [150] (fun i wr => ∃ k : Nat, k ≤ P.s.length ∧ i = .int .i64 (k : Int) ∧ Hid (Below w4.heap.size w4 wr) ∧ Hid (Mine wr w4.heap.size va P.s.length) ∧ Hid (Mine wr (w6.heap.size + 1) vc Q.s.length) ∧ Blk wr w.heap.size 25 #[.int .i64 h, .int .i64 room, .slice A s.length c, .int .i64 n] ∧ Blk wr w5.heap.size 25 #[.int .i64 P.h, .int .i64 P.room, .slice va P.s.length vac, .int .i64 P.n] ∧ Blk wr w7.heap.size 25 #[.int .i64 Q.h, .int .i64 Q.room, .slice vc Q.s.length vcc, .int .i64 Q.n]) (fun i _ => P.s.length - (intOf i).toNat)
  case atStart => exact ⟨0, by omega, rfl, K2, Mva, Mvc, XR, AR, CR⟩
  case round =>
    clear K2 Mva Mvc XR AR CR
    obtain ⟨k, hk, rfl, hB, hM, hP, bX, bA, bC⟩ := hrel
    have cX := bX.cell 2
    have cA := bA.cell 2
    have cC := bC.cell 2
    by_cases hlt : k < P.s.length
    · obtain ⟨gb, rfl, hgb, hc⟩ := hM.out (by omega)
      obtain ⟨⟨y, cy⟩, fy⟩ := hc k hlt
      have hgl : gb < w5.heap.size := qva gb (by omega) rfl
      go_wp2
      go_roundw
      case rel => exact ⟨k + 1, by omega, by go_num, mkHid (hB.out.setCell hgb _), mkHid (hM.out.set k _), mkHid (hP.out.past (by omega) k _), bX.other _ (by omega), bA.other _ (by omega), bC.other _ (by omega)⟩
      case measure => simp [intOf]; omega
    · obtain rfl : k = P.s.length := by omega
      go_wp2_with fail
      go_loopw [164] (fun i wq => ∃ k : Nat, k ≤ Q.s.length ∧ i = .int .i64 (k : Int) ∧ Hid (Below w4.heap.size w4 wq) ∧ Hid (Mine wq (w6.heap.size + 1) vc Q.s.length) ∧ Blk wq w.heap.size 25 #[.int .i64 h, .int .i64 room, .slice A s.length c, .int .i64 n] ∧ Blk wq w7.heap.size 25 #[.int .i64 Q.h, .int .i64 Q.room, .slice vc Q.s.length vcc, .int .i64 Q.n]) (fun i _ => Q.s.length - (intOf i).toNat)
      case atStart => exact ⟨0, by omega, rfl, hB, hP, bX, bC⟩
      case round =>
        clear hB hP bX bC cX cA cC bA hM
        obtain ⟨k, hk, rfl, hB, hP, bX, bC⟩ := hrel
        have cX := bX.cell 2
        have cC := bC.cell 2
        by_cases hlt : k < Q.s.length
        · obtain ⟨gb, rfl, hgb, hc⟩ := hP.out (by omega)
          obtain ⟨⟨y, cy⟩, fy⟩ := hc k hlt
          have hgl : gb < w7.heap.size := qvc gb (by omega) rfl
          go_wp2
          go_roundw
          case rel => exact ⟨k + 1, by omega, by go_num, mkHid (hB.out.setCell (show w4.heap.size ≤ gb by omega) _), mkHid (hP.out.set k _), bX.other _ (by omega), bC.other _ (by omega)⟩
          case measure => simp [intOf]; omega
        · obtain rfl : k = Q.s.length := by omega
          have hAe := HA2.out.below hB.out
          have hWe := HW2.out.below hB.out
          go_wp2_with fail
          refine (ssame_any (mkHid (decide_eq_true rfl)) hs4 _ _ _ _ _ hAe hWe).mono ?_
          rintro e we ⟨rfl, hbe⟩
          have hF := mkHid (KB2.out.step (hB.out.step hbe))
          clear hbe hAe hWe hB hP
          go_wp2_with fail
          go_ret
          exact ⟨rfl, hF.out⟩
theorem add_len {h room n : Int} {s : List Nat} {t : Nat} {R : RollA} {r : Int} (e : rollAdd h room s n t = (R, r)) : R.s.length ≤ 1024 := by
  by_cases hr : r = 0
  · subst hr
    obtain ⟨k, G, ht, hx, hl, hn, rfl⟩ := add_ok e
    exact (G.more ht hx hl hn).short
  · rw [add_err e hr]; exact Nat.zero_le _
theorem del_len {h room n : Int} {s : List Nat} {t : Nat} {R : RollA} {r : Int} (e : rollDel h room s n t = (R, r)) : R.s.length ≤ 1024 := by
  unfold rollDel at e
  split at e
  · rename_i c
    obtain ⟨k, G⟩ := good_of c.1
    split at e
    · cases e; exact Nat.zero_le _
    · rename_i hx
      split at e
      · cases e; exact Nat.zero_le _
      · cases e
        have := remL_length G.set (x := t) (Classical.not_not.1 hx)
        have := G.short
        show (remL s t).length ≤ 1024
        omega
  · cases e; exact Nat.zero_le _
theorem fewB_len {s : List Nat} (e : fewB s = true) : s.length ≤ 1030 := by
  unfold fewB at e
  have := of_decide_eq_true e
  omega
theorem walk_RollDoes {w : World} (h room n : Int) (A : Option Addr) (s : List Nat) (c : Nat) (_wn : (Lit.int .i64 n).wf = true) (_lc : s.length ≤ c) (_mc : c ≤ maxLen) (hA : Reads w A s) (hz : A = none → c = 0)
    (h2 room2 n2 : Int) (A2 : Option Addr) (s2 : List Nat) (c2 : Nat) (_wn2 : (Lit.int .i64 n2).wf = true) (_lc2 : s2.length ≤ c2) (_mc2 : c2 ≤ maxLen) (hA2 : Reads w A2 s2) (_hz2 : A2 = none → c2 = 0) (hh : Int) (_wh : (Lit.int .i64 hh).wf = true) (rm : Int) (_wr : (Lit.int .i64 rm).wf = true) (i : Int) (hi : (Lit.int .u64 i).wf = true) :
    Calls Try.prog 5 #[.agg #[.int .i64 h, .int .i64 room, .slice A s.length c, .int .i64 n], .agg #[.int .i64 h2, .int .i64 room2, .slice A2 s2.length c2, .int .i64 n2], .int .i64 hh, .int .i64 rm, .int .u64 i] w fun e w' => e = .returned (.bool true) ∧ Below w.heap.size w w' := by
  obtain ⟨i, rfl, _⟩ := nat_u64 hi
  obtain ⟨z, hf⟩ : ∃ z, fewB s = z := ⟨_, rfl⟩
  cases z
  · exact rdoes_long1 (mkHid hf) A A2 c c2 w hA hA2
  · obtain ⟨z2, hf2⟩ : ∃ z, fewB s2 = z := ⟨_, rfl⟩
    cases z2
    · exact rdoes_long2 (mkHid hf) (mkHid hf2) A A2 c c2 w hA hA2
    · obtain ⟨P, r1, e1⟩ : ∃ R r, rollAdd h room s n i = (R, r) := ⟨_, _, rfl⟩
      obtain ⟨Q, r2, e2⟩ : ∃ R r, rollDel h room s n i = (R, r) := ⟨_, _, rfl⟩
      obtain ⟨z1, r3, e3⟩ : ∃ z r, rollIs h room s n i = (z, r) := ⟨_, _, rfl⟩
      rcases rollCheck_or hh rm [] 0 with e6 | e6
      · exact rdoes_ok (mkHid hf) (mkHid hf2) (fewB_len hf) (mkHid e1) (mkHid e2) (mkHid e3) (mkHid rfl) (mkHid rfl) (add_len e1) (del_len e2) (mkHid e6) A A2 c c2 hz w hA hA2
      · exact rdoes_no (mkHid hf) (mkHid hf2) (fewB_len hf) (mkHid e1) (mkHid e2) (mkHid e3) (mkHid rfl) (mkHid rfl) (add_len e1) (del_len e2) (mkHid e6) A A2 c c2 hz w hA hA2
end Go.Proofs.Ytmehbonjpmlmfaa
