/- The contracts of the document's Revoke and Reinstate; they and the program's come to the same. -/
import Derived.Test.YtmehbonjpmlmfaaRollD
namespace Go.Proofs.Ytmehbonjpmlmfaa
open Go.RowKit Go.Proofs.YtmehbonjpmlmfaaW.PrintWords

set_option maxRecDepth 100000 in
set_option maxHeartbeats 4000000 in
theorem srev_no {h room n : Int} {s : List Nat} {t : Nat} {z : Bool} {r : Int} (e : Hid (rollIs h room s n t = (z, r))) (hr : r ≠ 0)  (A : Option Addr) (c : Nat) (w : World) (hA : Reads w A s) :
    Calls Try.prog 20 #[.agg #[.int .i64 h, .int .i64 room, .slice A s.length c, .int .i64 n], .int .u64 (t : Int)] w (RPost ⟨0, 0, [], 0⟩ r w) := by
  skip
  have ZX : Hid (Blk ((w.alloc (.cells #[.int .i64 h, .int .i64 room, .slice A s.length c, .int .i64 n] 25)).alloc (.cells #[.int .i64 0, .int .i64 0, .slice none 0 0, .int .i64 0] 25)) w.heap.size 25 #[.int .i64 h, .int .i64 room, .slice A s.length c, .int .i64 n]) := mkHid ((Blk.new _ _ _).alloc _)
  have ZZ : Hid (Blk ((w.alloc (.cells #[.int .i64 h, .int .i64 room, .slice A s.length c, .int .i64 n] 25)).alloc (.cells #[.int .i64 0, .int .i64 0, .slice none 0 0, .int .i64 0] 25)) (w.heap.size + 1) 25 #[.int .i64 0, .int .i64 0, .slice none 0 0, .int .i64 0]) := mkHid (Blk.at _ _ _ (by simp))
  have KB : Hid (Below w.heap.size w ((w.alloc (.cells #[.int .i64 h, .int .i64 room, .slice A s.length c, .int .i64 n] 25)).alloc (.cells #[.int .i64 0, .int .i64 0, .slice none 0 0, .int .i64 0] 25))) := mkHid (((Below.refl _ _).alloc (Nat.le_refl _) _).alloc (by simp) _)
  have HA := mkHid (hA.below (((Below.refl _ _).alloc (Nat.le_refl _) (.cells #[.int .i64 h, .int .i64 room, .slice A s.length c, .int .i64 n] 25)).alloc (by simp) (.cells #[.int .i64 0, .int .i64 0, .slice none 0 0, .int .i64 0] 25)))
  clear hA
  have cZX := ZX.out.four
  have cZZ := ZZ.out.four
  have fZZ0 := ZZ.out.frozen 0
  have fZZ1 := ZZ.out.frozen 1
  have fZZ2 := ZZ.out.frozen 2
  have fZZ3 := ZZ.out.frozen 3
  have t0 : (r != (0 : Int)) = true := bne_iff_ne.2 hr
  go_enter Try.func20, Try.ntmps20
  go_wp2_with fail
  refine (sris e _ _ _ HA.out).mono ?_
  rintro e w1 ⟨rfl, hb1⟩
  replace ZX := mkHid (ZX.out.keep hb1)
  replace ZZ := mkHid (ZZ.out.keep hb1)
  replace KB := mkHid (KB.out.step hb1)
  replace HA := mkHid (HA.out.below hb1)
  clear cZX
  have cZX := ZX.out.four
  clear cZZ fZZ0 fZZ1 fZZ2 fZZ3
  have cZZ := ZZ.out.four
  have fZZ0 := ZZ.out.frozen 0
  have fZZ1 := ZZ.out.frozen 1
  have fZZ2 := ZZ.out.frozen 2
  have fZZ3 := ZZ.out.frozen 3
  clear hb1
  go_wp2_with fail
  have qR := (ZZ.out.fill4 (x := .int .i64 0) (y := .int .i64 0) (u := .slice none 0 0) (v := .int .i64 0)).four
  refine bodyPost_ret (v := .tuple #[.agg #[.int .i64 0, .int .i64 0, .slice none 0 0, .int .i64 0], .int .i64 r]) (by simp [results, Try.results20, go_sem, qR]) rfl ⟨_, rfl, RowOf.nil _ _, below_four KB.out (by omega) _ _ _ _⟩

set_option maxRecDepth 100000 in
set_option maxHeartbeats 4000000 in
theorem srev_is {h room n : Int} {s : List Nat} {t : Nat} (e : Hid (rollIs h room s n t = (true, 0)))  (A : Option Addr) (c : Nat) (w : World) (hA : Reads w A s) :
    Calls Try.prog 20 #[.agg #[.int .i64 h, .int .i64 room, .slice A s.length c, .int .i64 n], .int .u64 (t : Int)] w (RPost ⟨0, 0, [], 0⟩ 5 w) := by
  skip
  have ZX : Hid (Blk ((w.alloc (.cells #[.int .i64 h, .int .i64 room, .slice A s.length c, .int .i64 n] 25)).alloc (.cells #[.int .i64 0, .int .i64 0, .slice none 0 0, .int .i64 0] 25)) w.heap.size 25 #[.int .i64 h, .int .i64 room, .slice A s.length c, .int .i64 n]) := mkHid ((Blk.new _ _ _).alloc _)
  have ZZ : Hid (Blk ((w.alloc (.cells #[.int .i64 h, .int .i64 room, .slice A s.length c, .int .i64 n] 25)).alloc (.cells #[.int .i64 0, .int .i64 0, .slice none 0 0, .int .i64 0] 25)) (w.heap.size + 1) 25 #[.int .i64 0, .int .i64 0, .slice none 0 0, .int .i64 0]) := mkHid (Blk.at _ _ _ (by simp))
  have KB : Hid (Below w.heap.size w ((w.alloc (.cells #[.int .i64 h, .int .i64 room, .slice A s.length c, .int .i64 n] 25)).alloc (.cells #[.int .i64 0, .int .i64 0, .slice none 0 0, .int .i64 0] 25))) := mkHid (((Below.refl _ _).alloc (Nat.le_refl _) _).alloc (by simp) _)
  have HA := mkHid (hA.below (((Below.refl _ _).alloc (Nat.le_refl _) (.cells #[.int .i64 h, .int .i64 room, .slice A s.length c, .int .i64 n] 25)).alloc (by simp) (.cells #[.int .i64 0, .int .i64 0, .slice none 0 0, .int .i64 0] 25)))
  clear hA
  have cZX := ZX.out.four
  have cZZ := ZZ.out.four
  have fZZ0 := ZZ.out.frozen 0
  have fZZ1 := ZZ.out.frozen 1
  have fZZ2 := ZZ.out.frozen 2
  have fZZ3 := ZZ.out.frozen 3
  go_enter Try.func20, Try.ntmps20
  go_wp2_with fail
  refine (sris e _ _ _ HA.out).mono ?_
  rintro e w1 ⟨rfl, hb1⟩
  replace ZX := mkHid (ZX.out.keep hb1)
  replace ZZ := mkHid (ZZ.out.keep hb1)
  replace KB := mkHid (KB.out.step hb1)
  replace HA := mkHid (HA.out.below hb1)
  clear cZX
  have cZX := ZX.out.four
  clear cZZ fZZ0 fZZ1 fZZ2 fZZ3
  have cZZ := ZZ.out.four
  have fZZ0 := ZZ.out.frozen 0
  have fZZ1 := ZZ.out.frozen 1
  have fZZ2 := ZZ.out.frozen 2
  have fZZ3 := ZZ.out.frozen 3
  clear hb1
  go_wp2_with fail
  have qR := (ZZ.out.fill4 (x := .int .i64 0) (y := .int .i64 0) (u := .slice none 0 0) (v := .int .i64 0)).four
  refine bodyPost_ret (v := .tuple #[.agg #[.int .i64 0, .int .i64 0, .slice none 0 0, .int .i64 0], .int .i64 5]) (by simp [results, Try.results20, go_sem, qR]) rfl ⟨_, rfl, RowOf.nil _ _, below_four KB.out (by omega) _ _ _ _⟩

set_option maxRecDepth 100000 in
set_option maxHeartbeats 4000000 in
theorem srev_full {h room n : Int} {s : List Nat} {t : Nat} (e : Hid (rollIs h room s n t = (false, 0))) (hl : (s.length : Int) = room)  (A : Option Addr) (c : Nat) (w : World) (hA : Reads w A s) :
    Calls Try.prog 20 #[.agg #[.int .i64 h, .int .i64 room, .slice A s.length c, .int .i64 n], .int .u64 (t : Int)] w (RPost ⟨0, 0, [], 0⟩ 6 w) := by
  skip
  have ZX : Hid (Blk ((w.alloc (.cells #[.int .i64 h, .int .i64 room, .slice A s.length c, .int .i64 n] 25)).alloc (.cells #[.int .i64 0, .int .i64 0, .slice none 0 0, .int .i64 0] 25)) w.heap.size 25 #[.int .i64 h, .int .i64 room, .slice A s.length c, .int .i64 n]) := mkHid ((Blk.new _ _ _).alloc _)
  have ZZ : Hid (Blk ((w.alloc (.cells #[.int .i64 h, .int .i64 room, .slice A s.length c, .int .i64 n] 25)).alloc (.cells #[.int .i64 0, .int .i64 0, .slice none 0 0, .int .i64 0] 25)) (w.heap.size + 1) 25 #[.int .i64 0, .int .i64 0, .slice none 0 0, .int .i64 0]) := mkHid (Blk.at _ _ _ (by simp))
  have KB : Hid (Below w.heap.size w ((w.alloc (.cells #[.int .i64 h, .int .i64 room, .slice A s.length c, .int .i64 n] 25)).alloc (.cells #[.int .i64 0, .int .i64 0, .slice none 0 0, .int .i64 0] 25))) := mkHid (((Below.refl _ _).alloc (Nat.le_refl _) _).alloc (by simp) _)
  have HA := mkHid (hA.below (((Below.refl _ _).alloc (Nat.le_refl _) (.cells #[.int .i64 h, .int .i64 room, .slice A s.length c, .int .i64 n] 25)).alloc (by simp) (.cells #[.int .i64 0, .int .i64 0, .slice none 0 0, .int .i64 0] 25)))
  clear hA
  have cZX := ZX.out.four
  have cZZ := ZZ.out.four
  have fZZ0 := ZZ.out.frozen 0
  have fZZ1 := ZZ.out.frozen 1
  have fZZ2 := ZZ.out.frozen 2
  have fZZ3 := ZZ.out.frozen 3
  have t1 : ((s.length : Int) == room) = true := beq_iff_eq.2 hl
  clear hl
  go_enter Try.func20, Try.ntmps20
  go_wp2_with fail
  refine (sris e _ _ _ HA.out).mono ?_
  rintro e w1 ⟨rfl, hb1⟩
  replace ZX := mkHid (ZX.out.keep hb1)
  replace ZZ := mkHid (ZZ.out.keep hb1)
  replace KB := mkHid (KB.out.step hb1)
  replace HA := mkHid (HA.out.below hb1)
  clear cZX
  have cZX := ZX.out.four
  clear cZZ fZZ0 fZZ1 fZZ2 fZZ3
  have cZZ := ZZ.out.four
  have fZZ0 := ZZ.out.frozen 0
  have fZZ1 := ZZ.out.frozen 1
  have fZZ2 := ZZ.out.frozen 2
  have fZZ3 := ZZ.out.frozen 3
  clear hb1
  go_wp2_with fail
  have qR := (ZZ.out.fill4 (x := .int .i64 0) (y := .int .i64 0) (u := .slice none 0 0) (v := .int .i64 0)).four
  refine bodyPost_ret (v := .tuple #[.agg #[.int .i64 0, .int .i64 0, .slice none 0 0, .int .i64 0], .int .i64 6]) (by simp [results, Try.results20, go_sem, qR]) rfl ⟨_, rfl, RowOf.nil _ _, below_four KB.out (by omega) _ _ _ _⟩

set_option maxRecDepth 100000 in
set_option maxHeartbeats 4000000 in
theorem srev_over {h room n : Int} {s : List Nat} {t : Nat} (e : Hid (rollIs h room s n t = (false, 0))) (hl : (s.length : Int) ≠ room) (hn : n = 1099511627776)  (A : Option Addr) (c : Nat) (w : World) (hA : Reads w A s) :
    Calls Try.prog 20 #[.agg #[.int .i64 h, .int .i64 room, .slice A s.length c, .int .i64 n], .int .u64 (t : Int)] w (RPost ⟨0, 0, [], 0⟩ 9 w) := by
  skip
  have ZX : Hid (Blk ((w.alloc (.cells #[.int .i64 h, .int .i64 room, .slice A s.length c, .int .i64 n] 25)).alloc (.cells #[.int .i64 0, .int .i64 0, .slice none 0 0, .int .i64 0] 25)) w.heap.size 25 #[.int .i64 h, .int .i64 room, .slice A s.length c, .int .i64 n]) := mkHid ((Blk.new _ _ _).alloc _)
  have ZZ : Hid (Blk ((w.alloc (.cells #[.int .i64 h, .int .i64 room, .slice A s.length c, .int .i64 n] 25)).alloc (.cells #[.int .i64 0, .int .i64 0, .slice none 0 0, .int .i64 0] 25)) (w.heap.size + 1) 25 #[.int .i64 0, .int .i64 0, .slice none 0 0, .int .i64 0]) := mkHid (Blk.at _ _ _ (by simp))
  have KB : Hid (Below w.heap.size w ((w.alloc (.cells #[.int .i64 h, .int .i64 room, .slice A s.length c, .int .i64 n] 25)).alloc (.cells #[.int .i64 0, .int .i64 0, .slice none 0 0, .int .i64 0] 25))) := mkHid (((Below.refl _ _).alloc (Nat.le_refl _) _).alloc (by simp) _)
  have HA := mkHid (hA.below (((Below.refl _ _).alloc (Nat.le_refl _) (.cells #[.int .i64 h, .int .i64 room, .slice A s.length c, .int .i64 n] 25)).alloc (by simp) (.cells #[.int .i64 0, .int .i64 0, .slice none 0 0, .int .i64 0] 25)))
  clear hA
  have cZX := ZX.out.four
  have cZZ := ZZ.out.four
  have fZZ0 := ZZ.out.frozen 0
  have fZZ1 := ZZ.out.frozen 1
  have fZZ2 := ZZ.out.frozen 2
  have fZZ3 := ZZ.out.frozen 3
  have t1 : ((s.length : Int) == room) = false := beq_eq_false_iff_ne.2 hl
  clear hl
  have t2 : (n == (1099511627776 : Int)) = true := beq_iff_eq.2 hn
  clear hn
  go_enter Try.func20, Try.ntmps20
  go_wp2_with fail
  refine (sris e _ _ _ HA.out).mono ?_
  rintro e w1 ⟨rfl, hb1⟩
  replace ZX := mkHid (ZX.out.keep hb1)
  replace ZZ := mkHid (ZZ.out.keep hb1)
  replace KB := mkHid (KB.out.step hb1)
  replace HA := mkHid (HA.out.below hb1)
  clear cZX
  have cZX := ZX.out.four
  clear cZZ fZZ0 fZZ1 fZZ2 fZZ3
  have cZZ := ZZ.out.four
  have fZZ0 := ZZ.out.frozen 0
  have fZZ1 := ZZ.out.frozen 1
  have fZZ2 := ZZ.out.frozen 2
  have fZZ3 := ZZ.out.frozen 3
  clear hb1
  go_wp2_with fail
  have qR := (ZZ.out.fill4 (x := .int .i64 0) (y := .int .i64 0) (u := .slice none 0 0) (v := .int .i64 0)).four
  refine bodyPost_ret (v := .tuple #[.agg #[.int .i64 0, .int .i64 0, .slice none 0 0, .int .i64 0], .int .i64 9]) (by simp [results, Try.results20, go_sem, qR]) rfl ⟨_, rfl, RowOf.nil _ _, below_four KB.out (by omega) _ _ _ _⟩

set_option maxRecDepth 100000 in
set_option maxHeartbeats 4000000 in
theorem srev_ok {h room n : Int} {s : List Nat} {t : Nat} (e : Hid (rollIs h room s n t = (false, 0))) (hl : (s.length : Int) ≠ room) (hn : n ≠ 1099511627776) (n0 : 0 ≤ n) (n1 : n ≤ 1099511627776) {L : List Nat} {q : Int} (f : Hid (withAll h s t = (L, q)))  (A : Option Addr) (c : Nat) (w : World) (hA : Reads w A s) :
    Calls Try.prog 20 #[.agg #[.int .i64 h, .int .i64 room, .slice A s.length c, .int .i64 n], .int .u64 (t : Int)] w (RPost ⟨h, room, L, n + 1⟩ 0 w) := by
  skip
  have ZX : Hid (Blk ((w.alloc (.cells #[.int .i64 h, .int .i64 room, .slice A s.length c, .int .i64 n] 25)).alloc (.cells #[.int .i64 0, .int .i64 0, .slice none 0 0, .int .i64 0] 25)) w.heap.size 25 #[.int .i64 h, .int .i64 room, .slice A s.length c, .int .i64 n]) := mkHid ((Blk.new _ _ _).alloc _)
  have ZZ : Hid (Blk ((w.alloc (.cells #[.int .i64 h, .int .i64 room, .slice A s.length c, .int .i64 n] 25)).alloc (.cells #[.int .i64 0, .int .i64 0, .slice none 0 0, .int .i64 0] 25)) (w.heap.size + 1) 25 #[.int .i64 0, .int .i64 0, .slice none 0 0, .int .i64 0]) := mkHid (Blk.at _ _ _ (by simp))
  have KB : Hid (Below w.heap.size w ((w.alloc (.cells #[.int .i64 h, .int .i64 room, .slice A s.length c, .int .i64 n] 25)).alloc (.cells #[.int .i64 0, .int .i64 0, .slice none 0 0, .int .i64 0] 25))) := mkHid (((Below.refl _ _).alloc (Nat.le_refl _) _).alloc (by simp) _)
  have HA := mkHid (hA.below (((Below.refl _ _).alloc (Nat.le_refl _) (.cells #[.int .i64 h, .int .i64 room, .slice A s.length c, .int .i64 n] 25)).alloc (by simp) (.cells #[.int .i64 0, .int .i64 0, .slice none 0 0, .int .i64 0] 25)))
  clear hA
  have cZX := ZX.out.four
  have cZZ := ZZ.out.four
  have fZZ0 := ZZ.out.frozen 0
  have fZZ1 := ZZ.out.frozen 1
  have fZZ2 := ZZ.out.frozen 2
  have fZZ3 := ZZ.out.frozen 3
  have t1 : ((s.length : Int) == room) = false := beq_eq_false_iff_ne.2 hl
  clear hl
  have t2 : (n == (1099511627776 : Int)) = false := beq_eq_false_iff_ne.2 hn
  clear hn
  go_enter Try.func20, Try.ntmps20
  go_wp2_with fail
  refine (sris e _ _ _ HA.out).mono ?_
  rintro e w1 ⟨rfl, hb1⟩
  replace ZX := mkHid (ZX.out.keep hb1)
  replace ZZ := mkHid (ZZ.out.keep hb1)
  replace KB := mkHid (KB.out.step hb1)
  replace HA := mkHid (HA.out.below hb1)
  clear cZX
  have cZX := ZX.out.four
  clear cZZ fZZ0 fZZ1 fZZ2 fZZ3
  have cZZ := ZZ.out.four
  have fZZ0 := ZZ.out.frozen 0
  have fZZ1 := ZZ.out.frozen 1
  have fZZ2 := ZZ.out.frozen 2
  have fZZ3 := ZZ.out.frozen 3
  clear hb1
  go_wp2_with fail
  refine (swith_all h s t f _ _ _ HA.out).mono ?_
  rintro e w2 ⟨v, rfl, ho, hb2⟩
  have SZ : w.heap.size + 1 < w1.heap.size := ZZ.out.lt
  have RV := mkHid ho
  clear ho
  obtain ⟨va, vc, rfl⟩ := RV.out.len
  replace ZX := mkHid (ZX.out.keep hb2)
  replace ZZ := mkHid (ZZ.out.keep hb2)
  replace KB := mkHid (KB.out.step hb2)
  replace HA := mkHid (HA.out.below hb2)
  clear cZX
  have cZX := ZX.out.four
  clear cZZ fZZ0 fZZ1 fZZ2 fZZ3
  have cZZ := ZZ.out.four
  have fZZ0 := ZZ.out.frozen 0
  have fZZ1 := ZZ.out.frozen 1
  have fZZ2 := ZZ.out.frozen 2
  have fZZ3 := ZZ.out.frozen 3
  clear hb2
  go_wp2_with fail
  have qR := (ZZ.out.fill4 (x := .int .i64 h) (y := .int .i64 room) (u := .slice va L.length vc) (v := .int .i64 (n + 1))).four
  refine bodyPost_ret (v := .tuple #[.agg #[.int .i64 h, .int .i64 room, .slice va L.length vc, .int .i64 (n + 1)], .int .i64 0]) (by simp [results, Try.results20, go_sem, qR]) rfl ⟨_, rfl, RowOf.rebase (RowOf.past4 RV.out SZ _ _ _ _) (by omega), below_four KB.out (by omega) _ _ _ _⟩

set_option maxRecDepth 100000 in
set_option maxHeartbeats 4000000 in
theorem srein_no {h room n : Int} {s : List Nat} {t : Nat} {z : Bool} {r : Int} (e : Hid (rollIs h room s n t = (z, r))) (hr : r ≠ 0)  (A : Option Addr) (c : Nat) (w : World) (hA : Reads w A s) :
    Calls Try.prog 21 #[.agg #[.int .i64 h, .int .i64 room, .slice A s.length c, .int .i64 n], .int .u64 (t : Int)] w (RPost ⟨0, 0, [], 0⟩ r w) := by
  skip
  have ZX : Hid (Blk ((w.alloc (.cells #[.int .i64 h, .int .i64 room, .slice A s.length c, .int .i64 n] 25)).alloc (.cells #[.int .i64 0, .int .i64 0, .slice none 0 0, .int .i64 0] 25)) w.heap.size 25 #[.int .i64 h, .int .i64 room, .slice A s.length c, .int .i64 n]) := mkHid ((Blk.new _ _ _).alloc _)
  have ZZ : Hid (Blk ((w.alloc (.cells #[.int .i64 h, .int .i64 room, .slice A s.length c, .int .i64 n] 25)).alloc (.cells #[.int .i64 0, .int .i64 0, .slice none 0 0, .int .i64 0] 25)) (w.heap.size + 1) 25 #[.int .i64 0, .int .i64 0, .slice none 0 0, .int .i64 0]) := mkHid (Blk.at _ _ _ (by simp))
  have KB : Hid (Below w.heap.size w ((w.alloc (.cells #[.int .i64 h, .int .i64 room, .slice A s.length c, .int .i64 n] 25)).alloc (.cells #[.int .i64 0, .int .i64 0, .slice none 0 0, .int .i64 0] 25))) := mkHid (((Below.refl _ _).alloc (Nat.le_refl _) _).alloc (by simp) _)
  have HA := mkHid (hA.below (((Below.refl _ _).alloc (Nat.le_refl _) (.cells #[.int .i64 h, .int .i64 room, .slice A s.length c, .int .i64 n] 25)).alloc (by simp) (.cells #[.int .i64 0, .int .i64 0, .slice none 0 0, .int .i64 0] 25)))
  clear hA
  have cZX := ZX.out.four
  have cZZ := ZZ.out.four
  have fZZ0 := ZZ.out.frozen 0
  have fZZ1 := ZZ.out.frozen 1
  have fZZ2 := ZZ.out.frozen 2
  have fZZ3 := ZZ.out.frozen 3
  have t0 : (r != (0 : Int)) = true := bne_iff_ne.2 hr
  go_enter Try.func21, Try.ntmps21
  go_wp2_with fail
  refine (sris e _ _ _ HA.out).mono ?_
  rintro e w1 ⟨rfl, hb1⟩
  replace ZX := mkHid (ZX.out.keep hb1)
  replace ZZ := mkHid (ZZ.out.keep hb1)
  replace KB := mkHid (KB.out.step hb1)
  replace HA := mkHid (HA.out.below hb1)
  clear cZX
  have cZX := ZX.out.four
  clear cZZ fZZ0 fZZ1 fZZ2 fZZ3
  have cZZ := ZZ.out.four
  have fZZ0 := ZZ.out.frozen 0
  have fZZ1 := ZZ.out.frozen 1
  have fZZ2 := ZZ.out.frozen 2
  have fZZ3 := ZZ.out.frozen 3
  clear hb1
  go_wp2_with fail
  have qR := (ZZ.out.fill4 (x := .int .i64 0) (y := .int .i64 0) (u := .slice none 0 0) (v := .int .i64 0)).four
  refine bodyPost_ret (v := .tuple #[.agg #[.int .i64 0, .int .i64 0, .slice none 0 0, .int .i64 0], .int .i64 r]) (by simp [results, Try.results21, go_sem, qR]) rfl ⟨_, rfl, RowOf.nil _ _, below_four KB.out (by omega) _ _ _ _⟩

set_option maxRecDepth 100000 in
set_option maxHeartbeats 4000000 in
theorem srein_is {h room n : Int} {s : List Nat} {t : Nat} (e : Hid (rollIs h room s n t = (false, 0)))  (A : Option Addr) (c : Nat) (w : World) (hA : Reads w A s) :
    Calls Try.prog 21 #[.agg #[.int .i64 h, .int .i64 room, .slice A s.length c, .int .i64 n], .int .u64 (t : Int)] w (RPost ⟨0, 0, [], 0⟩ 4 w) := by
  skip
  have ZX : Hid (Blk ((w.alloc (.cells #[.int .i64 h, .int .i64 room, .slice A s.length c, .int .i64 n] 25)).alloc (.cells #[.int .i64 0, .int .i64 0, .slice none 0 0, .int .i64 0] 25)) w.heap.size 25 #[.int .i64 h, .int .i64 room, .slice A s.length c, .int .i64 n]) := mkHid ((Blk.new _ _ _).alloc _)
  have ZZ : Hid (Blk ((w.alloc (.cells #[.int .i64 h, .int .i64 room, .slice A s.length c, .int .i64 n] 25)).alloc (.cells #[.int .i64 0, .int .i64 0, .slice none 0 0, .int .i64 0] 25)) (w.heap.size + 1) 25 #[.int .i64 0, .int .i64 0, .slice none 0 0, .int .i64 0]) := mkHid (Blk.at _ _ _ (by simp))
  have KB : Hid (Below w.heap.size w ((w.alloc (.cells #[.int .i64 h, .int .i64 room, .slice A s.length c, .int .i64 n] 25)).alloc (.cells #[.int .i64 0, .int .i64 0, .slice none 0 0, .int .i64 0] 25))) := mkHid (((Below.refl _ _).alloc (Nat.le_refl _) _).alloc (by simp) _)
  have HA := mkHid (hA.below (((Below.refl _ _).alloc (Nat.le_refl _) (.cells #[.int .i64 h, .int .i64 room, .slice A s.length c, .int .i64 n] 25)).alloc (by simp) (.cells #[.int .i64 0, .int .i64 0, .slice none 0 0, .int .i64 0] 25)))
  clear hA
  have cZX := ZX.out.four
  have cZZ := ZZ.out.four
  have fZZ0 := ZZ.out.frozen 0
  have fZZ1 := ZZ.out.frozen 1
  have fZZ2 := ZZ.out.frozen 2
  have fZZ3 := ZZ.out.frozen 3
  go_enter Try.func21, Try.ntmps21
  go_wp2_with fail
  refine (sris e _ _ _ HA.out).mono ?_
  rintro e w1 ⟨rfl, hb1⟩
  replace ZX := mkHid (ZX.out.keep hb1)
  replace ZZ := mkHid (ZZ.out.keep hb1)
  replace KB := mkHid (KB.out.step hb1)
  replace HA := mkHid (HA.out.below hb1)
  clear cZX
  have cZX := ZX.out.four
  clear cZZ fZZ0 fZZ1 fZZ2 fZZ3
  have cZZ := ZZ.out.four
  have fZZ0 := ZZ.out.frozen 0
  have fZZ1 := ZZ.out.frozen 1
  have fZZ2 := ZZ.out.frozen 2
  have fZZ3 := ZZ.out.frozen 3
  clear hb1
  go_wp2_with fail
  have qR := (ZZ.out.fill4 (x := .int .i64 0) (y := .int .i64 0) (u := .slice none 0 0) (v := .int .i64 0)).four
  refine bodyPost_ret (v := .tuple #[.agg #[.int .i64 0, .int .i64 0, .slice none 0 0, .int .i64 0], .int .i64 4]) (by simp [results, Try.results21, go_sem, qR]) rfl ⟨_, rfl, RowOf.nil _ _, below_four KB.out (by omega) _ _ _ _⟩

set_option maxRecDepth 100000 in
set_option maxHeartbeats 4000000 in
theorem srein_over {h room n : Int} {s : List Nat} {t : Nat} (e : Hid (rollIs h room s n t = (true, 0))) (hn : n = 1099511627776)  (A : Option Addr) (c : Nat) (w : World) (hA : Reads w A s) :
    Calls Try.prog 21 #[.agg #[.int .i64 h, .int .i64 room, .slice A s.length c, .int .i64 n], .int .u64 (t : Int)] w (RPost ⟨0, 0, [], 0⟩ 9 w) := by
  skip
  have ZX : Hid (Blk ((w.alloc (.cells #[.int .i64 h, .int .i64 room, .slice A s.length c, .int .i64 n] 25)).alloc (.cells #[.int .i64 0, .int .i64 0, .slice none 0 0, .int .i64 0] 25)) w.heap.size 25 #[.int .i64 h, .int .i64 room, .slice A s.length c, .int .i64 n]) := mkHid ((Blk.new _ _ _).alloc _)
  have ZZ : Hid (Blk ((w.alloc (.cells #[.int .i64 h, .int .i64 room, .slice A s.length c, .int .i64 n] 25)).alloc (.cells #[.int .i64 0, .int .i64 0, .slice none 0 0, .int .i64 0] 25)) (w.heap.size + 1) 25 #[.int .i64 0, .int .i64 0, .slice none 0 0, .int .i64 0]) := mkHid (Blk.at _ _ _ (by simp))
  have KB : Hid (Below w.heap.size w ((w.alloc (.cells #[.int .i64 h, .int .i64 room, .slice A s.length c, .int .i64 n] 25)).alloc (.cells #[.int .i64 0, .int .i64 0, .slice none 0 0, .int .i64 0] 25))) := mkHid (((Below.refl _ _).alloc (Nat.le_refl _) _).alloc (by simp) _)
  have HA := mkHid (hA.below (((Below.refl _ _).alloc (Nat.le_refl _) (.cells #[.int .i64 h, .int .i64 room, .slice A s.length c, .int .i64 n] 25)).alloc (by simp) (.cells #[.int .i64 0, .int .i64 0, .slice none 0 0, .int .i64 0] 25)))
  clear hA
  have cZX := ZX.out.four
  have cZZ := ZZ.out.four
  have fZZ0 := ZZ.out.frozen 0
  have fZZ1 := ZZ.out.frozen 1
  have fZZ2 := ZZ.out.frozen 2
  have fZZ3 := ZZ.out.frozen 3
  have t2 : (n == (1099511627776 : Int)) = true := beq_iff_eq.2 hn
  clear hn
  go_enter Try.func21, Try.ntmps21
  go_wp2_with fail
  refine (sris e _ _ _ HA.out).mono ?_
  rintro e w1 ⟨rfl, hb1⟩
  replace ZX := mkHid (ZX.out.keep hb1)
  replace ZZ := mkHid (ZZ.out.keep hb1)
  replace KB := mkHid (KB.out.step hb1)
  replace HA := mkHid (HA.out.below hb1)
  clear cZX
  have cZX := ZX.out.four
  clear cZZ fZZ0 fZZ1 fZZ2 fZZ3
  have cZZ := ZZ.out.four
  have fZZ0 := ZZ.out.frozen 0
  have fZZ1 := ZZ.out.frozen 1
  have fZZ2 := ZZ.out.frozen 2
  have fZZ3 := ZZ.out.frozen 3
  clear hb1
  go_wp2_with fail
  have qR := (ZZ.out.fill4 (x := .int .i64 0) (y := .int .i64 0) (u := .slice none 0 0) (v := .int .i64 0)).four
  refine bodyPost_ret (v := .tuple #[.agg #[.int .i64 0, .int .i64 0, .slice none 0 0, .int .i64 0], .int .i64 9]) (by simp [results, Try.results21, go_sem, qR]) rfl ⟨_, rfl, RowOf.nil _ _, below_four KB.out (by omega) _ _ _ _⟩

set_option maxRecDepth 100000 in
set_option maxHeartbeats 4000000 in
theorem srein_ok {h room n : Int} {s : List Nat} {t : Nat} (e : Hid (rollIs h room s n t = (true, 0))) (hn : n ≠ 1099511627776) (n0 : 0 ≤ n) (n1 : n ≤ 1099511627776) {L : List Nat} {q : Int} (f : Hid (withoutAll h s t = (L, q)))  (A : Option Addr) (c : Nat) (w : World) (hA : Reads w A s) :
    Calls Try.prog 21 #[.agg #[.int .i64 h, .int .i64 room, .slice A s.length c, .int .i64 n], .int .u64 (t : Int)] w (RPost ⟨h, room, L, n + 1⟩ 0 w) := by
  skip
  have ZX : Hid (Blk ((w.alloc (.cells #[.int .i64 h, .int .i64 room, .slice A s.length c, .int .i64 n] 25)).alloc (.cells #[.int .i64 0, .int .i64 0, .slice none 0 0, .int .i64 0] 25)) w.heap.size 25 #[.int .i64 h, .int .i64 room, .slice A s.length c, .int .i64 n]) := mkHid ((Blk.new _ _ _).alloc _)
  have ZZ : Hid (Blk ((w.alloc (.cells #[.int .i64 h, .int .i64 room, .slice A s.length c, .int .i64 n] 25)).alloc (.cells #[.int .i64 0, .int .i64 0, .slice none 0 0, .int .i64 0] 25)) (w.heap.size + 1) 25 #[.int .i64 0, .int .i64 0, .slice none 0 0, .int .i64 0]) := mkHid (Blk.at _ _ _ (by simp))
  have KB : Hid (Below w.heap.size w ((w.alloc (.cells #[.int .i64 h, .int .i64 room, .slice A s.length c, .int .i64 n] 25)).alloc (.cells #[.int .i64 0, .int .i64 0, .slice none 0 0, .int .i64 0] 25))) := mkHid (((Below.refl _ _).alloc (Nat.le_refl _) _).alloc (by simp) _)
  have HA := mkHid (hA.below (((Below.refl _ _).alloc (Nat.le_refl _) (.cells #[.int .i64 h, .int .i64 room, .slice A s.length c, .int .i64 n] 25)).alloc (by simp) (.cells #[.int .i64 0, .int .i64 0, .slice none 0 0, .int .i64 0] 25)))
  clear hA
  have cZX := ZX.out.four
  have cZZ := ZZ.out.four
  have fZZ0 := ZZ.out.frozen 0
  have fZZ1 := ZZ.out.frozen 1
  have fZZ2 := ZZ.out.frozen 2
  have fZZ3 := ZZ.out.frozen 3
  have t2 : (n == (1099511627776 : Int)) = false := beq_eq_false_iff_ne.2 hn
  clear hn
  go_enter Try.func21, Try.ntmps21
  go_wp2_with fail
  refine (sris e _ _ _ HA.out).mono ?_
  rintro e w1 ⟨rfl, hb1⟩
  replace ZX := mkHid (ZX.out.keep hb1)
  replace ZZ := mkHid (ZZ.out.keep hb1)
  replace KB := mkHid (KB.out.step hb1)
  replace HA := mkHid (HA.out.below hb1)
  clear cZX
  have cZX := ZX.out.four
  clear cZZ fZZ0 fZZ1 fZZ2 fZZ3
  have cZZ := ZZ.out.four
  have fZZ0 := ZZ.out.frozen 0
  have fZZ1 := ZZ.out.frozen 1
  have fZZ2 := ZZ.out.frozen 2
  have fZZ3 := ZZ.out.frozen 3
  clear hb1
  go_wp2_with fail
  refine (swithout_all h s t f _ _ _ HA.out).mono ?_
  rintro e w2 ⟨v, rfl, ho, hb2⟩
  have SZ : w.heap.size + 1 < w1.heap.size := ZZ.out.lt
  have RV := mkHid ho
  clear ho
  obtain ⟨va, vc, rfl⟩ := RV.out.len
  replace ZX := mkHid (ZX.out.keep hb2)
  replace ZZ := mkHid (ZZ.out.keep hb2)
  replace KB := mkHid (KB.out.step hb2)
  replace HA := mkHid (HA.out.below hb2)
  clear cZX
  have cZX := ZX.out.four
  clear cZZ fZZ0 fZZ1 fZZ2 fZZ3
  have cZZ := ZZ.out.four
  have fZZ0 := ZZ.out.frozen 0
  have fZZ1 := ZZ.out.frozen 1
  have fZZ2 := ZZ.out.frozen 2
  have fZZ3 := ZZ.out.frozen 3
  clear hb2
  go_wp2_with fail
  have qR := (ZZ.out.fill4 (x := .int .i64 h) (y := .int .i64 room) (u := .slice va L.length vc) (v := .int .i64 (n + 1))).four
  refine bodyPost_ret (v := .tuple #[.agg #[.int .i64 h, .int .i64 room, .slice va L.length vc, .int .i64 (n + 1)], .int .i64 0]) (by simp [results, Try.results21, go_sem, qR]) rfl ⟨_, rfl, RowOf.rebase (RowOf.past4 RV.out SZ _ _ _ _) (by omega), below_four KB.out (by omega) _ _ _ _⟩

/-- what Revoke and Reinstate answer -/
def rollAdd (h room : Int) (s : List Nat) (n : Int) (t : Nat) : RollA × Int :=
  if rollCheck h room s n = 0 ∧ (hasAll h s t).2 = 0 then
    if t ∈ s then (⟨0, 0, [], 0⟩, 5) else if (s.length : Int) = room then (⟨0, 0, [], 0⟩, 6) else if n = 1099511627776 then (⟨0, 0, [], 0⟩, 9) else (⟨h, room, addL s t, n + 1⟩, 0)
  else (⟨0, 0, [], 0⟩, 1)
def rollDel (h room : Int) (s : List Nat) (n : Int) (t : Nat) : RollA × Int :=
  if rollCheck h room s n = 0 ∧ (hasAll h s t).2 = 0 then
    if t ∉ s then (⟨0, 0, [], 0⟩, 4) else if n = 1099511627776 then (⟨0, 0, [], 0⟩, 9) else (⟨h, room, remL s t, n + 1⟩, 0)
  else (⟨0, 0, [], 0⟩, 1)
theorem hasAll_or (h : Int) (s : List Nat) (t : Nat) : hasAll h s t = (false, 1) ∨ ∃ k : Nat, h = (k : Int) ∧ 1 ≤ k ∧ k ≤ 32 ∧ SetOk k s ∧ t < 2 ^ k ∧ hasAll h s t = (decide (t ∈ s), 0) := by
  by_cases c : (1 ≤ h ∧ h ≤ 32) ∧ SetOk h.toNat s ∧ t < 2 ^ h.toNat
  · refine .inr ⟨h.toNat, by omega, by omega, by omega, c.2.1, c.2.2, ?_⟩
    unfold hasAll; rw [if_pos c]
  · refine .inl ?_
    unfold hasAll; rw [if_neg c]
theorem hasAll_no {h : Int} {s : List Nat} {t : Nat} (e : hasAll h s t = (false, 1)) : withAll h s t = ([], 1) ∧ withoutAll h s t = ([], 1) := by
  unfold hasAll at e
  unfold withAll withoutAll
  split at e
  · exact absurd (show (0 : Int) = 1 from congrArg Prod.snd e) (by decide)
  · rename_i c; rw [if_neg c, if_neg c]; exact ⟨rfl, rfl⟩
theorem withAll_there {n : Nat} {s : List Nat} {t : Nat} (h1 : 1 ≤ n) (h2 : n ≤ 32) (hs : SetOk n s) (ht : t < 2 ^ n) (hx : t ∈ s) : withAll (n : Int) s t = ([], 5) := by
  unfold withAll withAns
  rw [if_pos ⟨⟨by omega, by omega⟩, by rw [Int.toNat_natCast]; exact hs, by rw [Int.toNat_natCast]; exact ht⟩, if_pos hx]
theorem withAll_full {n : Nat} {s : List Nat} {t : Nat} (h1 : 1 ≤ n) (h2 : n ≤ 32) (hs : SetOk n s) (ht : t < 2 ^ n) (hx : t ∉ s) (hl : s.length = 1024) : withAll (n : Int) s t = ([], 6) := by
  unfold withAll withAns
  rw [if_pos ⟨⟨by omega, by omega⟩, by rw [Int.toNat_natCast]; exact hs, by rw [Int.toNat_natCast]; exact ht⟩, if_neg hx, if_pos hl]
theorem withoutAll_none {n : Nat} {s : List Nat} {t : Nat} (h1 : 1 ≤ n) (h2 : n ≤ 32) (hs : SetOk n s) (ht : t < 2 ^ n) (hx : t ∉ s) : withoutAll (n : Int) s t = ([], 4) := by
  unfold withoutAll withoutAns
  rw [if_pos ⟨⟨by omega, by omega⟩, by rw [Int.toNat_natCast]; exact hs, by rw [Int.toNat_natCast]; exact ht⟩, if_neg hx]
theorem chw_any {h room n : Int} {s : List Nat} {t : Nat} {R : RollA} {r : Int} (e : Hid (rollAdd h room s n t = (R, r))) (A : Option Addr) (c : Nat) (w : World) (hA : Reads w A s) :
    Calls Try.prog 40 #[.agg #[.int .i64 h, .int .i64 room, .slice A s.length c, .int .i64 n], .int .u64 (t : Int), .func (.func 41) #[] #[]] w (RPost R r w) := by
  have e' := e.out
  unfold rollAdd at e'
  rcases rollCheck_or h room s n with hc | hc
  · obtain ⟨k0, hk0, q1, q2, q3, q4, q5, q6, q7⟩ := rollCheck_ok hc
    rcases hasAll_or h s t with ha | ⟨k, hk, h1, h2, hs, ht, ha⟩
    · rw [if_neg (by rw [ha]; simp)] at e'
      cases e'
      have g : listWith h room s t = ([], 1) := by unfold listWith; rw [(hasAll_no ha).1, if_neg (by simp)]
      exact chw_err (mkHid hc) (mkHid g) (by decide) A c w hA
    · rw [if_pos ⟨hc, by rw [ha]⟩] at e'
      by_cases hx : t ∈ s
      · rw [if_pos hx] at e'
        cases e'
        have g : listWith h room s t = ([], 5) := by unfold listWith; rw [hk, withAll_there h1 h2 hs ht hx, if_neg (by simp)]
        exact chw_err (mkHid hc) (mkHid g) (by decide) A c w hA
      · rw [if_neg hx] at e'
        by_cases hl : (s.length : Int) = room
        · rw [if_pos hl] at e'
          cases e'
          by_cases h4 : s.length = 1024
          · have g : listWith h room s t = ([], 6) := by unfold listWith; rw [hk, withAll_full h1 h2 hs ht hx h4, if_neg (by simp)]
            exact chw_err (mkHid hc) (mkHid g) (by decide) A c w hA
          · have g : listWith h room s t = (addL s t, 6) := by unfold listWith; rw [hk, withAll_mk h1 h2 hs ht hx h4, if_pos ⟨rfl, by rw [addL_length hs hx]; omega⟩]
            exact chw_err (mkHid hc) (mkHid g) (by decide) A c w hA
        · rw [if_neg hl] at e'
          have g : listWith h room s t = (addL s t, 0) := by unfold listWith; rw [hk, withAll_mk h1 h2 hs ht hx (by omega), if_neg (by rw [addL_length hs hx]; omega)]
          by_cases hn : n = 1099511627776
          · rw [if_pos hn] at e'; cases e'; exact chw_over (mkHid hc) (mkHid g) hn A c w hA
          · rw [if_neg hn] at e'; cases e'; exact chw_ok (mkHid hc) (mkHid g) hn A c w hA
  · rw [if_neg (by rw [hc]; simp)] at e'
    cases e'
    exact chw_bad (mkHid hc) A c w hA
theorem cho_any {h room n : Int} {s : List Nat} {t : Nat} {R : RollA} {r : Int} (e : Hid (rollDel h room s n t = (R, r))) (A : Option Addr) (c : Nat) (w : World) (hA : Reads w A s) :
    Calls Try.prog 40 #[.agg #[.int .i64 h, .int .i64 room, .slice A s.length c, .int .i64 n], .int .u64 (t : Int), .func (.func 42) #[] #[]] w (RPost R r w) := by
  have e' := e.out
  unfold rollDel at e'
  rcases rollCheck_or h room s n with hc | hc
  · rcases hasAll_or h s t with ha | ⟨k, hk, h1, h2, hs, ht, ha⟩
    · rw [if_neg (by rw [ha]; simp)] at e'
      cases e'
      exact cho_err (mkHid hc) (mkHid (hasAll_no ha).2) (by decide) A c w hA
    · rw [if_pos ⟨hc, by rw [ha]⟩] at e'
      by_cases hx : t ∈ s
      · rw [if_neg (by simpa using hx)] at e'
        have g : withoutAll h s t = (remL s t, 0) := by rw [hk, withoutAll_mk h1 h2 hs ht hx]
        by_cases hn : n = 1099511627776
        · rw [if_pos hn] at e'; cases e'; exact cho_over (mkHid hc) (mkHid g) hn A c w hA
        · rw [if_neg hn] at e'; cases e'; exact cho_ok (mkHid hc) (mkHid g) hn A c w hA
      · rw [if_pos hx] at e'
        cases e'
        exact cho_err (mkHid hc) (mkHid (by rw [hk, withoutAll_none h1 h2 hs ht hx])) (by decide) A c w hA
  · rw [if_neg (by rw [hc]; simp)] at e'
    cases e'
    exact cho_bad (mkHid hc) A c w hA
theorem revoke_any {h room n : Int} {s : List Nat} {t : Nat} {R : RollA} {r : Int} (e : Hid (rollAdd h room s n t = (R, r))) (A : Option Addr) (c : Nat) (w : World) (hA : Reads w A s) :
    Calls Try.prog 14 #[.agg #[.int .i64 h, .int .i64 room, .slice A s.length c, .int .i64 n], .int .u64 (t : Int)] w (RPost R r w) := revoke_of (mkHid fun A c w hA => chw_any e A c w hA) A c w hA
theorem reinstate_any {h room n : Int} {s : List Nat} {t : Nat} {R : RollA} {r : Int} (e : Hid (rollDel h room s n t = (R, r))) (A : Option Addr) (c : Nat) (w : World) (hA : Reads w A s) :
    Calls Try.prog 15 #[.agg #[.int .i64 h, .int .i64 room, .slice A s.length c, .int .i64 n], .int .u64 (t : Int)] w (RPost R r w) := reinstate_of (mkHid fun A c w hA => cho_any e A c w hA) A c w hA
theorem srevoke_any {h room n : Int} {s : List Nat} {t : Nat} {R : RollA} {r : Int} (e : Hid (rollAdd h room s n t = (R, r))) (A : Option Addr) (c : Nat) (w : World) (hA : Reads w A s) :
    Calls Try.prog 20 #[.agg #[.int .i64 h, .int .i64 room, .slice A s.length c, .int .i64 n], .int .u64 (t : Int)] w (RPost R r w) := by
  have e' := e.out
  unfold rollAdd at e'
  rcases rollCheck_or h room s n with hc | hc
  · obtain ⟨k0, hk0, q1, q2, q3, q4, q5, q6, q7⟩ := rollCheck_ok hc
    rcases hasAll_or h s t with ha | ⟨k, hk, h1, h2, hs, ht, ha⟩
    · rw [if_neg (by rw [ha]; simp)] at e'
      cases e'
      exact srev_no (z := false) (mkHid (by unfold rollIs; rw [if_pos hc, ha])) (by decide) A c w hA
    · rw [if_pos ⟨hc, by rw [ha]⟩] at e'
      have hi : rollIs h room s n t = (decide (t ∈ s), 0) := by unfold rollIs; rw [if_pos hc, ha]
      by_cases hx : t ∈ s
      · rw [if_pos hx] at e'; cases e'
        rw [decide_eq_true hx] at hi
        exact srev_is (mkHid hi) A c w hA
      · rw [decide_eq_false hx] at hi
        rw [if_neg hx] at e'
        by_cases hl : (s.length : Int) = room
        · rw [if_pos hl] at e'; cases e'; exact srev_full (mkHid hi) hl A c w hA
        · rw [if_neg hl] at e'
          by_cases hn : n = 1099511627776
          · rw [if_pos hn] at e'; cases e'; exact srev_over (mkHid hi) hl hn A c w hA
          · rw [if_neg hn] at e'; cases e'
            exact srev_ok (mkHid hi) hl hn q6 q7 (mkHid (by rw [hk, withAll_mk h1 h2 hs ht hx (by omega)])) A c w hA
  · rw [if_neg (by rw [hc]; simp)] at e'
    cases e'
    exact srev_no (z := false) (mkHid (by unfold rollIs; rw [if_neg (by rw [hc]; decide)])) (by decide) A c w hA
theorem sreinstate_any {h room n : Int} {s : List Nat} {t : Nat} {R : RollA} {r : Int} (e : Hid (rollDel h room s n t = (R, r))) (A : Option Addr) (c : Nat) (w : World) (hA : Reads w A s) :
    Calls Try.prog 21 #[.agg #[.int .i64 h, .int .i64 room, .slice A s.length c, .int .i64 n], .int .u64 (t : Int)] w (RPost R r w) := by
  have e' := e.out
  unfold rollDel at e'
  rcases rollCheck_or h room s n with hc | hc
  · obtain ⟨k0, hk0, q1, q2, q3, q4, q5, q6, q7⟩ := rollCheck_ok hc
    rcases hasAll_or h s t with ha | ⟨k, hk, h1, h2, hs, ht, ha⟩
    · rw [if_neg (by rw [ha]; simp)] at e'
      cases e'
      exact srein_no (z := false) (mkHid (by unfold rollIs; rw [if_pos hc, ha])) (by decide) A c w hA
    · rw [if_pos ⟨hc, by rw [ha]⟩] at e'
      have hi : rollIs h room s n t = (decide (t ∈ s), 0) := by unfold rollIs; rw [if_pos hc, ha]
      by_cases hx : t ∈ s
      · rw [if_neg (by simpa using hx)] at e'
        rw [decide_eq_true hx] at hi
        by_cases hn : n = 1099511627776
        · rw [if_pos hn] at e'; cases e'; exact srein_over (mkHid hi) hn A c w hA
        · rw [if_neg hn] at e'; cases e'
          exact srein_ok (mkHid hi) hn q6 q7 (mkHid (by rw [hk, withoutAll_mk h1 h2 hs ht hx])) A c w hA
      · rw [if_pos hx] at e'; cases e'
        rw [decide_eq_false hx] at hi
        exact srein_is (mkHid hi) A c w hA
  · rw [if_neg (by rw [hc]; simp)] at e'
    cases e'
    exact srein_no (z := false) (mkHid (by unfold rollIs; rw [if_neg (by rw [hc]; decide)])) (by decide) A c w hA
end Go.Proofs.Ytmehbonjpmlmfaa
