/- The contracts of roll.Revoke and roll.Reinstate, and of the document's answer. -/
import Derived.Test.YtmehbonjpmlmfaaRollC
namespace Go.Proofs.Ytmehbonjpmlmfaa
open Go.RowKit Go.Proofs.YtmehbonjpmlmfaaW.PrintWords

theorem rollCheck_n {h room n : Int} {s : List Nat} (e : rollCheck h room s n = 0) : 0 ≤ n ∧ n ≤ 1099511627776 := by
  obtain ⟨_, _, _, _, _, _, _, n0, n1⟩ := rollCheck_ok e
  exact ⟨n0, n1⟩
theorem RowOf.past {w : World} {base g : Nat} {v : Value} {S : List Nat} (h : RowOf w base v S) (hg : g < base) (j : Nat) (u : Value) : RowOf (w.setCell ⟨g, j, none⟩ u) base v S :=
  World.ownsRow.kept (row := some g) h ⟨rfl, rfl, rfl, by simp, fun k _ hk => heap_setCell_other w ⟨g, j, none⟩ k u (fun e => hk (by simp [e]))⟩ (.inr fun e => by have := (World.ownsRow.lt h g e).1; omega)
theorem RowOf.below {w w1 : World} {base : Nat} {v : Value} {S : List Nat} (h : RowOf w base v S) (hb : Below w.heap.size w w1) : RowOf w1 base v S :=
  World.ownsRow.kept (row := none) h ⟨hb.os, hb.tape, hb.output, hb.size, fun k hk _ => hb.block k hk⟩ (by cases v.ownBlock <;> simp)
theorem RowOf.past4 {w : World} {base g : Nat} {v : Value} {S : List Nat} (h : RowOf w base v S) (hg : g < base) (a b c d : Value) : RowOf ((((w.setCell ⟨g, 0, none⟩ a).setCell ⟨g, 1, none⟩ b).setCell ⟨g, 2, none⟩ c).setCell ⟨g, 3, none⟩ d) base v S := (((h.past hg 0 a).past hg 1 b).past hg 2 c).past hg 3 d
theorem RowOf.nil (w : World) (base : Nat) : RowOf w base (.slice none 0 0) [] := World.ownsRow_nil _ _ _ _
/-- a roll of the call's own, and an error's number -/
def RPost (R : RollA) (r : Int) (w : World) (e : Ending) (w' : World) : Prop :=
  ∃ v, e = .returned (.tuple #[.agg #[.int .i64 R.h, .int .i64 R.room, v, .int .i64 R.n], .int .i64 r]) ∧ RowOf w' w.heap.size v R.s ∧ Below w.heap.size w w'

set_option maxRecDepth 100000 in
set_option maxHeartbeats 4000000 in
theorem chw_bad {h room n : Int} {s : List Nat} {t : Nat} (e : Hid (rollCheck h room s n = 1))  (A : Option Addr) (c : Nat) (w : World) (hA : Reads w A s) :
    Calls Try.prog 40 #[.agg #[.int .i64 h, .int .i64 room, .slice A s.length c, .int .i64 n], .int .u64 (t : Int), .func (.func 41) #[] #[]] w (RPost ⟨0, 0, [], 0⟩ 1 w) := by
  skip
  have ZX : Hid (Blk ((w.alloc (.cells #[.int .i64 h, .int .i64 room, .slice A s.length c, .int .i64 n] 25)).alloc (.cells #[.int .i64 0, .int .i64 0, .slice none 0 0, .int .i64 0] 25)) w.heap.size 25 #[.int .i64 h, .int .i64 room, .slice A s.length c, .int .i64 n]) := mkHid ((Blk.new _ _ _).alloc _)
  have ZZ : Hid (Blk ((w.alloc (.cells #[.int .i64 h, .int .i64 room, .slice A s.length c, .int .i64 n] 25)).alloc (.cells #[.int .i64 0, .int .i64 0, .slice none 0 0, .int .i64 0] 25)) (w.heap.size + 1) 25 #[.int .i64 0, .int .i64 0, .slice none 0 0, .int .i64 0]) := mkHid (Blk.at _ _ _ (by simp))
  have KB : Hid (Below w.heap.size w ((w.alloc (.cells #[.int .i64 h, .int .i64 room, .slice A s.length c, .int .i64 n] 25)).alloc (.cells #[.int .i64 0, .int .i64 0, .slice none 0 0, .int .i64 0] 25))) := mkHid (((Below.refl _ _).alloc (Nat.le_refl _) _).alloc (by simp) _)
  have HA := mkHid (hA.below (((Below.refl _ _).alloc (Nat.le_refl _) (.cells #[.int .i64 h, .int .i64 room, .slice A s.length c, .int .i64 n] 25)).alloc (by simp) (.cells #[.int .i64 0, .int .i64 0, .slice none 0 0, .int .i64 0] 25)))
  clear hA
  have cZX := ZX.out.four
  have cZZ := ZZ.out.four
  have fZZ0 := ZZ.out.frozen 0
  have fZZ1 := ZZ.out.frozen 1
  have fZZ2 := ZZ.out.frozen 2
  have fZZ3 := ZZ.out.frozen 3
  go_enter Try.func40, Try.ntmps40
  go_wp2_with fail
  refine (rchk e _ _ _ HA.out).mono ?_
  rintro e w1 ⟨rfl, hb1⟩
  replace ZX := mkHid (ZX.out.keep hb1)
  replace ZZ := mkHid (ZZ.out.keep hb1)
  replace KB := mkHid (KB.out.step hb1)
  replace HA := mkHid (HA.out.below hb1)
  clear cZX
  have cZX := ZX.out.four
  clear cZZ fZZ0 fZZ1 fZZ2 fZZ3
  have cZZ := ZZ.out.four
  have fZZ0 := ZZ.out.frozen 0
  have fZZ1 := ZZ.out.frozen 1
  have fZZ2 := ZZ.out.frozen 2
  have fZZ3 := ZZ.out.frozen 3
  clear hb1
  go_wp2_with fail
  have qR := (ZZ.out.fill4 (x := .int .i64 0) (y := .int .i64 0) (u := .slice none 0 0) (v := .int .i64 0)).four
  refine bodyPost_ret (v := .tuple #[.agg #[.int .i64 0, .int .i64 0, .slice none 0 0, .int .i64 0], .int .i64 1]) (by simp [results, Try.results40, go_sem, qR]) rfl ⟨_, rfl, RowOf.nil _ _, below_four KB.out (by omega) _ _ _ _⟩

set_option maxRecDepth 100000 in
set_option maxHeartbeats 4000000 in
theorem chw_err {h room n : Int} {s : List Nat} {t : Nat} (e : Hid (rollCheck h room s n = 0)) {L : List Nat} {r : Int} (f : Hid (listWith h room s t = (L, r))) (hr : r ≠ 0)  (A : Option Addr) (c : Nat) (w : World) (hA : Reads w A s) :
    Calls Try.prog 40 #[.agg #[.int .i64 h, .int .i64 room, .slice A s.length c, .int .i64 n], .int .u64 (t : Int), .func (.func 41) #[] #[]] w (RPost ⟨0, 0, [], 0⟩ r w) := by
  skip
  have ZX : Hid (Blk ((w.alloc (.cells #[.int .i64 h, .int .i64 room, .slice A s.length c, .int .i64 n] 25)).alloc (.cells #[.int .i64 0, .int .i64 0, .slice none 0 0, .int .i64 0] 25)) w.heap.size 25 #[.int .i64 h, .int .i64 room, .slice A s.length c, .int .i64 n]) := mkHid ((Blk.new _ _ _).alloc _)
  have ZZ : Hid (Blk ((w.alloc (.cells #[.int .i64 h, .int .i64 room, .slice A s.length c, .int .i64 n] 25)).alloc (.cells #[.int .i64 0, .int .i64 0, .slice none 0 0, .int .i64 0] 25)) (w.heap.size + 1) 25 #[.int .i64 0, .int .i64 0, .slice none 0 0, .int .i64 0]) := mkHid (Blk.at _ _ _ (by simp))
  have KB : Hid (Below w.heap.size w ((w.alloc (.cells #[.int .i64 h, .int .i64 room, .slice A s.length c, .int .i64 n] 25)).alloc (.cells #[.int .i64 0, .int .i64 0, .slice none 0 0, .int .i64 0] 25))) := mkHid (((Below.refl _ _).alloc (Nat.le_refl _) _).alloc (by simp) _)
  have HA := mkHid (hA.below (((Below.refl _ _).alloc (Nat.le_refl _) (.cells #[.int .i64 h, .int .i64 room, .slice A s.length c, .int .i64 n] 25)).alloc (by simp) (.cells #[.int .i64 0, .int .i64 0, .slice none 0 0, .int .i64 0] 25)))
  clear hA
  have cZX := ZX.out.four
  have cZZ := ZZ.out.four
  have fZZ0 := ZZ.out.frozen 0
  have fZZ1 := ZZ.out.frozen 1
  have fZZ2 := ZZ.out.frozen 2
  have fZZ3 := ZZ.out.frozen 3
  have t0 : (r != (0 : Int)) = true := bne_iff_ne.2 hr
  go_enter Try.func40, Try.ntmps40
  go_wp2_with fail
  refine (rchk e _ _ _ HA.out).mono ?_
  rintro e w1 ⟨rfl, hb1⟩
  replace ZX := mkHid (ZX.out.keep hb1)
  replace ZZ := mkHid (ZZ.out.keep hb1)
  replace KB := mkHid (KB.out.step hb1)
  replace HA := mkHid (HA.out.below hb1)
  clear cZX
  have cZX := ZX.out.four
  clear cZZ fZZ0 fZZ1 fZZ2 fZZ3
  have cZZ := ZZ.out.four
  have fZZ0 := ZZ.out.frozen 0
  have fZZ1 := ZZ.out.frozen 1
  have fZZ2 := ZZ.out.frozen 2
  have fZZ3 := ZZ.out.frozen 3
  clear hb1
  go_wp2_with fail
  refine (lwith_all f _ _ _ HA.out).mono ?_
  rintro e w2 ⟨v, rfl, ho, hb2⟩
  have SZ : w.heap.size + 1 < w1.heap.size := ZZ.out.lt
  have RV := mkHid ho
  clear ho
  obtain ⟨va, vc, rfl⟩ := RV.out.len
  replace ZX := mkHid (ZX.out.keep hb2)
  replace ZZ := mkHid (ZZ.out.keep hb2)
  replace KB := mkHid (KB.out.step hb2)
  replace HA := mkHid (HA.out.below hb2)
  clear cZX
  have cZX := ZX.out.four
  clear cZZ fZZ0 fZZ1 fZZ2 fZZ3
  have cZZ := ZZ.out.four
  have fZZ0 := ZZ.out.frozen 0
  have fZZ1 := ZZ.out.frozen 1
  have fZZ2 := ZZ.out.frozen 2
  have fZZ3 := ZZ.out.frozen 3
  clear hb2
  go_wp2_with fail
  have qR := (ZZ.out.fill4 (x := .int .i64 0) (y := .int .i64 0) (u := .slice none 0 0) (v := .int .i64 0)).four
  refine bodyPost_ret (v := .tuple #[.agg #[.int .i64 0, .int .i64 0, .slice none 0 0, .int .i64 0], .int .i64 r]) (by simp [results, Try.results40, go_sem, qR]) rfl ⟨_, rfl, RowOf.nil _ _, below_four KB.out (by omega) _ _ _ _⟩

set_option maxRecDepth 100000 in
set_option maxHeartbeats 4000000 in
theorem chw_over {h room n : Int} {s : List Nat} {t : Nat} (e : Hid (rollCheck h room s n = 0)) {L : List Nat} (f : Hid (listWith h room s t = (L, 0))) (hn : n = 1099511627776)  (A : Option Addr) (c : Nat) (w : World) (hA : Reads w A s) :
    Calls Try.prog 40 #[.agg #[.int .i64 h, .int .i64 room, .slice A s.length c, .int .i64 n], .int .u64 (t : Int), .func (.func 41) #[] #[]] w (RPost ⟨0, 0, [], 0⟩ 9 w) := by
  skip
  have ZX : Hid (Blk ((w.alloc (.cells #[.int .i64 h, .int .i64 room, .slice A s.length c, .int .i64 n] 25)).alloc (.cells #[.int .i64 0, .int .i64 0, .slice none 0 0, .int .i64 0] 25)) w.heap.size 25 #[.int .i64 h, .int .i64 room, .slice A s.length c, .int .i64 n]) := mkHid ((Blk.new _ _ _).alloc _)
  have ZZ : Hid (Blk ((w.alloc (.cells #[.int .i64 h, .int .i64 room, .slice A s.length c, .int .i64 n] 25)).alloc (.cells #[.int .i64 0, .int .i64 0, .slice none 0 0, .int .i64 0] 25)) (w.heap.size + 1) 25 #[.int .i64 0, .int .i64 0, .slice none 0 0, .int .i64 0]) := mkHid (Blk.at _ _ _ (by simp))
  have KB : Hid (Below w.heap.size w ((w.alloc (.cells #[.int .i64 h, .int .i64 room, .slice A s.length c, .int .i64 n] 25)).alloc (.cells #[.int .i64 0, .int .i64 0, .slice none 0 0, .int .i64 0] 25))) := mkHid (((Below.refl _ _).alloc (Nat.le_refl _) _).alloc (by simp) _)
  have HA := mkHid (hA.below (((Below.refl _ _).alloc (Nat.le_refl _) (.cells #[.int .i64 h, .int .i64 room, .slice A s.length c, .int .i64 n] 25)).alloc (by simp) (.cells #[.int .i64 0, .int .i64 0, .slice none 0 0, .int .i64 0] 25)))
  clear hA
  have cZX := ZX.out.four
  have cZZ := ZZ.out.four
  have fZZ0 := ZZ.out.frozen 0
  have fZZ1 := ZZ.out.frozen 1
  have fZZ2 := ZZ.out.frozen 2
  have fZZ3 := ZZ.out.frozen 3
  have t0 : (n == (1099511627776 : Int)) = true := beq_iff_eq.2 hn
  clear hn
  go_enter Try.func40, Try.ntmps40
  go_wp2_with fail
  refine (rchk e _ _ _ HA.out).mono ?_
  rintro e w1 ⟨rfl, hb1⟩
  replace ZX := mkHid (ZX.out.keep hb1)
  replace ZZ := mkHid (ZZ.out.keep hb1)
  replace KB := mkHid (KB.out.step hb1)
  replace HA := mkHid (HA.out.below hb1)
  clear cZX
  have cZX := ZX.out.four
  clear cZZ fZZ0 fZZ1 fZZ2 fZZ3
  have cZZ := ZZ.out.four
  have fZZ0 := ZZ.out.frozen 0
  have fZZ1 := ZZ.out.frozen 1
  have fZZ2 := ZZ.out.frozen 2
  have fZZ3 := ZZ.out.frozen 3
  clear hb1
  go_wp2_with fail
  refine (lwith_all f _ _ _ HA.out).mono ?_
  rintro e w2 ⟨v, rfl, ho, hb2⟩
  have SZ : w.heap.size + 1 < w1.heap.size := ZZ.out.lt
  have RV := mkHid ho
  clear ho
  obtain ⟨va, vc, rfl⟩ := RV.out.len
  replace ZX := mkHid (ZX.out.keep hb2)
  replace ZZ := mkHid (ZZ.out.keep hb2)
  replace KB := mkHid (KB.out.step hb2)
  replace HA := mkHid (HA.out.below hb2)
  clear cZX
  have cZX := ZX.out.four
  clear cZZ fZZ0 fZZ1 fZZ2 fZZ3
  have cZZ := ZZ.out.four
  have fZZ0 := ZZ.out.frozen 0
  have fZZ1 := ZZ.out.frozen 1
  have fZZ2 := ZZ.out.frozen 2
  have fZZ3 := ZZ.out.frozen 3
  clear hb2
  go_wp2_with fail
  have qR := (ZZ.out.fill4 (x := .int .i64 0) (y := .int .i64 0) (u := .slice none 0 0) (v := .int .i64 0)).four
  refine bodyPost_ret (v := .tuple #[.agg #[.int .i64 0, .int .i64 0, .slice none 0 0, .int .i64 0], .int .i64 9]) (by simp [results, Try.results40, go_sem, qR]) rfl ⟨_, rfl, RowOf.nil _ _, below_four KB.out (by omega) _ _ _ _⟩

set_option maxRecDepth 100000 in
set_option maxHeartbeats 4000000 in
theorem chw_ok {h room n : Int} {s : List Nat} {t : Nat} (e : Hid (rollCheck h room s n = 0)) {L : List Nat} (f : Hid (listWith h room s t = (L, 0))) (hn : n ≠ 1099511627776)  (A : Option Addr) (c : Nat) (w : World) (hA : Reads w A s) :
    Calls Try.prog 40 #[.agg #[.int .i64 h, .int .i64 room, .slice A s.length c, .int .i64 n], .int .u64 (t : Int), .func (.func 41) #[] #[]] w (RPost ⟨h, room, L, n + 1⟩ 0 w) := by
  skip
  have ZX : Hid (Blk ((w.alloc (.cells #[.int .i64 h, .int .i64 room, .slice A s.length c, .int .i64 n] 25)).alloc (.cells #[.int .i64 0, .int .i64 0, .slice none 0 0, .int .i64 0] 25)) w.heap.size 25 #[.int .i64 h, .int .i64 room, .slice A s.length c, .int .i64 n]) := mkHid ((Blk.new _ _ _).alloc _)
  have ZZ : Hid (Blk ((w.alloc (.cells #[.int .i64 h, .int .i64 room, .slice A s.length c, .int .i64 n] 25)).alloc (.cells #[.int .i64 0, .int .i64 0, .slice none 0 0, .int .i64 0] 25)) (w.heap.size + 1) 25 #[.int .i64 0, .int .i64 0, .slice none 0 0, .int .i64 0]) := mkHid (Blk.at _ _ _ (by simp))
  have KB : Hid (Below w.heap.size w ((w.alloc (.cells #[.int .i64 h, .int .i64 room, .slice A s.length c, .int .i64 n] 25)).alloc (.cells #[.int .i64 0, .int .i64 0, .slice none 0 0, .int .i64 0] 25))) := mkHid (((Below.refl _ _).alloc (Nat.le_refl _) _).alloc (by simp) _)
  have HA := mkHid (hA.below (((Below.refl _ _).alloc (Nat.le_refl _) (.cells #[.int .i64 h, .int .i64 room, .slice A s.length c, .int .i64 n] 25)).alloc (by simp) (.cells #[.int .i64 0, .int .i64 0, .slice none 0 0, .int .i64 0] 25)))
  clear hA
  have cZX := ZX.out.four
  have cZZ := ZZ.out.four
  have fZZ0 := ZZ.out.frozen 0
  have fZZ1 := ZZ.out.frozen 1
  have fZZ2 := ZZ.out.frozen 2
  have fZZ3 := ZZ.out.frozen 3
  have t0 : (n == (1099511627776 : Int)) = false := beq_eq_false_iff_ne.2 hn
  obtain ⟨n0, n1⟩ := rollCheck_n e.out
  clear hn
  go_enter Try.func40, Try.ntmps40
  go_wp2_with fail
  refine (rchk e _ _ _ HA.out).mono ?_
  rintro e w1 ⟨rfl, hb1⟩
  replace ZX := mkHid (ZX.out.keep hb1)
  replace ZZ := mkHid (ZZ.out.keep hb1)
  replace KB := mkHid (KB.out.step hb1)
  replace HA := mkHid (HA.out.below hb1)
  clear cZX
  have cZX := ZX.out.four
  clear cZZ fZZ0 fZZ1 fZZ2 fZZ3
  have cZZ := ZZ.out.four
  have fZZ0 := ZZ.out.frozen 0
  have fZZ1 := ZZ.out.frozen 1
  have fZZ2 := ZZ.out.frozen 2
  have fZZ3 := ZZ.out.frozen 3
  clear hb1
  go_wp2_with fail
  refine (lwith_all f _ _ _ HA.out).mono ?_
  rintro e w2 ⟨v, rfl, ho, hb2⟩
  have SZ : w.heap.size + 1 < w1.heap.size := ZZ.out.lt
  have RV := mkHid ho
  clear ho
  obtain ⟨va, vc, rfl⟩ := RV.out.len
  replace ZX := mkHid (ZX.out.keep hb2)
  replace ZZ := mkHid (ZZ.out.keep hb2)
  replace KB := mkHid (KB.out.step hb2)
  replace HA := mkHid (HA.out.below hb2)
  clear cZX
  have cZX := ZX.out.four
  clear cZZ fZZ0 fZZ1 fZZ2 fZZ3
  have cZZ := ZZ.out.four
  have fZZ0 := ZZ.out.frozen 0
  have fZZ1 := ZZ.out.frozen 1
  have fZZ2 := ZZ.out.frozen 2
  have fZZ3 := ZZ.out.frozen 3
  clear hb2
  go_wp2_with fail
  have qR := (ZZ.out.fill4 (x := .int .i64 h) (y := .int .i64 room) (u := .slice va L.length vc) (v := .int .i64 (n + 1))).four
  refine bodyPost_ret (v := .tuple #[.agg #[.int .i64 h, .int .i64 room, .slice va L.length vc, .int .i64 (n + 1)], .int .i64 0]) (by simp [results, Try.results40, go_sem, qR]) rfl ⟨_, rfl, RowOf.rebase (RowOf.past4 RV.out SZ _ _ _ _) (by omega), below_four KB.out (by omega) _ _ _ _⟩

set_option maxRecDepth 100000 in
set_option maxHeartbeats 4000000 in
theorem cho_bad {h room n : Int} {s : List Nat} {t : Nat} (e : Hid (rollCheck h room s n = 1))  (A : Option Addr) (c : Nat) (w : World) (hA : Reads w A s) :
    Calls Try.prog 40 #[.agg #[.int .i64 h, .int .i64 room, .slice A s.length c, .int .i64 n], .int .u64 (t : Int), .func (.func 42) #[] #[]] w (RPost ⟨0, 0, [], 0⟩ 1 w) := by
  skip
  have ZX : Hid (Blk ((w.alloc (.cells #[.int .i64 h, .int .i64 room, .slice A s.length c, .int .i64 n] 25)).alloc (.cells #[.int .i64 0, .int .i64 0, .slice none 0 0, .int .i64 0] 25)) w.heap.size 25 #[.int .i64 h, .int .i64 room, .slice A s.length c, .int .i64 n]) := mkHid ((Blk.new _ _ _).alloc _)
  have ZZ : Hid (Blk ((w.alloc (.cells #[.int .i64 h, .int .i64 room, .slice A s.length c, .int .i64 n] 25)).alloc (.cells #[.int .i64 0, .int .i64 0, .slice none 0 0, .int .i64 0] 25)) (w.heap.size + 1) 25 #[.int .i64 0, .int .i64 0, .slice none 0 0, .int .i64 0]) := mkHid (Blk.at _ _ _ (by simp))
  have KB : Hid (Below w.heap.size w ((w.alloc (.cells #[.int .i64 h, .int .i64 room, .slice A s.length c, .int .i64 n] 25)).alloc (.cells #[.int .i64 0, .int .i64 0, .slice none 0 0, .int .i64 0] 25))) := mkHid (((Below.refl _ _).alloc (Nat.le_refl _) _).alloc (by simp) _)
  have HA := mkHid (hA.below (((Below.refl _ _).alloc (Nat.le_refl _) (.cells #[.int .i64 h, .int .i64 room, .slice A s.length c, .int .i64 n] 25)).alloc (by simp) (.cells #[.int .i64 0, .int .i64 0, .slice none 0 0, .int .i64 0] 25)))
  clear hA
  have cZX := ZX.out.four
  have cZZ := ZZ.out.four
  have fZZ0 := ZZ.out.frozen 0
  have fZZ1 := ZZ.out.frozen 1
  have fZZ2 := ZZ.out.frozen 2
  have fZZ3 := ZZ.out.frozen 3
  go_enter Try.func40, Try.ntmps40
  go_wp2_with fail
  refine (rchk e _ _ _ HA.out).mono ?_
  rintro e w1 ⟨rfl, hb1⟩
  replace ZX := mkHid (ZX.out.keep hb1)
  replace ZZ := mkHid (ZZ.out.keep hb1)
  replace KB := mkHid (KB.out.step hb1)
  replace HA := mkHid (HA.out.below hb1)
  clear cZX
  have cZX := ZX.out.four
  clear cZZ fZZ0 fZZ1 fZZ2 fZZ3
  have cZZ := ZZ.out.four
  have fZZ0 := ZZ.out.frozen 0
  have fZZ1 := ZZ.out.frozen 1
  have fZZ2 := ZZ.out.frozen 2
  have fZZ3 := ZZ.out.frozen 3
  clear hb1
  go_wp2_with fail
  have qR := (ZZ.out.fill4 (x := .int .i64 0) (y := .int .i64 0) (u := .slice none 0 0) (v := .int .i64 0)).four
  refine bodyPost_ret (v := .tuple #[.agg #[.int .i64 0, .int .i64 0, .slice none 0 0, .int .i64 0], .int .i64 1]) (by simp [results, Try.results40, go_sem, qR]) rfl ⟨_, rfl, RowOf.nil _ _, below_four KB.out (by omega) _ _ _ _⟩

set_option maxRecDepth 100000 in
set_option maxHeartbeats 4000000 in
theorem cho_err {h room n : Int} {s : List Nat} {t : Nat} (e : Hid (rollCheck h room s n = 0)) {L : List Nat} {r : Int} (f : Hid (withoutAll h s t = (L, r))) (hr : r ≠ 0)  (A : Option Addr) (c : Nat) (w : World) (hA : Reads w A s) :
    Calls Try.prog 40 #[.agg #[.int .i64 h, .int .i64 room, .slice A s.length c, .int .i64 n], .int .u64 (t : Int), .func (.func 42) #[] #[]] w (RPost ⟨0, 0, [], 0⟩ r w) := by
  skip
  have ZX : Hid (Blk ((w.alloc (.cells #[.int .i64 h, .int .i64 room, .slice A s.length c, .int .i64 n] 25)).alloc (.cells #[.int .i64 0, .int .i64 0, .slice none 0 0, .int .i64 0] 25)) w.heap.size 25 #[.int .i64 h, .int .i64 room, .slice A s.length c, .int .i64 n]) := mkHid ((Blk.new _ _ _).alloc _)
  have ZZ : Hid (Blk ((w.alloc (.cells #[.int .i64 h, .int .i64 room, .slice A s.length c, .int .i64 n] 25)).alloc (.cells #[.int .i64 0, .int .i64 0, .slice none 0 0, .int .i64 0] 25)) (w.heap.size + 1) 25 #[.int .i64 0, .int .i64 0, .slice none 0 0, .int .i64 0]) := mkHid (Blk.at _ _ _ (by simp))
  have KB : Hid (Below w.heap.size w ((w.alloc (.cells #[.int .i64 h, .int .i64 room, .slice A s.length c, .int .i64 n] 25)).alloc (.cells #[.int .i64 0, .int .i64 0, .slice none 0 0, .int .i64 0] 25))) := mkHid (((Below.refl _ _).alloc (Nat.le_refl _) _).alloc (by simp) _)
  have HA := mkHid (hA.below (((Below.refl _ _).alloc (Nat.le_refl _) (.cells #[.int .i64 h, .int .i64 room, .slice A s.length c, .int .i64 n] 25)).alloc (by simp) (.cells #[.int .i64 0, .int .i64 0, .slice none 0 0, .int .i64 0] 25)))
  clear hA
  have cZX := ZX.out.four
  have cZZ := ZZ.out.four
  have fZZ0 := ZZ.out.frozen 0
  have fZZ1 := ZZ.out.frozen 1
  have fZZ2 := ZZ.out.frozen 2
  have fZZ3 := ZZ.out.frozen 3
  have t0 : (r != (0 : Int)) = true := bne_iff_ne.2 hr
  go_enter Try.func40, Try.ntmps40
  go_wp2_with fail
  refine (rchk e _ _ _ HA.out).mono ?_
  rintro e w1 ⟨rfl, hb1⟩
  replace ZX := mkHid (ZX.out.keep hb1)
  replace ZZ := mkHid (ZZ.out.keep hb1)
  replace KB := mkHid (KB.out.step hb1)
  replace HA := mkHid (HA.out.below hb1)
  clear cZX
  have cZX := ZX.out.four
  clear cZZ fZZ0 fZZ1 fZZ2 fZZ3
  have cZZ := ZZ.out.four
  have fZZ0 := ZZ.out.frozen 0
  have fZZ1 := ZZ.out.frozen 1
  have fZZ2 := ZZ.out.frozen 2
  have fZZ3 := ZZ.out.frozen 3
  clear hb1
  go_wp2_with fail
  refine (lwithout_all f _ _ _ HA.out).mono ?_
  rintro e w2 ⟨v, rfl, ho, hb2⟩
  have SZ : w.heap.size + 1 < w1.heap.size := ZZ.out.lt
  have RV := mkHid ho
  clear ho
  obtain ⟨va, vc, rfl⟩ := RV.out.len
  replace ZX := mkHid (ZX.out.keep hb2)
  replace ZZ := mkHid (ZZ.out.keep hb2)
  replace KB := mkHid (KB.out.step hb2)
  replace HA := mkHid (HA.out.below hb2)
  clear cZX
  have cZX := ZX.out.four
  clear cZZ fZZ0 fZZ1 fZZ2 fZZ3
  have cZZ := ZZ.out.four
  have fZZ0 := ZZ.out.frozen 0
  have fZZ1 := ZZ.out.frozen 1
  have fZZ2 := ZZ.out.frozen 2
  have fZZ3 := ZZ.out.frozen 3
  clear hb2
  go_wp2_with fail
  have qR := (ZZ.out.fill4 (x := .int .i64 0) (y := .int .i64 0) (u := .slice none 0 0) (v := .int .i64 0)).four
  refine bodyPost_ret (v := .tuple #[.agg #[.int .i64 0, .int .i64 0, .slice none 0 0, .int .i64 0], .int .i64 r]) (by simp [results, Try.results40, go_sem, qR]) rfl ⟨_, rfl, RowOf.nil _ _, below_four KB.out (by omega) _ _ _ _⟩

set_option maxRecDepth 100000 in
set_option maxHeartbeats 4000000 in
theorem cho_over {h room n : Int} {s : List Nat} {t : Nat} (e : Hid (rollCheck h room s n = 0)) {L : List Nat} (f : Hid (withoutAll h s t = (L, 0))) (hn : n = 1099511627776)  (A : Option Addr) (c : Nat) (w : World) (hA : Reads w A s) :
    Calls Try.prog 40 #[.agg #[.int .i64 h, .int .i64 room, .slice A s.length c, .int .i64 n], .int .u64 (t : Int), .func (.func 42) #[] #[]] w (RPost ⟨0, 0, [], 0⟩ 9 w) := by
  skip
  have ZX : Hid (Blk ((w.alloc (.cells #[.int .i64 h, .int .i64 room, .slice A s.length c, .int .i64 n] 25)).alloc (.cells #[.int .i64 0, .int .i64 0, .slice none 0 0, .int .i64 0] 25)) w.heap.size 25 #[.int .i64 h, .int .i64 room, .slice A s.length c, .int .i64 n]) := mkHid ((Blk.new _ _ _).alloc _)
  have ZZ : Hid (Blk ((w.alloc (.cells #[.int .i64 h, .int .i64 room, .slice A s.length c, .int .i64 n] 25)).alloc (.cells #[.int .i64 0, .int .i64 0, .slice none 0 0, .int .i64 0] 25)) (w.heap.size + 1) 25 #[.int .i64 0, .int .i64 0, .slice none 0 0, .int .i64 0]) := mkHid (Blk.at _ _ _ (by simp))
  have KB : Hid (Below w.heap.size w ((w.alloc (.cells #[.int .i64 h, .int .i64 room, .slice A s.length c, .int .i64 n] 25)).alloc (.cells #[.int .i64 0, .int .i64 0, .slice none 0 0, .int .i64 0] 25))) := mkHid (((Below.refl _ _).alloc (Nat.le_refl _) _).alloc (by simp) _)
  have HA := mkHid (hA.below (((Below.refl _ _).alloc (Nat.le_refl _) (.cells #[.int .i64 h, .int .i64 room, .slice A s.length c, .int .i64 n] 25)).alloc (by simp) (.cells #[.int .i64 0, .int .i64 0, .slice none 0 0, .int .i64 0] 25)))
  clear hA
  have cZX := ZX.out.four
  have cZZ := ZZ.out.four
  have fZZ0 := ZZ.out.frozen 0
  have fZZ1 := ZZ.out.frozen 1
  have fZZ2 := ZZ.out.frozen 2
  have fZZ3 := ZZ.out.frozen 3
  have t0 : (n == (1099511627776 : Int)) = true := beq_iff_eq.2 hn
  clear hn
  go_enter Try.func40, Try.ntmps40
  go_wp2_with fail
  refine (rchk e _ _ _ HA.out).mono ?_
  rintro e w1 ⟨rfl, hb1⟩
  replace ZX := mkHid (ZX.out.keep hb1)
  replace ZZ := mkHid (ZZ.out.keep hb1)
  replace KB := mkHid (KB.out.step hb1)
  replace HA := mkHid (HA.out.below hb1)
  clear cZX
  have cZX := ZX.out.four
  clear cZZ fZZ0 fZZ1 fZZ2 fZZ3
  have cZZ := ZZ.out.four
  have fZZ0 := ZZ.out.frozen 0
  have fZZ1 := ZZ.out.frozen 1
  have fZZ2 := ZZ.out.frozen 2
  have fZZ3 := ZZ.out.frozen 3
  clear hb1
  go_wp2_with fail
  refine (lwithout_all f _ _ _ HA.out).mono ?_
  rintro e w2 ⟨v, rfl, ho, hb2⟩
  have SZ : w.heap.size + 1 < w1.heap.size := ZZ.out.lt
  have RV := mkHid ho
  clear ho
  obtain ⟨va, vc, rfl⟩ := RV.out.len
  replace ZX := mkHid (ZX.out.keep hb2)
  replace ZZ := mkHid (ZZ.out.keep hb2)
  replace KB := mkHid (KB.out.step hb2)
  replace HA := mkHid (HA.out.below hb2)
  clear cZX
  have cZX := ZX.out.four
  clear cZZ fZZ0 fZZ1 fZZ2 fZZ3
  have cZZ := ZZ.out.four
  have fZZ0 := ZZ.out.frozen 0
  have fZZ1 := ZZ.out.frozen 1
  have fZZ2 := ZZ.out.frozen 2
  have fZZ3 := ZZ.out.frozen 3
  clear hb2
  go_wp2_with fail
  have qR := (ZZ.out.fill4 (x := .int .i64 0) (y := .int .i64 0) (u := .slice none 0 0) (v := .int .i64 0)).four
  refine bodyPost_ret (v := .tuple #[.agg #[.int .i64 0, .int .i64 0, .slice none 0 0, .int .i64 0], .int .i64 9]) (by simp [results, Try.results40, go_sem, qR]) rfl ⟨_, rfl, RowOf.nil _ _, below_four KB.out (by omega) _ _ _ _⟩

set_option maxRecDepth 100000 in
set_option maxHeartbeats 4000000 in
theorem cho_ok {h room n : Int} {s : List Nat} {t : Nat} (e : Hid (rollCheck h room s n = 0)) {L : List Nat} (f : Hid (withoutAll h s t = (L, 0))) (hn : n ≠ 1099511627776)  (A : Option Addr) (c : Nat) (w : World) (hA : Reads w A s) :
    Calls Try.prog 40 #[.agg #[.int .i64 h, .int .i64 room, .slice A s.length c, .int .i64 n], .int .u64 (t : Int), .func (.func 42) #[] #[]] w (RPost ⟨h, room, L, n + 1⟩ 0 w) := by
  skip
  have ZX : Hid (Blk ((w.alloc (.cells #[.int .i64 h, .int .i64 room, .slice A s.length c, .int .i64 n] 25)).alloc (.cells #[.int .i64 0, .int .i64 0, .slice none 0 0, .int .i64 0] 25)) w.heap.size 25 #[.int .i64 h, .int .i64 room, .slice A s.length c, .int .i64 n]) := mkHid ((Blk.new _ _ _).alloc _)
  have ZZ : Hid (Blk ((w.alloc (.cells #[.int .i64 h, .int .i64 room, .slice A s.length c, .int .i64 n] 25)).alloc (.cells #[.int .i64 0, .int .i64 0, .slice none 0 0, .int .i64 0] 25)) (w.heap.size + 1) 25 #[.int .i64 0, .int .i64 0, .slice none 0 0, .int .i64 0]) := mkHid (Blk.at _ _ _ (by simp))
  have KB : Hid (Below w.heap.size w ((w.alloc (.cells #[.int .i64 h, .int .i64 room, .slice A s.length c, .int .i64 n] 25)).alloc (.cells #[.int .i64 0, .int .i64 0, .slice none 0 0, .int .i64 0] 25))) := mkHid (((Below.refl _ _).alloc (Nat.le_refl _) _).alloc (by simp) _)
  have HA := mkHid (hA.below (((Below.refl _ _).alloc (Nat.le_refl _) (.cells #[.int .i64 h, .int .i64 room, .slice A s.length c, .int .i64 n] 25)).alloc (by simp) (.cells #[.int .i64 0, .int .i64 0, .slice none 0 0, .int .i64 0] 25)))
  clear hA
  have cZX := ZX.out.four
  have cZZ := ZZ.out.four
  have fZZ0 := ZZ.out.frozen 0
  have fZZ1 := ZZ.out.frozen 1
  have fZZ2 := ZZ.out.frozen 2
  have fZZ3 := ZZ.out.frozen 3
  have t0 : (n == (1099511627776 : Int)) = false := beq_eq_false_iff_ne.2 hn
  obtain ⟨n0, n1⟩ := rollCheck_n e.out
  clear hn
  go_enter Try.func40, Try.ntmps40
  go_wp2_with fail
  refine (rchk e _ _ _ HA.out).mono ?_
  rintro e w1 ⟨rfl, hb1⟩
  replace ZX := mkHid (ZX.out.keep hb1)
  replace ZZ := mkHid (ZZ.out.keep hb1)
  replace KB := mkHid (KB.out.step hb1)
  replace HA := mkHid (HA.out.below hb1)
  clear cZX
  have cZX := ZX.out.four
  clear cZZ fZZ0 fZZ1 fZZ2 fZZ3
  have cZZ := ZZ.out.four
  have fZZ0 := ZZ.out.frozen 0
  have fZZ1 := ZZ.out.frozen 1
  have fZZ2 := ZZ.out.frozen 2
  have fZZ3 := ZZ.out.frozen 3
  clear hb1
  go_wp2_with fail
  refine (lwithout_all f _ _ _ HA.out).mono ?_
  rintro e w2 ⟨v, rfl, ho, hb2⟩
  have SZ : w.heap.size + 1 < w1.heap.size := ZZ.out.lt
  have RV := mkHid ho
  clear ho
  obtain ⟨va, vc, rfl⟩ := RV.out.len
  replace ZX := mkHid (ZX.out.keep hb2)
  replace ZZ := mkHid (ZZ.out.keep hb2)
  replace KB := mkHid (KB.out.step hb2)
  replace HA := mkHid (HA.out.below hb2)
  clear cZX
  have cZX := ZX.out.four
  clear cZZ fZZ0 fZZ1 fZZ2 fZZ3
  have cZZ := ZZ.out.four
  have fZZ0 := ZZ.out.frozen 0
  have fZZ1 := ZZ.out.frozen 1
  have fZZ2 := ZZ.out.frozen 2
  have fZZ3 := ZZ.out.frozen 3
  clear hb2
  go_wp2_with fail
  have qR := (ZZ.out.fill4 (x := .int .i64 h) (y := .int .i64 room) (u := .slice va L.length vc) (v := .int .i64 (n + 1))).four
  refine bodyPost_ret (v := .tuple #[.agg #[.int .i64 h, .int .i64 room, .slice va L.length vc, .int .i64 (n + 1)], .int .i64 0]) (by simp [results, Try.results40, go_sem, qR]) rfl ⟨_, rfl, RowOf.rebase (RowOf.past4 RV.out SZ _ _ _ _) (by omega), below_four KB.out (by omega) _ _ _ _⟩

set_option maxRecDepth 100000 in
set_option maxHeartbeats 4000000 in
theorem revoke_of {h room n : Int} {s : List Nat} {t : Nat} {R : RollA} {r : Int} (HC : Hid (∀ (A : Option Addr) (c : Nat) (w : World), Reads w A s → Calls Try.prog 40 #[.agg #[.int .i64 h, .int .i64 room, .slice A s.length c, .int .i64 n], .int .u64 (t : Int), .func (.func 41) #[] #[]] w (RPost R r w)))  (A : Option Addr) (c : Nat) (w : World) (hA : Reads w A s) :
    Calls Try.prog 14 #[.agg #[.int .i64 h, .int .i64 room, .slice A s.length c, .int .i64 n], .int .u64 (t : Int)] w (RPost R r w) := by
  skip
  have ZX : Hid (Blk ((w.alloc (.cells #[.int .i64 h, .int .i64 room, .slice A s.length c, .int .i64 n] 25)).alloc (.cells #[.int .i64 0, .int .i64 0, .slice none 0 0, .int .i64 0] 25)) w.heap.size 25 #[.int .i64 h, .int .i64 room, .slice A s.length c, .int .i64 n]) := mkHid ((Blk.new _ _ _).alloc _)
  have ZZ : Hid (Blk ((w.alloc (.cells #[.int .i64 h, .int .i64 room, .slice A s.length c, .int .i64 n] 25)).alloc (.cells #[.int .i64 0, .int .i64 0, .slice none 0 0, .int .i64 0] 25)) (w.heap.size + 1) 25 #[.int .i64 0, .int .i64 0, .slice none 0 0, .int .i64 0]) := mkHid (Blk.at _ _ _ (by simp))
  have KB : Hid (Below w.heap.size w ((w.alloc (.cells #[.int .i64 h, .int .i64 room, .slice A s.length c, .int .i64 n] 25)).alloc (.cells #[.int .i64 0, .int .i64 0, .slice none 0 0, .int .i64 0] 25))) := mkHid (((Below.refl _ _).alloc (Nat.le_refl _) _).alloc (by simp) _)
  have HA := mkHid (hA.below (((Below.refl _ _).alloc (Nat.le_refl _) (.cells #[.int .i64 h, .int .i64 room, .slice A s.length c, .int .i64 n] 25)).alloc (by simp) (.cells #[.int .i64 0, .int .i64 0, .slice none 0 0, .int .i64 0] 25)))
  clear hA
  have cZX := ZX.out.four
  have cZZ := ZZ.out.four
  have fZZ0 := ZZ.out.frozen 0
  have fZZ1 := ZZ.out.frozen 1
  have fZZ2 := ZZ.out.frozen 2
  have fZZ3 := ZZ.out.frozen 3
  go_enter Try.func14, Try.ntmps14
  go_wp2_with fail
  refine (HC.out _ _ _ HA.out).mono ?_
  rintro e w1 ⟨v, rfl, ho, hb1⟩
  have RV := mkHid (RowOf.rebase (a := w.heap.size + 2) ho (by simp))
  clear ho
  obtain ⟨va, vc, rfl⟩ := RV.out.len
  replace ZX := mkHid (ZX.out.keep hb1)
  replace ZZ := mkHid (ZZ.out.keep hb1)
  replace KB := mkHid (KB.out.step hb1)
  replace HA := mkHid (HA.out.below hb1)
  clear cZX
  have cZX := ZX.out.four
  clear cZZ fZZ0 fZZ1 fZZ2 fZZ3
  have cZZ := ZZ.out.four
  have fZZ0 := ZZ.out.frozen 0
  have fZZ1 := ZZ.out.frozen 1
  have fZZ2 := ZZ.out.frozen 2
  have fZZ3 := ZZ.out.frozen 3
  clear hb1
  go_wp2_with fail
  have qR := (ZZ.out.fill4 (x := .int .i64 R.h) (y := .int .i64 R.room) (u := .slice va R.s.length vc) (v := .int .i64 R.n)).four
  refine bodyPost_ret (v := .tuple #[.agg #[.int .i64 R.h, .int .i64 R.room, .slice va R.s.length vc, .int .i64 R.n], .int .i64 r]) (by simp [results, Try.results14, go_sem, qR]) rfl ⟨_, rfl, RowOf.rebase (RowOf.past4 RV.out (by omega) _ _ _ _) (by omega), below_four KB.out (by omega) _ _ _ _⟩

set_option maxRecDepth 100000 in
set_option maxHeartbeats 4000000 in
theorem reinstate_of {h room n : Int} {s : List Nat} {t : Nat} {R : RollA} {r : Int} (HC : Hid (∀ (A : Option Addr) (c : Nat) (w : World), Reads w A s → Calls Try.prog 40 #[.agg #[.int .i64 h, .int .i64 room, .slice A s.length c, .int .i64 n], .int .u64 (t : Int), .func (.func 42) #[] #[]] w (RPost R r w)))  (A : Option Addr) (c : Nat) (w : World) (hA : Reads w A s) :
    Calls Try.prog 15 #[.agg #[.int .i64 h, .int .i64 room, .slice A s.length c, .int .i64 n], .int .u64 (t : Int)] w (RPost R r w) := by
  skip
  have ZX : Hid (Blk ((w.alloc (.cells #[.int .i64 h, .int .i64 room, .slice A s.length c, .int .i64 n] 25)).alloc (.cells #[.int .i64 0, .int .i64 0, .slice none 0 0, .int .i64 0] 25)) w.heap.size 25 #[.int .i64 h, .int .i64 room, .slice A s.length c, .int .i64 n]) := mkHid ((Blk.new _ _ _).alloc _)
  have ZZ : Hid (Blk ((w.alloc (.cells #[.int .i64 h, .int .i64 room, .slice A s.length c, .int .i64 n] 25)).alloc (.cells #[.int .i64 0, .int .i64 0, .slice none 0 0, .int .i64 0] 25)) (w.heap.size + 1) 25 #[.int .i64 0, .int .i64 0, .slice none 0 0, .int .i64 0]) := mkHid (Blk.at _ _ _ (by simp))
  have KB : Hid (Below w.heap.size w ((w.alloc (.cells #[.int .i64 h, .int .i64 room, .slice A s.length c, .int .i64 n] 25)).alloc (.cells #[.int .i64 0, .int .i64 0, .slice none 0 0, .int .i64 0] 25))) := mkHid (((Below.refl _ _).alloc (Nat.le_refl _) _).alloc (by simp) _)
  have HA := mkHid (hA.below (((Below.refl _ _).alloc (Nat.le_refl _) (.cells #[.int .i64 h, .int .i64 room, .slice A s.length c, .int .i64 n] 25)).alloc (by simp) (.cells #[.int .i64 0, .int .i64 0, .slice none 0 0, .int .i64 0] 25)))
  clear hA
  have cZX := ZX.out.four
  have cZZ := ZZ.out.four
  have fZZ0 := ZZ.out.frozen 0
  have fZZ1 := ZZ.out.frozen 1
  have fZZ2 := ZZ.out.frozen 2
  have fZZ3 := ZZ.out.frozen 3
  go_enter Try.func15, Try.ntmps15
  go_wp2_with fail
  refine (HC.out _ _ _ HA.out).mono ?_
  rintro e w1 ⟨v, rfl, ho, hb1⟩
  have RV := mkHid (RowOf.rebase (a := w.heap.size + 2) ho (by simp))
  clear ho
  obtain ⟨va, vc, rfl⟩ := RV.out.len
  replace ZX := mkHid (ZX.out.keep hb1)
  replace ZZ := mkHid (ZZ.out.keep hb1)
  replace KB := mkHid (KB.out.step hb1)
  replace HA := mkHid (HA.out.below hb1)
  clear cZX
  have cZX := ZX.out.four
  clear cZZ fZZ0 fZZ1 fZZ2 fZZ3
  have cZZ := ZZ.out.four
  have fZZ0 := ZZ.out.frozen 0
  have fZZ1 := ZZ.out.frozen 1
  have fZZ2 := ZZ.out.frozen 2
  have fZZ3 := ZZ.out.frozen 3
  clear hb1
  go_wp2_with fail
  have qR := (ZZ.out.fill4 (x := .int .i64 R.h) (y := .int .i64 R.room) (u := .slice va R.s.length vc) (v := .int .i64 R.n)).four
  refine bodyPost_ret (v := .tuple #[.agg #[.int .i64 R.h, .int .i64 R.room, .slice va R.s.length vc, .int .i64 R.n], .int .i64 r]) (by simp [results, Try.results15, go_sem, qR]) rfl ⟨_, rfl, RowOf.rebase (RowOf.past4 RV.out (by omega) _ _ _ _) (by omega), below_four KB.out (by omega) _ _ _ _⟩
end Go.Proofs.Ytmehbonjpmlmfaa
