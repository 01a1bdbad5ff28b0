/- The contracts of roll: New, Is, and the lists of who may not read; and of the document's answer. -/
import Derived.Test.YtmehbonjpmlmfaaRollB
namespace Go.Proofs.Ytmehbonjpmlmfaa
open Go.RowKit Go.Proofs.YtmehbonjpmlmfaaW.PrintWords

theorem below_four {w w1 : World} {b g : Nat} (h : Below b w w1) (hg : b ≤ g) (x y z u : Value) : Below b w ((((w1.setCell ⟨g, 0, none⟩ x).setCell ⟨g, 1, none⟩ y).setCell ⟨g, 2, none⟩ z).setCell ⟨g, 3, none⟩ u) :=
  (((h.setCell (p := ⟨g, 0, none⟩) hg _).setCell (p := ⟨g, 1, none⟩) hg _).setCell (p := ⟨g, 2, none⟩) hg _).setCell (p := ⟨g, 3, none⟩) hg _

set_option maxRecDepth 100000 in
set_option maxHeartbeats 4000000 in
theorem rnew_yes {h room : Int} (e : Hid (rollCheck h room [] 0 = 0)) (w : World) :
    Calls Try.prog 13 #[.int .i64 h, .int .i64 room] w fun e w' => e = .returned (.tuple #[.agg #[.int .i64 h, .int .i64 room, .slice none 0 0, .int .i64 0], .int .i64 0]) ∧ Below w.heap.size w w' := by
  skip
  have ZZ : Hid (Blk ((w.alloc (.cells #[.int .i64 0, .int .i64 0, .slice none 0 0, .int .i64 0] 25)).alloc (.cells #[.int .i64 h, .int .i64 room, .slice none 0 0, .int .i64 0] 25)) w.heap.size 25 #[.int .i64 0, .int .i64 0, .slice none 0 0, .int .i64 0]) := mkHid ((Blk.new _ _ _).alloc _)
  have ZX : Hid (Blk ((w.alloc (.cells #[.int .i64 0, .int .i64 0, .slice none 0 0, .int .i64 0] 25)).alloc (.cells #[.int .i64 h, .int .i64 room, .slice none 0 0, .int .i64 0] 25)) (w.heap.size + 1) 25 #[.int .i64 h, .int .i64 room, .slice none 0 0, .int .i64 0]) := mkHid (Blk.at _ _ _ (by simp))
  have KB : Hid (Below w.heap.size w ((w.alloc (.cells #[.int .i64 0, .int .i64 0, .slice none 0 0, .int .i64 0] 25)).alloc (.cells #[.int .i64 h, .int .i64 room, .slice none 0 0, .int .i64 0] 25))) := mkHid (((Below.refl _ _).alloc (Nat.le_refl _) _).alloc (by simp) _)
  have cZZ := ZZ.out.four
  have fZZ0 := ZZ.out.frozen 0
  have fZZ1 := ZZ.out.frozen 1
  have fZZ2 := ZZ.out.frozen 2
  have fZZ3 := ZZ.out.frozen 3
  have cZX := ZX.out.four
  go_enter Try.func13, Try.ntmps13
  go_wp2_with fail
  refine (rchk e none 0 _ (Reads.nil _)).mono ?_
  rintro e w1 ⟨rfl, hb1⟩
  replace ZZ := mkHid (ZZ.out.keep hb1)
  replace ZX := mkHid (ZX.out.keep hb1)
  replace KB := mkHid (KB.out.step hb1)
  clear cZZ fZZ0 fZZ1 fZZ2 fZZ3
  have cZZ := ZZ.out.four
  have fZZ0 := ZZ.out.frozen 0
  have fZZ1 := ZZ.out.frozen 1
  have fZZ2 := ZZ.out.frozen 2
  have fZZ3 := ZZ.out.frozen 3
  clear cZX
  have cZX := ZX.out.four
  clear hb1
  go_wp2_with fail
  have qR := (ZZ.out.fill4 (x := .int .i64 h) (y := .int .i64 room) (u := .slice none 0 0) (v := .int .i64 0)).four
  refine bodyPost_ret (v := .tuple #[.agg #[.int .i64 h, .int .i64 room, .slice none 0 0, .int .i64 0], .int .i64 0]) (by simp [results, Try.results13, go_sem, qR]) rfl ⟨rfl, ?_⟩
  exact below_four KB.out (Nat.le_refl _) _ _ _ _

set_option maxRecDepth 100000 in
set_option maxHeartbeats 4000000 in
theorem rnew_no {h room : Int} (e : Hid (rollCheck h room [] 0 = 1)) (w : World) :
    Calls Try.prog 13 #[.int .i64 h, .int .i64 room] w fun e w' => e = .returned (.tuple #[.agg #[.int .i64 0, .int .i64 0, .slice none 0 0, .int .i64 0], .int .i64 1]) ∧ Below w.heap.size w w' := by
  skip
  have ZZ : Hid (Blk ((w.alloc (.cells #[.int .i64 0, .int .i64 0, .slice none 0 0, .int .i64 0] 25)).alloc (.cells #[.int .i64 h, .int .i64 room, .slice none 0 0, .int .i64 0] 25)) w.heap.size 25 #[.int .i64 0, .int .i64 0, .slice none 0 0, .int .i64 0]) := mkHid ((Blk.new _ _ _).alloc _)
  have ZX : Hid (Blk ((w.alloc (.cells #[.int .i64 0, .int .i64 0, .slice none 0 0, .int .i64 0] 25)).alloc (.cells #[.int .i64 h, .int .i64 room, .slice none 0 0, .int .i64 0] 25)) (w.heap.size + 1) 25 #[.int .i64 h, .int .i64 room, .slice none 0 0, .int .i64 0]) := mkHid (Blk.at _ _ _ (by simp))
  have KB : Hid (Below w.heap.size w ((w.alloc (.cells #[.int .i64 0, .int .i64 0, .slice none 0 0, .int .i64 0] 25)).alloc (.cells #[.int .i64 h, .int .i64 room, .slice none 0 0, .int .i64 0] 25))) := mkHid (((Below.refl _ _).alloc (Nat.le_refl _) _).alloc (by simp) _)
  have cZZ := ZZ.out.four
  have fZZ0 := ZZ.out.frozen 0
  have fZZ1 := ZZ.out.frozen 1
  have fZZ2 := ZZ.out.frozen 2
  have fZZ3 := ZZ.out.frozen 3
  have cZX := ZX.out.four
  go_enter Try.func13, Try.ntmps13
  go_wp2_with fail
  refine (rchk e none 0 _ (Reads.nil _)).mono ?_
  rintro e w1 ⟨rfl, hb1⟩
  replace ZZ := mkHid (ZZ.out.keep hb1)
  replace ZX := mkHid (ZX.out.keep hb1)
  replace KB := mkHid (KB.out.step hb1)
  clear cZZ fZZ0 fZZ1 fZZ2 fZZ3
  have cZZ := ZZ.out.four
  have fZZ0 := ZZ.out.frozen 0
  have fZZ1 := ZZ.out.frozen 1
  have fZZ2 := ZZ.out.frozen 2
  have fZZ3 := ZZ.out.frozen 3
  clear cZX
  have cZX := ZX.out.four
  clear hb1
  go_wp2_with fail
  have qR := (ZZ.out.fill4 (x := .int .i64 0) (y := .int .i64 0) (u := .slice none 0 0) (v := .int .i64 0)).four
  refine bodyPost_ret (v := .tuple #[.agg #[.int .i64 0, .int .i64 0, .slice none 0 0, .int .i64 0], .int .i64 1]) (by simp [results, Try.results13, go_sem, qR]) rfl ⟨rfl, ?_⟩
  exact below_four KB.out (Nat.le_refl _) _ _ _ _

set_option maxRecDepth 100000 in
set_option maxHeartbeats 4000000 in
theorem srnew_yes {h room : Int} (e : Hid (rollCheck h room [] 0 = 0)) (w : World) :
    Calls Try.prog 23 #[.int .i64 h, .int .i64 room] w fun e w' => e = .returned (.tuple #[.agg #[.int .i64 h, .int .i64 room, .slice none 0 0, .int .i64 0], .int .i64 0]) ∧ Below w.heap.size w w' := by
  skip
  have ZZ : Hid (Blk ((w.alloc (.cells #[.int .i64 0, .int .i64 0, .slice none 0 0, .int .i64 0] 25)).alloc (.cells #[.int .i64 h, .int .i64 room, .slice none 0 0, .int .i64 0] 25)) w.heap.size 25 #[.int .i64 0, .int .i64 0, .slice none 0 0, .int .i64 0]) := mkHid ((Blk.new _ _ _).alloc _)
  have ZX : Hid (Blk ((w.alloc (.cells #[.int .i64 0, .int .i64 0, .slice none 0 0, .int .i64 0] 25)).alloc (.cells #[.int .i64 h, .int .i64 room, .slice none 0 0, .int .i64 0] 25)) (w.heap.size + 1) 25 #[.int .i64 h, .int .i64 room, .slice none 0 0, .int .i64 0]) := mkHid (Blk.at _ _ _ (by simp))
  have KB : Hid (Below w.heap.size w ((w.alloc (.cells #[.int .i64 0, .int .i64 0, .slice none 0 0, .int .i64 0] 25)).alloc (.cells #[.int .i64 h, .int .i64 room, .slice none 0 0, .int .i64 0] 25))) := mkHid (((Below.refl _ _).alloc (Nat.le_refl _) _).alloc (by simp) _)
  have cZZ := ZZ.out.four
  have fZZ0 := ZZ.out.frozen 0
  have fZZ1 := ZZ.out.frozen 1
  have fZZ2 := ZZ.out.frozen 2
  have fZZ3 := ZZ.out.frozen 3
  have cZX := ZX.out.four
  go_enter Try.func23, Try.ntmps23
  go_wp2_with fail
  refine (schk e none 0 _ (Reads.nil _)).mono ?_
  rintro e w1 ⟨rfl, hb1⟩
  replace ZZ := mkHid (ZZ.out.keep hb1)
  replace ZX := mkHid (ZX.out.keep hb1)
  replace KB := mkHid (KB.out.step hb1)
  clear cZZ fZZ0 fZZ1 fZZ2 fZZ3
  have cZZ := ZZ.out.four
  have fZZ0 := ZZ.out.frozen 0
  have fZZ1 := ZZ.out.frozen 1
  have fZZ2 := ZZ.out.frozen 2
  have fZZ3 := ZZ.out.frozen 3
  clear cZX
  have cZX := ZX.out.four
  clear hb1
  go_wp2_with fail
  have qR := (ZZ.out.fill4 (x := .int .i64 h) (y := .int .i64 room) (u := .slice none 0 0) (v := .int .i64 0)).four
  refine bodyPost_ret (v := .tuple #[.agg #[.int .i64 h, .int .i64 room, .slice none 0 0, .int .i64 0], .int .i64 0]) (by simp [results, Try.results23, go_sem, qR]) rfl ⟨rfl, ?_⟩
  exact below_four KB.out (Nat.le_refl _) _ _ _ _

set_option maxRecDepth 100000 in
set_option maxHeartbeats 4000000 in
theorem srnew_no {h room : Int} (e : Hid (rollCheck h room [] 0 = 1)) (w : World) :
    Calls Try.prog 23 #[.int .i64 h, .int .i64 room] w fun e w' => e = .returned (.tuple #[.agg #[.int .i64 0, .int .i64 0, .slice none 0 0, .int .i64 0], .int .i64 1]) ∧ Below w.heap.size w w' := by
  skip
  have ZZ : Hid (Blk ((w.alloc (.cells #[.int .i64 0, .int .i64 0, .slice none 0 0, .int .i64 0] 25)).alloc (.cells #[.int .i64 h, .int .i64 room, .slice none 0 0, .int .i64 0] 25)) w.heap.size 25 #[.int .i64 0, .int .i64 0, .slice none 0 0, .int .i64 0]) := mkHid ((Blk.new _ _ _).alloc _)
  have ZX : Hid (Blk ((w.alloc (.cells #[.int .i64 0, .int .i64 0, .slice none 0 0, .int .i64 0] 25)).alloc (.cells #[.int .i64 h, .int .i64 room, .slice none 0 0, .int .i64 0] 25)) (w.heap.size + 1) 25 #[.int .i64 h, .int .i64 room, .slice none 0 0, .int .i64 0]) := mkHid (Blk.at _ _ _ (by simp))
  have KB : Hid (Below w.heap.size w ((w.alloc (.cells #[.int .i64 0, .int .i64 0, .slice none 0 0, .int .i64 0] 25)).alloc (.cells #[.int .i64 h, .int .i64 room, .slice none 0 0, .int .i64 0] 25))) := mkHid (((Below.refl _ _).alloc (Nat.le_refl _) _).alloc (by simp) _)
  have cZZ := ZZ.out.four
  have fZZ0 := ZZ.out.frozen 0
  have fZZ1 := ZZ.out.frozen 1
  have fZZ2 := ZZ.out.frozen 2
  have fZZ3 := ZZ.out.frozen 3
  have cZX := ZX.out.four
  go_enter Try.func23, Try.ntmps23
  go_wp2_with fail
  refine (schk e none 0 _ (Reads.nil _)).mono ?_
  rintro e w1 ⟨rfl, hb1⟩
  replace ZZ := mkHid (ZZ.out.keep hb1)
  replace ZX := mkHid (ZX.out.keep hb1)
  replace KB := mkHid (KB.out.step hb1)
  clear cZZ fZZ0 fZZ1 fZZ2 fZZ3
  have cZZ := ZZ.out.four
  have fZZ0 := ZZ.out.frozen 0
  have fZZ1 := ZZ.out.frozen 1
  have fZZ2 := ZZ.out.frozen 2
  have fZZ3 := ZZ.out.frozen 3
  clear cZX
  have cZX := ZX.out.four
  clear hb1
  go_wp2_with fail
  have qR := (ZZ.out.fill4 (x := .int .i64 0) (y := .int .i64 0) (u := .slice none 0 0) (v := .int .i64 0)).four
  refine bodyPost_ret (v := .tuple #[.agg #[.int .i64 0, .int .i64 0, .slice none 0 0, .int .i64 0], .int .i64 1]) (by simp [results, Try.results23, go_sem, qR]) rfl ⟨rfl, ?_⟩
  exact below_four KB.out (Nat.le_refl _) _ _ _ _

set_option maxRecDepth 100000 in
set_option maxHeartbeats 4000000 in
theorem ris_bad {h room n : Int} {s : List Nat} {t : Nat} (e : Hid (rollCheck h room s n = 1)) (A : Option Addr) (c : Nat) (w : World) (hA : Reads w A s) :
    Calls Try.prog 16 #[.agg #[.int .i64 h, .int .i64 room, .slice A s.length c, .int .i64 n], .int .u64 (t : Int)] w fun e w' => e = .returned (.tuple #[.bool false, .int .i64 1]) ∧ Below w.heap.size w w' := by
  skip
  have ZX : Hid (Blk (w.alloc (.cells #[.int .i64 h, .int .i64 room, .slice A s.length c, .int .i64 n] 25)) w.heap.size 25 #[.int .i64 h, .int .i64 room, .slice A s.length c, .int .i64 n]) := mkHid (Blk.new _ _ _)
  have KB : Hid (Below w.heap.size w (w.alloc (.cells #[.int .i64 h, .int .i64 room, .slice A s.length c, .int .i64 n] 25))) := mkHid ((Below.refl _ _).alloc (Nat.le_refl _) _)
  have HA := mkHid (hA.below ((Below.refl _ _).alloc (Nat.le_refl _) (.cells #[.int .i64 h, .int .i64 room, .slice A s.length c, .int .i64 n] 25)))
  clear hA
  have cZX := ZX.out.four
  go_enter Try.func16, Try.ntmps16
  go_wp2_with fail
  refine (rchk e _ _ _ HA.out).mono ?_
  rintro e w1 ⟨rfl, hb1⟩
  replace ZX := mkHid (ZX.out.keep hb1)
  replace KB := mkHid (KB.out.step hb1)
  replace HA := mkHid (HA.out.below hb1)
  clear cZX
  have cZX := ZX.out.four
  clear hb1
  go_wp2_with fail
  go_ret2
  exact ⟨by simp, KB.out⟩

set_option maxRecDepth 100000 in
set_option maxHeartbeats 4000000 in
theorem ris_ok {h room n : Int} {s : List Nat} {t : Nat} {z : Bool} {r : Int} (e : Hid (rollCheck h room s n = 0)) (f : Hid (hasAll h s t = (z, r))) (A : Option Addr) (c : Nat) (w : World) (hA : Reads w A s) :
    Calls Try.prog 16 #[.agg #[.int .i64 h, .int .i64 room, .slice A s.length c, .int .i64 n], .int .u64 (t : Int)] w fun e w' => e = .returned (.tuple #[.bool z, .int .i64 r]) ∧ Below w.heap.size w w' := by
  skip
  have ZX : Hid (Blk (w.alloc (.cells #[.int .i64 h, .int .i64 room, .slice A s.length c, .int .i64 n] 25)) w.heap.size 25 #[.int .i64 h, .int .i64 room, .slice A s.length c, .int .i64 n]) := mkHid (Blk.new _ _ _)
  have KB : Hid (Below w.heap.size w (w.alloc (.cells #[.int .i64 h, .int .i64 room, .slice A s.length c, .int .i64 n] 25))) := mkHid ((Below.refl _ _).alloc (Nat.le_refl _) _)
  have HA := mkHid (hA.below ((Below.refl _ _).alloc (Nat.le_refl _) (.cells #[.int .i64 h, .int .i64 room, .slice A s.length c, .int .i64 n] 25)))
  clear hA
  have cZX := ZX.out.four
  go_enter Try.func16, Try.ntmps16
  go_wp2_with fail
  refine (rchk e _ _ _ HA.out).mono ?_
  rintro e w1 ⟨rfl, hb1⟩
  replace ZX := mkHid (ZX.out.keep hb1)
  replace KB := mkHid (KB.out.step hb1)
  replace HA := mkHid (HA.out.below hb1)
  clear cZX
  have cZX := ZX.out.four
  clear hb1
  go_wp2_with fail
  (with_reducible refine (has_all h s t f _ _ _ HA.out).mono ?_)
  rintro e w' ⟨rfl, hw'⟩
  obtain rfl := hw'.symm
  clear hw'
  go_wp2_with fail
  go_ret2
  exact ⟨by simp, KB.out⟩

set_option maxRecDepth 100000 in
set_option maxHeartbeats 4000000 in
theorem sris_bad {h room n : Int} {s : List Nat} {t : Nat} (e : Hid (rollCheck h room s n = 1)) (A : Option Addr) (c : Nat) (w : World) (hA : Reads w A s) :
    Calls Try.prog 22 #[.agg #[.int .i64 h, .int .i64 room, .slice A s.length c, .int .i64 n], .int .u64 (t : Int)] w fun e w' => e = .returned (.tuple #[.bool false, .int .i64 1]) ∧ Below w.heap.size w w' := by
  skip
  have ZX : Hid (Blk (w.alloc (.cells #[.int .i64 h, .int .i64 room, .slice A s.length c, .int .i64 n] 25)) w.heap.size 25 #[.int .i64 h, .int .i64 room, .slice A s.length c, .int .i64 n]) := mkHid (Blk.new _ _ _)
  have KB : Hid (Below w.heap.size w (w.alloc (.cells #[.int .i64 h, .int .i64 room, .slice A s.length c, .int .i64 n] 25))) := mkHid ((Below.refl _ _).alloc (Nat.le_refl _) _)
  have HA := mkHid (hA.below ((Below.refl _ _).alloc (Nat.le_refl _) (.cells #[.int .i64 h, .int .i64 room, .slice A s.length c, .int .i64 n] 25)))
  clear hA
  have cZX := ZX.out.four
  go_enter Try.func22, Try.ntmps22
  go_wp2_with fail
  refine (schk e _ _ _ HA.out).mono ?_
  rintro e w1 ⟨rfl, hb1⟩
  replace ZX := mkHid (ZX.out.keep hb1)
  replace KB := mkHid (KB.out.step hb1)
  replace HA := mkHid (HA.out.below hb1)
  clear cZX
  have cZX := ZX.out.four
  clear hb1
  go_wp2_with fail
  go_ret2
  exact ⟨by simp, KB.out⟩

set_option maxRecDepth 100000 in
set_option maxHeartbeats 4000000 in
theorem sris_leaf {h room n : Int} {s : List Nat} {t : Nat} {k : Nat} (hk : Hid (h = (k : Int))) (h1 : 1 ≤ k) (h2 : k ≤ 32) (e : Hid (rollCheck h room s n = 0)) (ht : 2 ^ k ≤ t) (A : Option Addr) (c : Nat) (w : World) (hA : Reads w A s) :
    Calls Try.prog 22 #[.agg #[.int .i64 h, .int .i64 room, .slice A s.length c, .int .i64 n], .int .u64 (t : Int)] w fun e w' => e = .returned (.tuple #[.bool false, .int .i64 1]) ∧ Below w.heap.size w w' := by
  skip
  have ZX : Hid (Blk (w.alloc (.cells #[.int .i64 h, .int .i64 room, .slice A s.length c, .int .i64 n] 25)) w.heap.size 25 #[.int .i64 h, .int .i64 room, .slice A s.length c, .int .i64 n]) := mkHid (Blk.new _ _ _)
  have KB : Hid (Below w.heap.size w (w.alloc (.cells #[.int .i64 h, .int .i64 room, .slice A s.length c, .int .i64 n] 25))) := mkHid ((Below.refl _ _).alloc (Nat.le_refl _) _)
  have HA := mkHid (hA.below ((Below.refl _ _).alloc (Nat.le_refl _) (.cells #[.int .i64 h, .int .i64 room, .slice A s.length c, .int .i64 n] 25)))
  clear hA
  have HT := mkHid ht
  clear ht
  obtain rfl := hk.out
  have cZX := ZX.out.four
  go_enter Try.func22, Try.ntmps22
  go_wp2_with fail
  refine (schk e _ _ _ HA.out).mono ?_
  rintro e w1 ⟨rfl, hb1⟩
  replace ZX := mkHid (ZX.out.keep hb1)
  replace KB := mkHid (KB.out.step hb1)
  replace HA := mkHid (HA.out.below hb1)
  clear cZX
  have cZX := ZX.out.four
  clear hb1
  go_wp2_with fail
  (with_reducible refine (sis_not h1 h2 HT.out _).mono ?_)
  rintro e w' ⟨rfl, hw'⟩
  obtain rfl := hw'.symm
  clear hw'
  go_wp2_with fail
  go_ret2
  exact ⟨by simp, KB.out⟩

set_option maxRecDepth 100000 in
set_option maxHeartbeats 4000000 in
theorem sris_yes {h room n : Int} {s : List Nat} {t : Nat} {k : Nat} (hk : Hid (h = (k : Int))) (h1 : 1 ≤ k) (h2 : k ≤ 32) (e : Hid (rollCheck h room s n = 0)) (ht : t < 2 ^ k) {z : Bool} (hz : Hid (decide (t ∈ s) = z)) (hl : s.length ≤ 4611686018427387904) (A : Option Addr) (c : Nat) (w : World) (hA : Reads w A s) :
    Calls Try.prog 22 #[.agg #[.int .i64 h, .int .i64 room, .slice A s.length c, .int .i64 n], .int .u64 (t : Int)] w fun e w' => e = .returned (.tuple #[.bool z, .int .i64 0]) ∧ Below w.heap.size w w' := by
  skip
  have ZX : Hid (Blk (w.alloc (.cells #[.int .i64 h, .int .i64 room, .slice A s.length c, .int .i64 n] 25)) w.heap.size 25 #[.int .i64 h, .int .i64 room, .slice A s.length c, .int .i64 n]) := mkHid (Blk.new _ _ _)
  have KB : Hid (Below w.heap.size w (w.alloc (.cells #[.int .i64 h, .int .i64 room, .slice A s.length c, .int .i64 n] 25))) := mkHid ((Below.refl _ _).alloc (Nat.le_refl _) _)
  have HA := mkHid (hA.below ((Below.refl _ _).alloc (Nat.le_refl _) (.cells #[.int .i64 h, .int .i64 room, .slice A s.length c, .int .i64 n] 25)))
  clear hA
  have HT := mkHid ht
  clear ht
  obtain rfl := hk.out
  have cZX := ZX.out.four
  go_enter Try.func22, Try.ntmps22
  go_wp2_with fail
  refine (schk e _ _ _ HA.out).mono ?_
  rintro e w1 ⟨rfl, hb1⟩
  replace ZX := mkHid (ZX.out.keep hb1)
  replace KB := mkHid (KB.out.step hb1)
  replace HA := mkHid (HA.out.below hb1)
  clear cZX
  have cZX := ZX.out.four
  clear hb1
  go_wp2_with fail
  (with_reducible refine (sis_yes h1 h2 HT.out _).mono ?_)
  rintro e w' ⟨rfl, hw'⟩
  obtain rfl := hw'.symm
  clear hw'
  go_wp2_with fail
  (with_reducible refine (sin_walk hl hz _ _ _ HA.out).mono ?_)
  rintro e w' ⟨rfl, hw'⟩
  obtain rfl := hw'.symm
  clear hw'
  go_wp2_with fail
  go_ret2
  exact ⟨by simp, KB.out⟩

/-- what Is answers -/
def rollIs (h room : Int) (s : List Nat) (n : Int) (t : Nat) : Bool × Int := if rollCheck h room s n = 0 then hasAll h s t else (false, 1)
theorem ris {h room n : Int} {s : List Nat} {t : Nat} {z : Bool} {r : Int} (e : Hid (rollIs h room s n t = (z, r))) (A : Option Addr) (c : Nat) (w : World) (hA : Reads w A s) :
    Calls Try.prog 16 #[.agg #[.int .i64 h, .int .i64 room, .slice A s.length c, .int .i64 n], .int .u64 (t : Int)] w fun e w' => e = .returned (.tuple #[.bool z, .int .i64 r]) ∧ Below w.heap.size w w' := by
  have e' := e.out
  unfold rollIs at e'
  rcases rollCheck_or h room s n with hc | hc
  · rw [if_pos hc] at e'; exact ris_ok (mkHid hc) (mkHid e') A c w hA
  · rw [if_neg (by rw [hc]; decide)] at e'; cases e'; exact ris_bad (mkHid hc) A c w hA
theorem rollCheck_ok {h room n : Int} {s : List Nat} (e : rollCheck h room s n = 0) : ∃ k : Nat, h = (k : Int) ∧ 1 ≤ k ∧ k ≤ 32 ∧ SetOk k s ∧ (s.length : Int) ≤ room ∧ room ≤ 1024 ∧ 0 ≤ n ∧ n ≤ 1099511627776 := by
  unfold rollCheck at e
  by_cases hb : rollBad room s n
  · rw [if_pos hb] at e; cases e
  · rw [if_neg hb] at e
    unfold rollBad at hb
    unfold checkAll at e
    split at e
    · rename_i c0
      exact ⟨h.toNat, by omega, by omega, by omega, c0.2, by omega, by omega, by omega, by omega⟩
    · cases e
theorem sris {h room n : Int} {s : List Nat} {t : Nat} {z : Bool} {r : Int} (e : Hid (rollIs h room s n t = (z, r))) (A : Option Addr) (c : Nat) (w : World) (hA : Reads w A s) :
    Calls Try.prog 22 #[.agg #[.int .i64 h, .int .i64 room, .slice A s.length c, .int .i64 n], .int .u64 (t : Int)] w fun e w' => e = .returned (.tuple #[.bool z, .int .i64 r]) ∧ Below w.heap.size w w' := by
  have e' := e.out
  unfold rollIs at e'
  rcases rollCheck_or h room s n with hc | hc
  · rw [if_pos hc] at e'
    obtain ⟨k, hk, h1, h2, hs, _⟩ := rollCheck_ok hc
    by_cases ht : t < 2 ^ k
    · rw [hk, hasAll_mk h1 h2 hs ht] at e'; cases e'
      exact sris_yes (mkHid hk) h1 h2 (mkHid hc) ht (mkHid rfl) (by have := hs.1; omega) A c w hA
    · have : hasAll h s t = (false, 1) := by
        unfold hasAll
        rw [if_neg (fun q => ht (by rw [hk, Int.toNat_natCast] at q; exact q.2.2))]
      rw [this] at e'; cases e'
      exact sris_leaf (mkHid hk) h1 h2 (mkHid hc) (by omega) A c w hA
  · rw [if_neg (by rw [hc]; decide)] at e'; cases e'; exact sris_bad (mkHid hc) A c w hA

theorem RowOf.rebase {w : World} {a b : Nat} {v : Value} {S : List Nat} (h : RowOf w b v S) (hb : a ≤ b) : RowOf w a v S := World.ownsRow.base h hb
theorem RowOf.len {w : World} {b : Nat} {v : Value} {S : List Nat} (h : RowOf w b v S) : ∃ A c, v = .slice A S.length c := by
  obtain ⟨A, c, e, _⟩ := Reads.of_row h
  exact ⟨A, c, e⟩
/-- what a list's with answers -/
def listWith (h room : Int) (s : List Nat) (t : Nat) : List Nat × Int := if (withAll h s t).2 = 0 ∧ room < ((withAll h s t).1.length : Int) then ((withAll h s t).1, 6) else withAll h s t

set_option maxRecDepth 100000 in
set_option maxHeartbeats 4000000 in
theorem lwith_err {h room : Int} {s : List Nat} {t : Nat} {L : List Nat} {r : Int} (e : Hid (withAll h s t = (L, r))) (hr : r ≠ 0) (A : Option Addr) (c : Nat) (w : World) (hA : Reads w A s) :
    Calls Try.prog 41 #[.agg #[.int .i64 h, .int .i64 room, .slice A s.length c], .int .u64 (t : Int)] w (WPost L r w) := by
  have t0 : (r == (0 : Int)) = false := beq_eq_false_iff_ne.2 hr
  have ZX : Hid (Blk (w.alloc (.cells #[.int .i64 h, .int .i64 room, .slice A s.length c] 73)) w.heap.size 73 #[.int .i64 h, .int .i64 room, .slice A s.length c]) := mkHid (Blk.new _ _ _)
  have KB : Hid (Below w.heap.size w (w.alloc (.cells #[.int .i64 h, .int .i64 room, .slice A s.length c] 73))) := mkHid ((Below.refl _ _).alloc (Nat.le_refl _) _)
  have HA := mkHid (hA.below ((Below.refl _ _).alloc (Nat.le_refl _) (.cells #[.int .i64 h, .int .i64 room, .slice A s.length c] 73)))
  clear hA
  have cZX0 := ZX.out.cell 0
  have cZX1 := ZX.out.cell 1
  have cZX2 := ZX.out.cell 2
  go_enter Try.func41, Try.ntmps41
  go_wp2_with fail
  refine (with_all h s t e _ _ _ HA.out).mono ?_
  rintro e w1 ⟨v, rfl, ho, hb1⟩
  have RV := mkHid (RowOf.rebase ho KB.out.size)
  clear ho
  replace ZX := mkHid (ZX.out.keep hb1)
  replace KB := mkHid (KB.out.step hb1)
  replace HA := mkHid (HA.out.below hb1)
  clear cZX0 cZX1 cZX2
  have cZX0 := ZX.out.cell 0
  have cZX1 := ZX.out.cell 1
  have cZX2 := ZX.out.cell 2
  obtain ⟨va, vc, rfl⟩ := RV.out.len
  clear hb1
  go_wp2_with fail
  go_ret2
  exact ⟨_, by simp, RV.out, KB.out⟩

set_option maxRecDepth 100000 in
set_option maxHeartbeats 4000000 in
theorem lwith_full {h room : Int} {s : List Nat} {t : Nat} {L : List Nat} (e : Hid (withAll h s t = (L, 0))) (hr : room < (L.length : Int)) (A : Option Addr) (c : Nat) (w : World) (hA : Reads w A s) :
    Calls Try.prog 41 #[.agg #[.int .i64 h, .int .i64 room, .slice A s.length c], .int .u64 (t : Int)] w (WPost L 6 w) := by
  have t0 : decide (room < (L.length : Int)) = true := decide_eq_true hr
  have ZX : Hid (Blk (w.alloc (.cells #[.int .i64 h, .int .i64 room, .slice A s.length c] 73)) w.heap.size 73 #[.int .i64 h, .int .i64 room, .slice A s.length c]) := mkHid (Blk.new _ _ _)
  have KB : Hid (Below w.heap.size w (w.alloc (.cells #[.int .i64 h, .int .i64 room, .slice A s.length c] 73))) := mkHid ((Below.refl _ _).alloc (Nat.le_refl _) _)
  have HA := mkHid (hA.below ((Below.refl _ _).alloc (Nat.le_refl _) (.cells #[.int .i64 h, .int .i64 room, .slice A s.length c] 73)))
  clear hA
  have cZX0 := ZX.out.cell 0
  have cZX1 := ZX.out.cell 1
  have cZX2 := ZX.out.cell 2
  go_enter Try.func41, Try.ntmps41
  go_wp2_with fail
  refine (with_all h s t e _ _ _ HA.out).mono ?_
  rintro e w1 ⟨v, rfl, ho, hb1⟩
  have RV := mkHid (RowOf.rebase ho KB.out.size)
  clear ho
  replace ZX := mkHid (ZX.out.keep hb1)
  replace KB := mkHid (KB.out.step hb1)
  replace HA := mkHid (HA.out.below hb1)
  clear cZX0 cZX1 cZX2
  have cZX0 := ZX.out.cell 0
  have cZX1 := ZX.out.cell 1
  have cZX2 := ZX.out.cell 2
  obtain ⟨va, vc, rfl⟩ := RV.out.len
  clear hb1
  go_wp2_with fail
  go_ret2
  exact ⟨_, by simp, RV.out, KB.out⟩

set_option maxRecDepth 100000 in
set_option maxHeartbeats 4000000 in
theorem lwith_ok {h room : Int} {s : List Nat} {t : Nat} {L : List Nat} (e : Hid (withAll h s t = (L, 0))) (hr : ¬ room < (L.length : Int)) (A : Option Addr) (c : Nat) (w : World) (hA : Reads w A s) :
    Calls Try.prog 41 #[.agg #[.int .i64 h, .int .i64 room, .slice A s.length c], .int .u64 (t : Int)] w (WPost L 0 w) := by
  have t0 : decide (room < (L.length : Int)) = false := decide_eq_false hr
  have ZX : Hid (Blk (w.alloc (.cells #[.int .i64 h, .int .i64 room, .slice A s.length c] 73)) w.heap.size 73 #[.int .i64 h, .int .i64 room, .slice A s.length c]) := mkHid (Blk.new _ _ _)
  have KB : Hid (Below w.heap.size w (w.alloc (.cells #[.int .i64 h, .int .i64 room, .slice A s.length c] 73))) := mkHid ((Below.refl _ _).alloc (Nat.le_refl _) _)
  have HA := mkHid (hA.below ((Below.refl _ _).alloc (Nat.le_refl _) (.cells #[.int .i64 h, .int .i64 room, .slice A s.length c] 73)))
  clear hA
  have cZX0 := ZX.out.cell 0
  have cZX1 := ZX.out.cell 1
  have cZX2 := ZX.out.cell 2
  go_enter Try.func41, Try.ntmps41
  go_wp2_with fail
  refine (with_all h s t e _ _ _ HA.out).mono ?_
  rintro e w1 ⟨v, rfl, ho, hb1⟩
  have RV := mkHid (RowOf.rebase ho KB.out.size)
  clear ho
  replace ZX := mkHid (ZX.out.keep hb1)
  replace KB := mkHid (KB.out.step hb1)
  replace HA := mkHid (HA.out.below hb1)
  clear cZX0 cZX1 cZX2
  have cZX0 := ZX.out.cell 0
  have cZX1 := ZX.out.cell 1
  have cZX2 := ZX.out.cell 2
  obtain ⟨va, vc, rfl⟩ := RV.out.len
  clear hb1
  go_wp2_with fail
  go_ret2
  exact ⟨_, by simp, RV.out, KB.out⟩

set_option maxRecDepth 100000 in
set_option maxHeartbeats 4000000 in
theorem lwithout_all {h room : Int} {s : List Nat} {t : Nat} {L : List Nat} {r : Int} (e : Hid (withoutAll h s t = (L, r))) (A : Option Addr) (c : Nat) (w : World) (hA : Reads w A s) :
    Calls Try.prog 42 #[.agg #[.int .i64 h, .int .i64 room, .slice A s.length c], .int .u64 (t : Int)] w (WPost L r w) := by
  skip
  have ZX : Hid (Blk (w.alloc (.cells #[.int .i64 h, .int .i64 room, .slice A s.length c] 73)) w.heap.size 73 #[.int .i64 h, .int .i64 room, .slice A s.length c]) := mkHid (Blk.new _ _ _)
  have KB : Hid (Below w.heap.size w (w.alloc (.cells #[.int .i64 h, .int .i64 room, .slice A s.length c] 73))) := mkHid ((Below.refl _ _).alloc (Nat.le_refl _) _)
  have HA := mkHid (hA.below ((Below.refl _ _).alloc (Nat.le_refl _) (.cells #[.int .i64 h, .int .i64 room, .slice A s.length c] 73)))
  clear hA
  have cZX0 := ZX.out.cell 0
  have cZX1 := ZX.out.cell 1
  have cZX2 := ZX.out.cell 2
  go_enter Try.func42, Try.ntmps42
  go_wp2_with fail
  refine (without_all h s t e _ _ _ HA.out).mono ?_
  rintro e w1 ⟨v, rfl, ho, hb1⟩
  have RV := mkHid (RowOf.rebase ho KB.out.size)
  clear ho
  replace ZX := mkHid (ZX.out.keep hb1)
  replace KB := mkHid (KB.out.step hb1)
  replace HA := mkHid (HA.out.below hb1)
  clear cZX0 cZX1 cZX2
  have cZX0 := ZX.out.cell 0
  have cZX1 := ZX.out.cell 1
  have cZX2 := ZX.out.cell 2
  obtain ⟨va, vc, rfl⟩ := RV.out.len
  clear hb1
  go_wp2_with fail
  go_ret2
  exact ⟨_, by simp, RV.out, KB.out⟩

theorem lwith_all {h room : Int} {s : List Nat} {t : Nat} {L : List Nat} {r : Int} (e : Hid (listWith h room s t = (L, r))) (A : Option Addr) (c : Nat) (w : World) (hA : Reads w A s) :
    Calls Try.prog 41 #[.agg #[.int .i64 h, .int .i64 room, .slice A s.length c], .int .u64 (t : Int)] w (WPost L r w) := by
  have e' := e.out
  unfold listWith at e'
  obtain ⟨M, q, f⟩ : ∃ M q, withAll h s t = (M, q) := ⟨_, _, rfl⟩
  rw [f] at e'
  dsimp only at e'
  by_cases hq : q = 0
  · subst hq
    by_cases hr : room < (M.length : Int)
    · rw [if_pos ⟨rfl, hr⟩] at e'; cases e'; exact lwith_full (mkHid f) hr A c w hA
    · rw [if_neg (fun x => hr x.2)] at e'; cases e'; exact lwith_ok (mkHid f) hr A c w hA
  · rw [if_neg (fun x => hq x.1)] at e'; cases e'; exact lwith_err (mkHid f) hq A c w hA
end Go.Proofs.Ytmehbonjpmlmfaa
