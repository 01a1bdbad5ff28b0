/- The example of chapter 18, and how long a roll may be to be played. -/
import Derived.Test.YtmehbonjpmlmfaaRollE
namespace Go.Proofs.Ytmehbonjpmlmfaa
open Go.RowKit Go.Proofs.YtmehbonjpmlmfaaW.PrintWords

theorem Reads.of_rowOf {w : World} {base : Nat} {v : Value} {S : List Nat} (h : RowOf w base v S) : ∃ A c, v = .slice A S.length c ∧ S.length ≤ c ∧ Reads w A S ∧ Mine w base A S.length ∧ (A = none → c = 0) := Mine.of_row h

set_option maxRecDepth 100000 in
set_option maxHeartbeats 4000000 in
theorem few_short {h room n : Int} {s : List Nat} (hl : s.length ≤ 60)  (A : Option Addr) (c : Nat) (w : World) :
    Calls Try.prog 18 #[.agg #[.int .i64 h, .int .i64 room, .slice A s.length c, .int .i64 n]] w fun e w' => e = .returned (.bool true) ∧ Below w.heap.size w w' := by
  have t0 : decide ((s.length : Int) ≤ 60) = true := decide_eq_true (by omega)
  have t0n : decide (s.length ≤ 60) = true := decide_eq_true (by omega)
  go_enter Try.func18, Try.ntmps18
  go_wp2_with fail
  go_ret
  exact ⟨rfl, (Below.refl _ _).alloc (Nat.le_refl _) _⟩

set_option maxRecDepth 100000 in
set_option maxHeartbeats 4000000 in
theorem few_mid {h room n : Int} {s : List Nat} (hl : 60 < s.length ∧ s.length < 1024)  (A : Option Addr) (c : Nat) (w : World) :
    Calls Try.prog 18 #[.agg #[.int .i64 h, .int .i64 room, .slice A s.length c, .int .i64 n]] w fun e w' => e = .returned (.bool false) ∧ Below w.heap.size w w' := by
  have t0 : decide ((s.length : Int) ≤ 60) = false := decide_eq_false (by omega)
  have t0n : decide (s.length ≤ 60) = false := decide_eq_false (by omega)
  have t1 : decide ((1024 : Int) ≤ (s.length : Int)) = false := decide_eq_false (by omega)
  have t1n : decide (1024 ≤ s.length) = false := decide_eq_false (by omega)
  go_enter Try.func18, Try.ntmps18
  go_wp2_with fail
  go_ret
  exact ⟨rfl, (Below.refl _ _).alloc (Nat.le_refl _) _⟩

set_option maxRecDepth 100000 in
set_option maxHeartbeats 4000000 in
theorem few_great {h room n : Int} {s : List Nat} (hl : 1024 ≤ s.length ∧ s.length ≤ 1030)  (A : Option Addr) (c : Nat) (w : World) :
    Calls Try.prog 18 #[.agg #[.int .i64 h, .int .i64 room, .slice A s.length c, .int .i64 n]] w fun e w' => e = .returned (.bool true) ∧ Below w.heap.size w w' := by
  have t0 : decide ((s.length : Int) ≤ 60) = false := decide_eq_false (by omega)
  have t0n : decide (s.length ≤ 60) = false := decide_eq_false (by omega)
  have t1 : decide ((1024 : Int) ≤ (s.length : Int)) = true := decide_eq_true (by omega)
  have t1n : decide (1024 ≤ s.length) = true := decide_eq_true (by omega)
  have t2 : decide ((s.length : Int) ≤ 1030) = true := decide_eq_true (by omega)
  have t2n : decide (s.length ≤ 1030) = true := decide_eq_true (by omega)
  go_enter Try.func18, Try.ntmps18
  go_wp2_with fail
  go_ret
  exact ⟨rfl, (Below.refl _ _).alloc (Nat.le_refl _) _⟩

set_option maxRecDepth 100000 in
set_option maxHeartbeats 4000000 in
theorem few_long {h room n : Int} {s : List Nat} (hl : 1030 < s.length)  (A : Option Addr) (c : Nat) (w : World) :
    Calls Try.prog 18 #[.agg #[.int .i64 h, .int .i64 room, .slice A s.length c, .int .i64 n]] w fun e w' => e = .returned (.bool false) ∧ Below w.heap.size w w' := by
  have t0 : decide ((s.length : Int) ≤ 60) = false := decide_eq_false (by omega)
  have t0n : decide (s.length ≤ 60) = false := decide_eq_false (by omega)
  have t1 : decide ((1024 : Int) ≤ (s.length : Int)) = true := decide_eq_true (by omega)
  have t1n : decide (1024 ≤ s.length) = true := decide_eq_true (by omega)
  have t2 : decide ((s.length : Int) ≤ 1030) = false := decide_eq_false (by omega)
  have t2n : decide (s.length ≤ 1030) = false := decide_eq_false (by omega)
  go_enter Try.func18, Try.ntmps18
  go_wp2_with fail
  go_ret
  exact ⟨rfl, (Below.refl _ _).alloc (Nat.le_refl _) _⟩

def fewB (s : List Nat) : Bool := decide (s.length ≤ 60 ∨ 1024 ≤ s.length ∧ s.length ≤ 1030)
theorem few_any {h room n : Int} {s : List Nat} {z : Bool} (e : Hid (fewB s = z)) (A : Option Addr) (c : Nat) (w : World) :
    Calls Try.prog 18 #[.agg #[.int .i64 h, .int .i64 room, .slice A s.length c, .int .i64 n]] w fun e w' => e = .returned (.bool z) ∧ Below w.heap.size w w' := by
  have e' := e.out
  unfold fewB at e'
  by_cases h1 : s.length ≤ 60
  · rw [decide_eq_true (.inl h1)] at e'; subst e'; exact few_short h1 A c w
  · by_cases h2 : s.length < 1024
    · rw [decide_eq_false (by omega)] at e'; subst e'; exact few_mid ⟨by omega, h2⟩ A c w
    · by_cases h3 : s.length ≤ 1030
      · rw [decide_eq_true (by omega)] at e'; subst e'; exact few_great ⟨by omega, h3⟩ A c w
      · rw [decide_eq_false (by omega)] at e'; subst e'; exact few_long (by omega) A c w

set_option maxRecDepth 100000 in
set_option maxHeartbeats 4000000 in
theorem live18  (w : World) :
    Calls Try.prog 12 #[] w fun e w' => e = .returned (.bool true) ∧ Below w.heap.size w w' := by
  skip
  have E1 : Hid (rollAdd 2 1 [] 0 3 = (⟨2, 1, [3], 1⟩, 0)) := mkHid (by rfl)
  have E2 : Hid (rollAdd 2 1 [3] 1 2 = (⟨0, 0, [], 0⟩, 6)) := mkHid (by rfl)
  have KB : Hid (Below w.heap.size w w) := mkHid (Below.refl _ _)
  go_enter Try.func12, Try.ntmps12
  go_wp2_with fail
  refine (rnew_yes (mkHid (by decide)) _).mono ?_
  rintro e w1 ⟨rfl, hb1⟩
  replace KB := mkHid (KB.out.step hb1)
  clear hb1
  have SZ := KB.out.size
  go_wp2_with fail
  replace KB := mkHid (KB.out.alloc KB.out.size (.cells #[.int .i64 2, .int .i64 1, .slice none 0 0, .int .i64 0] 25))
  have ZR : Hid (Blk (w1.alloc (.cells #[.int .i64 2, .int .i64 1, .slice none 0 0, .int .i64 0] 25)) w1.heap.size 25 #[.int .i64 2, .int .i64 1, .slice none 0 0, .int .i64 0]) := mkHid (Blk.new _ _ _)
  have cZR := ZR.out.four
  have fZR0 := ZR.out.frozen 0
  have fZR1 := ZR.out.frozen 1
  have fZR2 := ZR.out.frozen 2
  have fZR3 := ZR.out.frozen 3
  have lZR := ZR.out.lt
  refine (revoke_any E1 none 0 _ (Reads.nil _)).mono ?_
  rintro e w2 ⟨v, rfl, ho, hb2⟩
  have RV := mkHid (RowOf.rebase (a := w1.heap.size + 1) ho (by simp))
  clear ho
  obtain ⟨va, vc, rfl⟩ := RV.out.len
  replace KB := mkHid (KB.out.step hb2)
  replace ZR := mkHid (ZR.out.keep hb2)
  clear cZR fZR0 fZR1 fZR2 fZR3 lZR
  have cZR := ZR.out.four
  have fZR0 := ZR.out.frozen 0
  have fZR1 := ZR.out.frozen 1
  have fZR2 := ZR.out.frozen 2
  have fZR3 := ZR.out.frozen 3
  have lZR := ZR.out.lt
  clear hb2
  go_wp2_with fail
  replace RV : Hid (RowOf ((((w2.setCell ⟨w1.heap.size, 0, none⟩ (.int .i64 2)).setCell ⟨w1.heap.size, 1, none⟩ (.int .i64 1)).setCell ⟨w1.heap.size, 2, none⟩ (.slice va 1 vc)).setCell ⟨w1.heap.size, 3, none⟩ (.int .i64 1)) (w1.heap.size + 1) (.slice va 1 vc) [3]) := mkHid (RV.out.past4 (by omega) _ _ _ _)
  replace ZR : Hid (Blk ((((w2.setCell ⟨w1.heap.size, 0, none⟩ (.int .i64 2)).setCell ⟨w1.heap.size, 1, none⟩ (.int .i64 1)).setCell ⟨w1.heap.size, 2, none⟩ (.slice va 1 vc)).setCell ⟨w1.heap.size, 3, none⟩ (.int .i64 1)) w1.heap.size 25 #[.int .i64 2, .int .i64 1, .slice va 1 vc, .int .i64 1]) := mkHid ZR.out.fill4
  replace KB : Hid (Below w.heap.size w ((((w2.setCell ⟨w1.heap.size, 0, none⟩ (.int .i64 2)).setCell ⟨w1.heap.size, 1, none⟩ (.int .i64 1)).setCell ⟨w1.heap.size, 2, none⟩ (.slice va 1 vc)).setCell ⟨w1.heap.size, 3, none⟩ (.int .i64 1))) := mkHid (below_four KB.out SZ _ _ _ _)
  obtain ⟨_, _, eq, _, hR, _⟩ := Reads.of_rowOf RV.out
  cases eq
  have HR := mkHid hR
  clear hR
  clear cZR fZR0 fZR1 fZR2 fZR3 lZR
  have cZR := ZR.out.four
  have fZR0 := ZR.out.frozen 0
  have fZR1 := ZR.out.frozen 1
  have fZR2 := ZR.out.frozen 2
  have fZR3 := ZR.out.frozen 3
  have lZR := ZR.out.lt
  refine (revoke_any E2 _ _ _ HR.out).mono ?_
  rintro e w3 ⟨v2, rfl, ho, hb3⟩
  obtain ⟨vb, vd, rfl⟩ := ho.len
  clear ho
  replace KB := mkHid (KB.out.step hb3)
  replace ZR := mkHid (ZR.out.keep hb3)
  replace HR := mkHid (HR.out.below hb3)
  clear cZR fZR0 fZR1 fZR2 fZR3 lZR
  have cZR := ZR.out.four
  have fZR0 := ZR.out.frozen 0
  have fZR1 := ZR.out.frozen 1
  have fZR2 := ZR.out.frozen 2
  have fZR3 := ZR.out.frozen 3
  have lZR := ZR.out.lt
  clear hb3
  go_wp2_with fail
  have sz3 : w.heap.size ≤ w3.heap.size := KB.out.size
  go_ret
  exact ⟨rfl, KB.out.alloc sz3 _⟩
end Go.Proofs.Ytmehbonjpmlmfaa
