/- The walk of LeafAll: the Go text answers true and writes nothing that was there. -/
import Derived.Test.YtkimbkcghmelgaaGapP
import Derived.Test.YtkimbkcghmelgaaHas
import Derived.Test.YtkimbkcghmelgaaOpenF
namespace Go.Proofs.Ytkimbkcghmelgaa
open Go.RowKit Go.Proofs.YtkimbkcghmelgaaW.PrintWords

set_option maxRecDepth 100000 in
set_option maxHeartbeats 2000000 in
theorem lall_long {h : Int} {s : List Nat} {i : Nat} (A : Option Addr) (cap : Nat) (hl : 60 < s.length) (w : World) :
    Calls Try.prog 11 #[.int .i64 h, .slice A s.length cap, .int .u64 (i : Int)] w fun e w' => e = .returned (.bool true) ∧ Below w.heap.size w w' := by
  have t1 : decide ((60 : Int) < (s.length : Int)) = true := decide_eq_true (by omega)
  go_enter Try.func11, Try.ntmps11
  go_wp2_with fail
  refine (live02 _).mono ?_
  rintro e w1 ⟨rfl, hb1⟩
  have hBN := Below.step (w := w) (by repeat' first | with_reducible exact Below.refl _ _ | with_reducible refine Below.drew ?_ | with_reducible refine below_drewN ?_ _ | with_reducible refine Below.setCell ?_ ?_ _ | with_reducible refine Below.alloc ?_ ?_ _ | (dsimp only; omega) | (simp <;> fail) | (simp; omega)) hb1
  clear hb1
  have HBel := mkHid hBN
  clear hBN
  go_wp2_with fail
  go_ret
  exact ⟨rfl, (by repeat' first | with_reducible exact HBel.out | with_reducible exact Below.refl _ _ | with_reducible refine Below.drew ?_ | with_reducible refine below_drewN ?_ _ | with_reducible refine Below.setCell ?_ ?_ _ | with_reducible refine Below.alloc ?_ ?_ _ | (dsimp only; omega) | (simp <;> fail) | (have := HBel.out.size; simp; omega))⟩

set_option maxRecDepth 100000 in
set_option maxHeartbeats 2000000 in
theorem lall_bad {h : Int} {s : List Nat} {i : Nat} (A : Option Addr) (cap : Nat) (hl : s.length ≤ 60) (H : h < 1 ∨ 32 < h) (w : World) :
    Calls Try.prog 11 #[.int .i64 h, .slice A s.length cap, .int .u64 (i : Int)] w fun e w' => e = .returned (.bool true) ∧ Below w.heap.size w w' := by
  have t1 : decide ((60 : Int) < (s.length : Int)) = false := decide_eq_false (by omega)
  have H' := mkHid H
  clear H
  go_enter Try.func11, Try.ntmps11
  go_wp2_with fail
  refine (live02 _).mono ?_
  rintro e w1 ⟨rfl, hb1⟩
  have hBN := Below.step (w := w) (by repeat' first | with_reducible exact Below.refl _ _ | with_reducible refine Below.drew ?_ | with_reducible refine below_drewN ?_ _ | with_reducible refine Below.setCell ?_ ?_ _ | with_reducible refine Below.alloc ?_ ?_ _ | (dsimp only; omega) | (simp <;> fail) | (simp; omega)) hb1
  clear hb1
  have HBel := mkHid hBN
  clear hBN
  go_wp2_with fail
  refine (gaps_bad H'.out _ _ _ _).mono ?_
  rintro e w2 ⟨rfl, hb2⟩
  have hBN := Below.step (w := w) (by repeat' first | with_reducible exact HBel.out | with_reducible exact Below.refl _ _ | with_reducible refine Below.drew ?_ | with_reducible refine below_drewN ?_ _ | with_reducible refine Below.setCell ?_ ?_ _ | with_reducible refine Below.alloc ?_ ?_ _ | (dsimp only; omega) | (simp <;> fail) | (have := HBel.out.size; simp; omega)) hb2
  clear HBel hb2
  have HBel := mkHid hBN
  clear hBN
  go_wp2_with fail
  go_ret
  exact ⟨rfl, (by repeat' first | with_reducible exact HBel.out | with_reducible exact Below.refl _ _ | with_reducible refine Below.drew ?_ | with_reducible refine below_drewN ?_ _ | with_reducible refine Below.setCell ?_ ?_ _ | with_reducible refine Below.alloc ?_ ?_ _ | (dsimp only; omega) | (simp <;> fail) | (have := HBel.out.size; simp; omega))⟩

set_option maxRecDepth 100000 in
set_option maxHeartbeats 2000000 in
theorem lall_no {h last i : Nat} {s : List Nat} (A : Option Addr) (cap : Nat) (hl : s.length ≤ 60) (h1 : 1 ≤ h) (h2 : h ≤ 32) (hla : Hid (last + 1 = 2 ^ h)) (hs : Hid (¬ SetOk h s)) (w : World) (hA : Reads w A s) :
    Calls Try.prog 11 #[.int .i64 (h : Int), .slice A s.length cap, .int .u64 (i : Int)] w fun e w' => e = .returned (.bool true) ∧ Below w.heap.size w w' := by
  have t1 : decide ((60 : Int) < (s.length : Int)) = false := decide_eq_false (by omega)
  have HA := mkHid hA
  clear hA
  go_enter Try.func11, Try.ntmps11
  go_wp2_with fail
  refine (live02 _).mono ?_
  rintro e w1 ⟨rfl, hb1⟩
  have hBN := Below.step (w := w) (by repeat' first | with_reducible exact Below.refl _ _ | with_reducible refine Below.drew ?_ | with_reducible refine below_drewN ?_ _ | with_reducible refine Below.setCell ?_ ?_ _ | with_reducible refine Below.alloc ?_ ?_ _ | (dsimp only; omega) | (simp <;> fail) | (simp; omega)) hb1
  clear hb1
  have HBel := mkHid hBN
  clear hBN
  go_wp2_with fail
  have HA1 := HA.out.below HBel.out
  refine (gaps_no h1 h2 hla.out hs.out _ _ _ HA1).mono ?_
  rintro e w2 ⟨rfl, hb2⟩
  have hBN := Below.step (w := w) (by repeat' first | with_reducible exact HBel.out | with_reducible exact Below.refl _ _ | with_reducible refine Below.drew ?_ | with_reducible refine below_drewN ?_ _ | with_reducible refine Below.setCell ?_ ?_ _ | with_reducible refine Below.alloc ?_ ?_ _ | (dsimp only; omega) | (simp <;> fail) | (have := HBel.out.size; simp; omega)) hb2
  clear HBel hb2
  have HBel := mkHid hBN
  clear hBN
  go_wp2_with fail
  go_ret
  exact ⟨rfl, (by repeat' first | with_reducible exact HBel.out | with_reducible exact Below.refl _ _ | with_reducible refine Below.drew ?_ | with_reducible refine below_drewN ?_ _ | with_reducible refine Below.setCell ?_ ?_ _ | with_reducible refine Below.alloc ?_ ?_ _ | (dsimp only; omega) | (simp <;> fail) | (have := HBel.out.size; simp; omega))⟩

set_option maxRecDepth 100000 in
set_option maxHeartbeats 4000000 in
theorem lall_walk {h last i : Nat} {s : List Nat} (A : Option Addr) (cap : Nat) (hl : s.length ≤ 60) (h1 : 1 ≤ h) (h2 : h ≤ 32) (hla : Hid (last + 1 = 2 ^ h)) (hs : Hid ( SetOk h s)) (w : World) (hA : Reads w A s) :
    Calls Try.prog 11 #[.int .i64 (h : Int), .slice A s.length cap, .int .u64 (i : Int)] w fun e w' => e = .returned (.bool true) ∧ Below w.heap.size w w' := by
  have t1 : decide ((60 : Int) < (s.length : Int)) = false := decide_eq_false (by omega)
  have HA := mkHid hA
  clear hA
  obtain ⟨m1, m2, m3, m4⟩ := gaps_all hs.out.2 hla.out
  have HG := mkHid (fun w hA => gaps_yes h1 h2 hla.out hs.out A cap w hA)
  have lb := gapsL_length s last
  have hp := pow_le h2
  rw [← hla.out] at hp
  generalize gapsL s last = G at *
  obtain ⟨z, hz⟩ : ∃ z, Hid (sumTo G G.length = z) := ⟨_, mkHid rfl⟩
  have sb := sum_small h2 m1
  rw [hz.out] at m3 sb
  have M1 := mkHid m1
  have M2 := mkHid m2
  have M4 := mkHid m4
  clear m1 m2 m4
  go_enter Try.func11, Try.ntmps11
  go_wp2_with fail
  refine (live02 _).mono ?_
  rintro e w1 ⟨rfl, hb1⟩
  have hBN := Below.step (w := w) (by repeat' first | with_reducible exact Below.refl _ _ | with_reducible refine Below.drew ?_ | with_reducible refine below_drewN ?_ _ | with_reducible refine Below.setCell ?_ ?_ _ | with_reducible refine Below.alloc ?_ ?_ _ | (dsimp only; omega) | (simp <;> fail) | (simp; omega)) hb1
  clear hb1
  have HBel := mkHid hBN
  clear hBN
  go_wp2_with fail
  have HA1 := HA.out.below HBel.out
  refine (HG.out _ HA1).mono ?_
  rintro e w2 ⟨v, rfl, hrow, hb2⟩
  obtain ⟨AG, cG, rfl, hcG, hS⟩ := Spans.of_row hrow
  clear hrow
  have hBN := Below.step (w := w) (by repeat' first | with_reducible exact HBel.out | with_reducible exact Below.refl _ _ | with_reducible refine Below.drew ?_ | with_reducible refine below_drewN ?_ _ | with_reducible refine Below.setCell ?_ ?_ _ | with_reducible refine Below.alloc ?_ ?_ _ | (dsimp only; omega) | (simp <;> fail) | (have := HBel.out.size; simp; omega)) hb2
  have HA2 := HA1.below hb2
  clear HA1
  clear HBel hb2
  have HBel := mkHid hBN
  clear hBN
  go_wp2_with fail
  refine (many_yes h1 h2 M1.out hz _ _ _ hS).mono ?_
  rintro e w3 ⟨rfl, hb3⟩
  have hBN := Below.step (w := w) (by repeat' first | with_reducible exact HBel.out | with_reducible exact Below.refl _ _ | with_reducible refine Below.drew ?_ | with_reducible refine below_drewN ?_ _ | with_reducible refine Below.setCell ?_ ?_ _ | with_reducible refine Below.alloc ?_ ?_ _ | (dsimp only; omega) | (simp <;> fail) | (have := HBel.out.size; simp; omega)) hb3
  have HA3 := HA2.below hb3
  have hS3 := hS.below hb3
  clear HA2 hS
  clear HBel hb3
  have HBel := mkHid hBN
  clear hBN
  go_wp2_with fail
  refine (leaves_root h1 h2 hla.out _).mono ?_
  rintro e w4 ⟨rfl, hb4⟩
  have hBN := Below.step (w := w) (by repeat' first | with_reducible exact HBel.out | with_reducible exact Below.refl _ _ | with_reducible refine Below.drew ?_ | with_reducible refine below_drewN ?_ _ | with_reducible refine Below.setCell ?_ ?_ _ | with_reducible refine Below.alloc ?_ ?_ _ | (dsimp only; omega) | (simp <;> fail) | (have := HBel.out.size; simp; omega)) hb4
  have HA4 := mkHid (HA3.below hb4)
  have HS4 := mkHid (hS3.below hb4)
  clear HA3 hS3
  clear HBel hb4
  have HBel := mkHid hBN
  clear hBN
  have E1 : (z : Int) + (s.length : Int) = (last : Int) + 1 := by omega
  go_wp2_with fail
  have hB5 := mkHid (HBel.out.alloc HBel.out.size (.cells #[.int .u64 0, .int .u64 (last : Int)] 25))
  have bX := Blk.new w4 25 #[.int .u64 0, .int .u64 (last : Int)]
  have hA5 := mkHid (HA4.out.below ((Below.refl _ _).alloc (Nat.le_refl _) (.cells #[.int .u64 0, .int .u64 (last : Int)] 25)))
  have hS5 := mkHid (HS4.out.below ((Below.refl _ _).alloc (Nat.le_refl _) (.cells #[.int .u64 0, .int .u64 (last : Int)] 25)))
  generalize w4.alloc (.cells #[.int .u64 0, .int .u64 (last : Int)] 25) = w5 at *
  generalize w4.heap.size = N at *
  clear HA4 HS4 HBel
  go_loopw [14] (fun i wr => ∃ k : Nat, 1 ≤ k ∧ i = .int .i64 (k : Int) ∧ Hid (Below w.heap.size w wr) ∧ Blk wr N 25 #[.int .u64 0, .int .u64 (last : Int)] ∧ Hid (Spans wr AG G) ∧ Hid (Reads wr A s)) (fun i _ => G.length - (intOf i).toNat)
  case atStart => exact ⟨1, by omega, rfl, hB5, bX, hS5, hA5⟩
  case round =>
    clear hB5 bX hA5 hS5
    obtain ⟨k, hk, rfl, hB, bX, hS, hA⟩ := hrel
    by_cases hlt : k < G.length
    · obtain ⟨b, off, rfl, hcs⟩ := hS.out.addr (by omega)
      have c1 := (hcs k hlt).1
      have c2 := (hcs (k - 1) (by omega)).2
      have m1 := (M1.out (k - 1) (by omega)).2.1
      have m2 := M2.out k (by omega) hlt
      generalize (G.getD k (0, 0)).1 = p at *
      generalize (G.getD (k - 1) (0, 0)).2 = x at *
      rw [← hla.out] at m1
      have tx : decide ((p : Int) ≤ (x : Int) + 1) = false := decide_eq_false (by omega)
      have ex : IntKind.u64.wrap ((x : Int) + 1) = (x : Int) + 1 := by rw [IntKind.wrap_u64]; omega
      have ek : (k : Int) - 1 = ((k - 1 : Nat) : Int) := by omega
      have hk1 : k - 1 < G.length := by omega
      have ew : IntKind.i64.wrap ((k - 1 : Nat) : Int) = ((k - 1 : Nat) : Int) := IntWalk.i64_in _ (by omega)
      clear hcs m1 m2
      generalize k - 1 = k' at *
      go_wp2_with fail
      go_quiet (fail)
      go_wp2_with fail
      go_roundw
      case rel => exact ⟨k + 1, by omega, by go_num, mkHid (below_drewN hB.out _), bX.drewN _, mkHid (hS.out.below (below_drewN (Below.refl _ _) _)), mkHid (hA.out.below (below_drewN (Below.refl _ _) _))⟩
      case measure => simp [intOf]; omega
    · by_cases ti : i ≤ last
      · have hi : i < 2 ^ h := by rw [← hla.out]; omega
        obtain ⟨y, hy⟩ : ∃ y, Hid (decide (i ∈ s) = y) := ⟨_, mkHid rfl⟩
        have HI := mkHid hi
        have cX := bX.two
        clear hi
        go_wp2_with (go_at_call 41; ((with_reducible refine (has_yes h1 h2 hs HI.out hy _ _ _ hA.out).mono ?_); rintro e w' ⟨rfl, hw'⟩; obtain rfl := hw'.symm))
        go_loopw [17, 104] (fun n j wq => ∃ q y2 : Nat, q ≤ G.length ∧ j = .int .i64 (q : Int) ∧ n = .int .i64 (y2 : Int) ∧ Hid (cntTo G i q = y2) ∧ Hid (Below wr.heap.size wr wq)) (fun _ j _ => G.length - (intOf j).toNat)
        case atStart => exact ⟨0, 0, by omega, rfl, rfl, mkHid rfl, mkHid (Below.refl _ _)⟩
        case round =>
          obtain ⟨q, y2, hq, rfl, rfl, hy2, hBq⟩ := hrel
          have hy2b : y2 ≤ q := by rw [← hy2.out]; exact cnt_most G i q
          by_cases hlq : q < G.length
          · obtain ⟨b, off, rfl, hcs⟩ := (hS.out.below hBq.out).addr (by omega)
            obtain ⟨c1, c2⟩ := hcs q hlq
            have hcn := cntTo_succ G i q
            rw [hy2.out] at hcn
            generalize (G.getD q (0, 0)).1 = p at *
            generalize (G.getD q (0, 0)).2 = x at *
            clear hcs
            have HC := mkHid hcn
            clear hcn
            by_cases u1 : p ≤ i
            · have u1' : decide (p ≤ i) = true := decide_eq_true u1
              by_cases u2 : i ≤ x
              · have u2' : decide (i ≤ x) = true := decide_eq_true u2
                go_wp2_with fail
                go_roundw
                case rel => exact ⟨q + 1, y2 + 1, by omega, by go_num, by go_num, mkHid (by rw [HC.out, if_pos ⟨u1, u2⟩]), mkHid (hBq.out.alloc hBq.out.size _)⟩
                case measure => simp [intOf]; omega
              · have u2' : decide (i ≤ x) = false := decide_eq_false u2
                go_wp2_with fail
                go_roundw
                case rel => exact ⟨q + 1, y2, by omega, by go_num, rfl, mkHid (by rw [HC.out, if_neg (fun e => u2 e.2)]; omega), mkHid (hBq.out.alloc hBq.out.size _)⟩
                case measure => simp [intOf]; omega
            · have u1' : decide (p ≤ i) = false := decide_eq_false u1
              go_wp2_with fail
              go_roundw
              case rel => exact ⟨q + 1, y2, by omega, by go_num, rfl, mkHid (by rw [HC.out, if_neg (fun e => u1 e.1)]; omega), mkHid (hBq.out.alloc hBq.out.size _)⟩
              case measure => simp [intOf]; omega
          · have e := M4.out i ti
            rw [show G.length = q by omega, hy2.out] at e
            cases y
            · have ni : ¬ i ∈ s := of_decide_eq_false hy.out
              rw [if_neg ni] at e
              subst e
              go_wp2_with fail
              go_ret
              exact ⟨rfl, hB.out.step hBq.out⟩
            · have ni : i ∈ s := of_decide_eq_true hy.out
              rw [if_pos ni] at e
              subst e
              go_wp2_with fail
              go_ret
              exact ⟨rfl, hB.out.step hBq.out⟩
      · have R : Hid (Refuses (h : Int) s i) := mkHid ⟨fun q => ti (by
          have q3 := q.2.2
          rw [show (h : Int).toNat = h by omega, ← hla.out] at q3
          omega)⟩
        have cX := bX.two
        have t7 : decide (last < i) = true := decide_eq_true (by omega)
        go_wp2_with (go_at_call 41; ((with_reducible refine (has_no R.out _ _ _ hA.out).mono ?_); rintro e w' ⟨rfl, hw'⟩; obtain rfl := hw'.symm))
        go_ret
        exact ⟨by simp, hB.out⟩

theorem walk_LeafAll {w : World} (x : Int) (_hx : (Lit.int .i64 x).wf = true) (A : Option Addr) (s : List Nat) (cap : Nat) (_hcap : s.length ≤ cap) (_hcm : cap ≤ maxLen) (hA : Reads w A s) (_hsb : ∀ j, s.getD j 0 < 18446744073709551616) (i : Int) (hi : (Lit.int .u64 i).wf = true) :
    Calls Try.prog 11 #[.int .i64 x, .slice A s.length cap, .int .u64 i] w fun e w' => e = .returned (.bool true) ∧ Below w.heap.size w w' := by
  obtain ⟨i, rfl, _⟩ := nat_u64 hi
  by_cases hl : s.length ≤ 60
  · by_cases hh : x < 1 ∨ 32 < x
    · exact lall_bad A cap hl hh w
    · obtain ⟨h, rfl⟩ : ∃ k : Nat, x = (k : Int) := ⟨x.toNat, by omega⟩
      have hpos : 0 < 2 ^ h := Nat.pow_pos (by decide)
      obtain ⟨last, hla⟩ : ∃ last, last + 1 = 2 ^ h := ⟨2 ^ h - 1, by omega⟩
      by_cases hs : SetOk h s
      · exact lall_walk A cap hl (by omega) (by omega) (mkHid hla) (mkHid hs) w hA
      · exact lall_no A cap hl (by omega) (by omega) (mkHid hla) (mkHid hs) w hA
  · exact lall_long A cap (by omega) w
end Go.Proofs.Ytkimbkcghmelgaa
