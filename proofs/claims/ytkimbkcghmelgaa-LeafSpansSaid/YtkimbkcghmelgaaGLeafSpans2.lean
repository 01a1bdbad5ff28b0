/- 'medlarlaw02.LeafSpans' returns true for every input, and each argument reads behind the call as it did before it: no condition. -/
import Derived.Test.YtkimbkcghmelgaaGLeafSpans1
namespace Go.Proofs.Ytkimbkcghmelgaa
open Go.RowKit Go.Proofs.YtkimbkcghmelgaaW.PrintWords

set_option maxRecDepth 100000 in
set_option maxHeartbeats 2000000 in
theorem lspans_long1 {h : Int} {n : Nat} {s : List Nat} {l : List (Nat × Nat)} (A : Option Addr) (cap : Nat) (B : Option Addr) (cb : Nat) (hl : 60 < s.length) (w : World) :
    Calls Try.prog 13 #[.int .i64 h, .slice A s.length cap, .int .u64 (n : Int), .slice B l.length cb] w fun e w' => e = .returned (.bool true) ∧ Below w.heap.size w w' := by
  have t1 : decide ((60 : Int) < (s.length : Int)) = true := decide_eq_true (by omega)
  go_enter Try.func13, Try.ntmps13
  go_wp2_with fail
  refine (live02 _).mono ?_
  rintro e w1 ⟨rfl, hb1⟩
  have hBN := Below.step (w := w) (by repeat' first | with_reducible exact Below.refl _ _ | with_reducible refine Below.drew ?_ | with_reducible refine below_drewN ?_ _ | with_reducible refine Below.setCell ?_ ?_ _ | with_reducible refine Below.alloc ?_ ?_ _ | (dsimp only; omega) | (simp <;> fail) | (simp; omega)) hb1
  clear hb1
  have HBel := mkHid hBN
  clear hBN
  go_wp2_with fail
  go_ret
  exact ⟨rfl, (by repeat' first | with_reducible exact HBel.out | with_reducible exact Below.refl _ _ | with_reducible refine Below.drew ?_ | with_reducible refine below_drewN ?_ _ | with_reducible refine Below.setCell ?_ ?_ _ | with_reducible refine Below.alloc ?_ ?_ _ | (dsimp only; omega) | (simp <;> fail) | (have := HBel.out.size; simp; omega))⟩

set_option maxRecDepth 100000 in
set_option maxHeartbeats 2000000 in
theorem lspans_long2 {h : Int} {n : Nat} {s : List Nat} {l : List (Nat × Nat)} (A : Option Addr) (cap : Nat) (B : Option Addr) (cb : Nat) (hs : s.length ≤ 60) (hl : 60 < l.length) (w : World) :
    Calls Try.prog 13 #[.int .i64 h, .slice A s.length cap, .int .u64 (n : Int), .slice B l.length cb] w fun e w' => e = .returned (.bool true) ∧ Below w.heap.size w w' := by
  have t1 : decide ((60 : Int) < (s.length : Int)) = false := decide_eq_false (by omega)
  have t2 : decide ((60 : Int) < (l.length : Int)) = true := decide_eq_true (by omega)
  go_enter Try.func13, Try.ntmps13
  go_wp2_with fail
  refine (live02 _).mono ?_
  rintro e w1 ⟨rfl, hb1⟩
  have hBN := Below.step (w := w) (by repeat' first | with_reducible exact Below.refl _ _ | with_reducible refine Below.drew ?_ | with_reducible refine below_drewN ?_ _ | with_reducible refine Below.setCell ?_ ?_ _ | with_reducible refine Below.alloc ?_ ?_ _ | (dsimp only; omega) | (simp <;> fail) | (simp; omega)) hb1
  clear hb1
  have HBel := mkHid hBN
  clear hBN
  go_wp2_with fail
  go_ret
  exact ⟨rfl, (by repeat' first | with_reducible exact HBel.out | with_reducible exact Below.refl _ _ | with_reducible refine Below.drew ?_ | with_reducible refine below_drewN ?_ _ | with_reducible refine Below.setCell ?_ ?_ _ | with_reducible refine Below.alloc ?_ ?_ _ | (dsimp only; omega) | (simp <;> fail) | (have := HBel.out.size; simp; omega))⟩

set_option maxRecDepth 100000 in
set_option maxHeartbeats 4000000 in
theorem lspans_walk {h : Int} {n : Nat} {s : List Nat} {l : List (Nat × Nat)} (A : Option Addr) (cap : Nat) (B : Option Addr) (cb : Nat) (hs : s.length ≤ 60) (hl : l.length ≤ 60) (hcap : s.length ≤ cap) (hcb : l.length ≤ cb) (hz : A = none → cap = 0) (hn : n < 18446744073709551616) (hsb : ∀ j, s.getD j 0 < 18446744073709551616) (w : World) (hA : Reads w A s) (hB : Spans w B l) :
    Calls Try.prog 13 #[.int .i64 h, .slice A s.length cap, .int .u64 (n : Int), .slice B l.length cb] w fun e w' => e = .returned (.bool true) ∧ Below w.heap.size w w' := by
  have t1 : decide ((60 : Int) < (s.length : Int)) = false := decide_eq_false (by omega)
  have t2 : decide ((60 : Int) < (l.length : Int)) = false := decide_eq_false (by omega)
  obtain ⟨L, r1, hL, P1, Q1⟩ := two_below h n hn s hsb
  obtain ⟨G, r2, hG, P2, Q2⟩ := two_gaps h s hsb
  obtain ⟨z, r3, P3, Q3⟩ := two_many h l (by omega)
  have HA := mkHid hA
  have HB := mkHid hB
  clear hA hB
  go_enter Try.func13, Try.ntmps13
  go_wp2_with fail
  refine (live02 _).mono ?_
  rintro e w1 ⟨rfl, hb1⟩
  have hBN := Below.step (w := w) (by repeat' first | with_reducible exact Below.refl _ _ | with_reducible refine Below.drew ?_ | with_reducible refine below_drewN ?_ _ | with_reducible refine Below.setCell ?_ ?_ _ | with_reducible refine Below.alloc ?_ ?_ _ | (dsimp only; omega) | (simp <;> fail) | (simp; omega)) hb1
  clear hb1
  have HBel := mkHid hBN
  clear hBN
  have HA1 := mkHid (HA.out.below HBel.out)
  have HB1 := mkHid (HB.out.below HBel.out)
  go_wp2_with (at_builtin; refine wpList_append_u64 (by first | rfl | simp [Region.wanted, yielded]) _ _ rfl w1.heap.size _ [] rfl (World.ownsRow_nil _ _ _ _) A cap s rfl HA1.out hz (by simp; omega) (Nat.le_refl _) ?_; intro v2 w2 ho2 hb2; rw [List.nil_append] at ho2)
  obtain ⟨WA, wk, rfl, lW, mW, RW⟩ := Reads.of_row ho2
  clear ho2
  have hBN := Below.step (w := w) (by repeat' first | with_reducible exact HBel.out | with_reducible exact Below.refl _ _ | with_reducible refine Below.drew ?_ | with_reducible refine below_drewN ?_ _ | with_reducible refine Below.setCell ?_ ?_ _ | with_reducible refine Below.alloc ?_ ?_ _ | (dsimp only; omega) | (simp <;> fail) | (have := HBel.out.size; simp; omega)) hb2
  have HA2 := HA1.out.below hb2
  have HB2 := HB1.out.below hb2
  have HAk := mkHid HA2
  have RWk := mkHid RW
  have B2 := mkHid hBN
  clear HA1 HB1
  clear HBel hb2
  have HBel := mkHid hBN
  clear hBN
  refine (P1.out _ _ _ hcap HA2).mono ?_
  rintro e w3 ⟨va, rfl, ho, hb3⟩
  have hBN := Below.step (w := w) (by repeat' first | with_reducible exact HBel.out | with_reducible exact Below.refl _ _ | with_reducible refine Below.drew ?_ | with_reducible refine below_drewN ?_ _ | with_reducible refine Below.setCell ?_ ?_ _ | with_reducible refine Below.alloc ?_ ?_ _ | (dsimp only; omega) | (simp <;> fail) | (have := HBel.out.size; simp; omega)) hb3
  have HA3 := HA2.below hb3
  have HB3 := HB2.below hb3
  have RW3 := RW.below hb3
  have K3 := mkHid hb3
  clear HA2 HB2 RW
  clear HBel hb3
  have HBel := mkHid hBN
  clear hBN
  go_wp2_with fail
  obtain ⟨Ba, ka, rfl, la, Ra, na0, _⟩ := Mine.of_row ho
  have M3 := mkHid na0
  clear ho na0
  refine (Q1.out _ _ _ hcap HA3).mono ?_
  rintro e w4 ⟨Bb, kb, rfl, lb, Rb, hb4⟩
  have hBN := Below.step (w := w) (by repeat' first | with_reducible exact HBel.out | with_reducible exact Below.refl _ _ | with_reducible refine Below.drew ?_ | with_reducible refine below_drewN ?_ _ | with_reducible refine Below.setCell ?_ ?_ _ | with_reducible refine Below.alloc ?_ ?_ _ | (dsimp only; omega) | (simp <;> fail) | (have := HBel.out.size; simp; omega)) hb4
  have HA4 := HA3.below hb4
  have HB4 := HB3.below hb4
  have RW4 := RW3.below hb4
  have Ra4 := Ra.below hb4
  clear HA3 HB3 RW3 Ra
  have K4 := mkHid (K3.out.step hb4)
  have M4 := mkHid (M3.out.below hb4)
  clear K3 M3
  clear HBel hb4
  have HBel := mkHid hBN
  clear hBN
  go_wp2_with fail
  refine (P2.out _ _ _ HA4).mono ?_
  rintro e w5 ⟨Bx, kx, rfl, lx, Sx, hb5⟩
  have hBN := Below.step (w := w) (by repeat' first | with_reducible exact HBel.out | with_reducible exact Below.refl _ _ | with_reducible refine Below.drew ?_ | with_reducible refine below_drewN ?_ _ | with_reducible refine Below.setCell ?_ ?_ _ | with_reducible refine Below.alloc ?_ ?_ _ | (dsimp only; omega) | (simp <;> fail) | (have := HBel.out.size; simp; omega)) hb5
  have HA5 := HA4.below hb5
  have HB5 := HB4.below hb5
  have RW5 := RW4.below hb5
  have Rb5 := Rb.below hb5
  have Ra5 := Ra4.below hb5
  clear HA4 HB4 RW4 Rb Ra4
  have K5 := mkHid (K4.out.step hb5)
  have M5 := mkHid (M4.out.below hb5)
  clear K4 M4
  clear HBel hb5
  have HBel := mkHid hBN
  clear hBN
  go_wp2_with fail
  refine (Q2.out _ _ _ hcap HA5).mono ?_
  rintro e w6 ⟨By, ky, rfl, ly, Sy, hb6⟩
  have hBN := Below.step (w := w) (by repeat' first | with_reducible exact HBel.out | with_reducible exact Below.refl _ _ | with_reducible refine Below.drew ?_ | with_reducible refine below_drewN ?_ _ | with_reducible refine Below.setCell ?_ ?_ _ | with_reducible refine Below.alloc ?_ ?_ _ | (dsimp only; omega) | (simp <;> fail) | (have := HBel.out.size; simp; omega)) hb6
  have HA6 := HA5.below hb6
  have HB6 := HB5.below hb6
  have RW6 := RW5.below hb6
  have Rb6 := Rb5.below hb6
  have Sx6 := Sx.below hb6
  have Ra6 := Ra5.below hb6
  clear HA5 HB5 RW5 Rb5 Sx Ra5
  have K6 := mkHid (K5.out.step hb6)
  have M6 := mkHid (M5.out.below hb6)
  clear K5 M5
  clear HBel hb6
  have HBel := mkHid hBN
  clear hBN
  go_wp2_with fail
  refine (P3.out _ _ _ HB6).mono ?_
  rintro e w7 ⟨rfl, hb7⟩
  have hBN := Below.step (w := w) (by repeat' first | with_reducible exact HBel.out | with_reducible exact Below.refl _ _ | with_reducible refine Below.drew ?_ | with_reducible refine below_drewN ?_ _ | with_reducible refine Below.setCell ?_ ?_ _ | with_reducible refine Below.alloc ?_ ?_ _ | (dsimp only; omega) | (simp <;> fail) | (have := HBel.out.size; simp; omega)) hb7
  have HA7 := HA6.below hb7
  have HB7 := HB6.below hb7
  have RW7 := RW6.below hb7
  have Rb7 := Rb6.below hb7
  have Sx7 := Sx6.below hb7
  have Sy7 := Sy.below hb7
  have Ra7 := Ra6.below hb7
  clear HA6 HB6 RW6 Rb6 Sx6 Sy Ra6
  have K7 := mkHid (K6.out.step hb7)
  have M7 := mkHid (M6.out.below hb7)
  clear K6 M6
  clear HBel hb7
  have HBel := mkHid hBN
  clear hBN
  go_wp2_with fail
  refine (Q3.out _ _ _ hcb HB7).mono ?_
  rintro e w8 ⟨rfl, hb8⟩
  have hBN := Below.step (w := w) (by repeat' first | with_reducible exact HBel.out | with_reducible exact Below.refl _ _ | with_reducible refine Below.drew ?_ | with_reducible refine below_drewN ?_ _ | with_reducible refine Below.setCell ?_ ?_ _ | with_reducible refine Below.alloc ?_ ?_ _ | (dsimp only; omega) | (simp <;> fail) | (have := HBel.out.size; simp; omega)) hb8
  have HA8 := HA7.below hb8
  have RW8 := RW7.below hb8
  have Rb8 := Rb7.below hb8
  have Sx8 := Sx7.below hb8
  have Sy8 := Sy7.below hb8
  have Ra8 := Ra7.below hb8
  clear HA7 HB7 RW7 Rb7 Sx7 Sy7 Ra7
  have K8 := mkHid (K7.out.step hb8)
  have M8 := mkHid (M7.out.below hb8)
  clear K7 M7
  clear HBel hb8
  have HBel := mkHid hBN
  clear hBN
  go_wp2_with fail
  refine (PSame.same_reads (by omega) Ra8 la Rb8 lb).mono ?_
  rintro e w9 ⟨rfl, hb9⟩
  have hBN := Below.step (w := w) (by repeat' first | with_reducible exact HBel.out | with_reducible exact Below.refl _ _ | with_reducible refine Below.drew ?_ | with_reducible refine below_drewN ?_ _ | with_reducible refine Below.setCell ?_ ?_ _ | with_reducible refine Below.alloc ?_ ?_ _ | (dsimp only; omega) | (simp <;> fail) | (have := HBel.out.size; simp; omega)) hb9
  have HA9 := HA8.below hb9
  have RW9 := RW8.below hb9
  have Ra9 := Ra8.below hb9
  have Sx9 := Sx8.below hb9
  have Sy9 := Sy8.below hb9
  clear HA8 RW8 Ra8 Rb8 Sx8 Sy8
  have K9 := mkHid (K8.out.step hb9)
  have M9 := mkHid (M8.out.below hb9)
  clear K8 M8
  clear HBel hb9
  have HBel := mkHid hBN
  clear hBN
  go_wp2_with fail
  refine (PSameSpans.same_spans (by omega) Sx9 lx Sy9 ly).mono ?_
  rintro e w10 ⟨rfl, hb10⟩
  have hBN := Below.step (w := w) (by repeat' first | with_reducible exact HBel.out | with_reducible exact Below.refl _ _ | with_reducible refine Below.drew ?_ | with_reducible refine below_drewN ?_ _ | with_reducible refine Below.setCell ?_ ?_ _ | with_reducible refine Below.alloc ?_ ?_ _ | (dsimp only; omega) | (simp <;> fail) | (have := HBel.out.size; simp; omega)) hb10
  have HA10 := HA9.below hb10
  have RW10 := RW9.below hb10
  have Ra10 := Ra9.below hb10
  clear HA9 RW9 Ra9 Sx9 Sy9
  have K10 := mkHid (K9.out.step hb10)
  have M10 := mkHid (M9.out.below hb10)
  clear K9 M9
  clear HBel hb10
  have HBel := mkHid hBN
  clear hBN
  go_wp2_with fail
  clear HA10 RW10 Ra10
  go_loopw [105] (fun i wr => ∃ k : Nat, k ≤ L.length ∧ i = .int .i64 (k : Int) ∧ Hid (Below w2.heap.size w2 wr) ∧ Hid (Mine wr w2.heap.size Ba L.length)) (fun i _ => L.length - (intOf i).toNat)
  case atStart => exact ⟨0, by omega, rfl, K10, M10⟩
  case round =>
    clear K10 M10 HBel
    obtain ⟨k, hk, rfl, hB, hM⟩ := hrel
    by_cases hlt : k < L.length
    · obtain ⟨gb, rfl, hgb, hc⟩ := hM.out (by omega)
      obtain ⟨⟨y, cy⟩, fy⟩ := hc k hlt
      go_wp2
      go_roundw
      case rel => exact ⟨k + 1, by omega, by go_num, mkHid (hB.out.setCell hgb _), mkHid (hM.out.set k _)⟩
      case measure => simp [intOf]; omega
    · obtain rfl : k = L.length := by omega
      have hAe := HAk.out.below hB.out
      have hWe := RWk.out.below hB.out
      go_wp2_with fail
      refine (PSame.same_reads (by omega) hAe hcap hWe lW).mono ?_
      rintro e we ⟨rfl, hbe⟩
      have hF := mkHid (B2.out.step (hB.out.step hbe))
      clear hbe hAe hWe hB hM
      go_wp2_with fail
      go_ret
      exact ⟨rfl, hF.out⟩
theorem walk_LeafSpans {w : World} (h : Int) (_hx : (Lit.int .i64 h).wf = true) (A : Option Addr) (s : List Nat) (cap : Nat) (hcap : s.length ≤ cap) (_hcm : cap ≤ maxLen) (hA : Reads w A s) (hsb : ∀ j, s.getD j 0 < 18446744073709551616) (hz : A = none → cap = 0) (i : Int) (hi : (Lit.int .u64 i).wf = true) (B : Option Addr) (l : List (Nat × Nat)) (cb : Nat) (hcb : l.length ≤ cb) (_hcm2 : cb ≤ maxLen) (hB : Spans w B l) :
    Calls Try.prog 13 #[.int .i64 h, .slice A s.length cap, .int .u64 i, .slice B l.length cb] w fun e w' => e = .returned (.bool true) ∧ Below w.heap.size w w' := by
  obtain ⟨n, rfl, hn⟩ := nat_u64 hi
  by_cases hs : s.length ≤ 60
  · by_cases hl : l.length ≤ 60
    · exact lspans_walk A cap B cb hs hl hcap hcb hz hn hsb w hA hB
    · exact lspans_long2 A cap B cb hs (by omega) w
  · exact lspans_long1 A cap B cb (by omega) w
end Go.Proofs.Ytkimbkcghmelgaa

namespace Go.Proofs.Ytkimbkcghmelgaa
open Go.ChangeShapes Go.WideShapes Go.ChangeAt Go.RowKit

set_option maxRecDepth 100000 in
theorem LeafSpans_lifted (os : Os) (started : os.Started) (H : Type) (enc : TypeId × Value → H) :
    ReturnsInHanded {} Try.checked os 13 .any (Rows.leafSpansSpec.pre6 enc Try.prog Try.f13 Rows.leafSpansRow.domain false) (Rows.leafSpansSpec.post enc Try.prog Try.f13 false true false false) := by
  refine returnsInHanded_of_change (C := Try.checked) own started (by kernel_rfl) Try.func13
    (ChangeSpec.witness6 (enc := enc) (C := Try.checked) false ⟨#[], #[.int .i64 0, .slice none 0 0, .int .u64 0, .slice none 0 0], []⟩ 8 (by kernel_rfl) (by kernel_rfl) (by kernel_rfl) (by kernel_rfl)) ?_
  intro W base args ds gs before hval0 hW hcnd _
  have hval : ∀ (j : Nat) t v, Try.f13.params[j]? = some t → args[j]? = some v → Value.okWide Try.prog W .any base t v := hval0
  have hW' := hW
  obtain ⟨p, q, hA0, hV, rfl, hfz, hnd⟩ := hW
  have hA : DataW.TrodAll enc Try.prog W 0 (fun _ => true) true Try.f13.params.toList args.toList ds p := hA0
  rw [Try.params13] at hA hval
  obtain ⟨v0, vs0, d0, ds0, p0, q0, hargs, rfl, rfl, h0, r0⟩ := trodAll_cons hA
  obtain ⟨v1, vs1, d1, ds1, p1, q1, rfl, rfl, rfl, h1, r1⟩ := trodAll_cons r0
  obtain ⟨v2, vs2, d2, ds2, p2, q2, rfl, rfl, rfl, h2, r2⟩ := trodAll_cons r1
  obtain ⟨v3, vs3, d3, ds3, p3, q3, rfl, rfl, rfl, h3, r3⟩ := trodAll_cons r2
  obtain ⟨rfl, rfl, rfl⟩ := trodAll_nil r3
  obtain rfl : args = #[v0, v1, v2, v3] := by cases args; simp_all
  obtain ⟨rfl, rfl⟩ := trodVars_none hV
  have k0 := h0
  have lt0 : ∀ x ∈ p0, x.block < W.heap.size := by obtain ⟨m, hm⟩ := k0; exact DataW.trod_lt m _ _ _ hm
  have k1 := h1
  have lt1 : ∀ x ∈ p1, x.block < W.heap.size := by obtain ⟨m, hm⟩ := k1; exact DataW.trod_lt m _ _ _ hm
  have k2 := h2
  have lt2 : ∀ x ∈ p2, x.block < W.heap.size := by obtain ⟨m, hm⟩ := k2; exact DataW.trod_lt m _ _ _ hm
  have k3 := h3
  have lt3 : ∀ x ∈ p3, x.block < W.heap.size := by obtain ⟨m, hm⟩ := k3; exact DataW.trod_lt m _ _ _ hm
  obtain ⟨x0, rfl, _, _, wx0⟩ := open_int Try.underlying3 (hval 0 3 v0 rfl rfl) h0
  obtain ⟨a1, l1, c1, rfl, lc1, mc1, S1, B1, N1⟩ := open_leavesn (hval 1 49 v1 rfl rfl) h1
  obtain ⟨x2, rfl, _, _, wx2⟩ := open_int Try.underlying22 (hval 2 22 v2 rfl rfl) h2
  obtain ⟨a3, l3, c3, rfl, lc3, mc3, S3⟩ := open_spans (hval 3 46 v3 rfl rfl) h3
  clear hA0 hval0
  refine (walk_LeafSpans (w := W) x0 wx0 a1 l1 c1 lc1 mc1 S1 B1 N1 x2 wx2 a3 l3 c3 lc3 mc3 S3).mono fun e W' ⟨he, bel⟩ => ?_
  subst he
  exact ⟨_, rfl, _, _, _, [], _, [], hW', trodAll_mk1 (shut_bool Try.underlying4 _), (trodAll_cons_mk (Below.trod laidOut (by kernel_rfl) (of_decide_eq_true (by kernel_rfl)) k0 bel lt0) (trodAll_cons_mk (Below.trod laidOut (by kernel_rfl) (of_decide_eq_true (by kernel_rfl)) k1 bel lt1) (trodAll_cons_mk (Below.trod laidOut (by kernel_rfl) (of_decide_eq_true (by kernel_rfl)) k2 bel lt2) (trodAll_cons_mk (Below.trod laidOut (by kernel_rfl) (of_decide_eq_true (by kernel_rfl)) k3 bel lt3) trodAll_mk0)))), rfl, bel.frame _, fun h => by cases h⟩

theorem LeafSpans_over : Rows.leafSpansRow.holds Try.pinned (OpenSpec.ofChange Rows.leafSpansSpec) :=
  OpenClaim.holds_of_wide 13 Try.f13 rfl rfl rfl rfl rfl rfl rfl ⟨rfl, rfl, rfl, rfl, rfl⟩ rfl rfl rfl rfl rfl (by kernel_rfl) Try.func13 (by kernel_rfl)
    (of_decide_eq_true (by kernel_rfl)) (by unfold Func.isWrapper; first | (rw [if_pos (by decide +kernel)]; kernel_rfl) | (rw [if_neg (by decide +kernel)]; exact ⟨rfl, rfl⟩))
    (fun os started H enc _ => LeafSpans_lifted os started H enc)

/-- the statement -/
theorem LeafSpans_holds : Rows.LeafSpansSaid := LeafSpans_over
#print axioms LeafSpans_holds
end Go.Proofs.Ytkimbkcghmelgaa
