-- PRINTED BY print.sh 35421559b90ae4d0a3588c463048766b98c2df88dd9212a6774a882060cdf62d: not written by this session
import Derived.Test.YtkimbkcghmelgaaPBelowx0
namespace Go.Proofs.Ytkimbkcghmelgaa.PBelow
open Go.RowKit Go.Proofs.YtkimbkcghmelgaaW.PrintWords Go.Proofs.YtkimbkcghmelgaaW.PrintLast Go.Proofs.YtkimbkcghmelgaaW.PrintMore
attribute [local go_sem] max2_int min2_int max_two min_two max_three min_three max_four min_four   -- for this text's walks alone
set_option linter.unusedVariables false
set_option linter.unusedSimpArgs false

/-! ### medlarref01_power: function 60 -/
def medlarref01_power.l0 : Nat → Int → Int → Int → Option (Int)
  | 0, _, _, _ => none
  | k + 1, x3, x4, x5 => if x5 < x4 then (medlarref01_power.l0 k (IntKind.u64.wrap (2 * x3)) x4 (wrap64 (x5 + 1))) else (some x3)
def medlarref01_power.f (k : Nat) (a0 : Int) : Option (Int) := medlarref01_power.l0 k 1 a0 0
theorem medlarref01_power.mono_l : ∀ k, (∀ y0 y1 y2, LeO (medlarref01_power.l0 k y0 y1 y2) (medlarref01_power.l0 (k + 1) y0 y1 y2))
  | 0 => fun _ _ _ r h => by simp [medlarref01_power.l0] at h
  | k + 1 => by
    have ih0 := medlarref01_power.mono_l k
    · intro y0 y1 y2
      unfold medlarref01_power.l0
      repeat' first
      | (with_reducible exact ih0 _ _ _)
      | (with_reducible exact LeO.refl _)
      | (with_reducible exact LeO.none _)
      | (with_reducible refine LeO.ite ?_ ?_)
      | (with_reducible refine LeO.bind ?_ (fun _ => ?_))
      | exact ih0 _ _ _
      | exact LeO.none _
      | refine LeO.ite ?_ ?_
      | refine LeO.bind ?_ (fun _ => ?_)
theorem medlarref01_power.mono : ∀ a0 k, LeO (medlarref01_power.f k a0) (medlarref01_power.f (k + 1) a0) := by
  intro a0 k
  have ih0 := medlarref01_power.mono_l k
  unfold medlarref01_power.f
  repeat' first
      | (with_reducible exact ih0 _ _ _)
      | (with_reducible exact LeO.refl _)
      | (with_reducible exact LeO.none _)
      | (with_reducible refine LeO.ite ?_ ?_)
      | (with_reducible refine LeO.bind ?_ (fun _ => ?_))
      | exact ih0 _ _ _
      | exact LeO.none _
      | refine LeO.ite ?_ ?_
      | refine LeO.bind ?_ (fun _ => ?_)
set_option maxHeartbeats 8000000 in
set_option maxRecDepth 100000 in
theorem medlarref01_power.calls (k : Nat) (a0 : Int) (r : Int) (w : World) (h : medlarref01_power.f k a0 = some r) :
    Calls Try.prog 60 #[.int .i64 a0] w fun e w' => e = .returned (.int .u64 r) ∧ Drawn0 w w' := by
  have H : (medlarref01_power.l0 k 1 a0 0) = some r := h
  clear h
  have H' := Aside0.mk H
  clear H
  go_enter Try.func60, Try.ntmps60
  go_wp2
  go_loopg [3, 5] k (fun kq v3 v5 w' => ∃ (x3_1 : Int) (x5_1 : Int), v3 = .int .u64 x3_1 ∧ v5 = .int .i64 x5_1 ∧ Aside0 (medlarref01_power.l0 kq x3_1 a0 x5_1 = some r) ∧ Aside0 (kq ≤ k) ∧ Drawn0 w w')
  case atStart => exact ⟨(1), (0), (by first | rfl | (simp; done) | (simp [*]; done)), (by first | rfl | (simp; done) | (simp [*]; done)), H', ⟨Nat.le_refl _⟩, by repeat (first | exact Drawn0.refl _ | apply Drawn0.step)⟩
  case round =>
    clear H'
    obtain ⟨x3_1, x5_1, rfl, rfl, HA, HK1, ⟨m1, rfl⟩⟩ := hrel
    cases gk with
    | zero => exact absurd HA.out (by simp [medlarref01_power.l0])
    | succ k1 =>
      have H := HA.out
      clear HA
      simp only [medlarref01_power.l0] at H
      by_cases c2 : x5_1 < a0
      · rw [if_pos c2] at H
        have c2b0 : decide (x5_1 < a0) = true := decide_eq_true c2
        clear c2
        have H' := Aside0.mk H
        clear H
        go_wp2
        go_roundg k1
        case measure => have := HK1.out; omega
        case rel => exact ⟨(IntKind.u64.wrap (2 * x3_1)), (wrap64 (x5_1 + 1)), (by first | rfl | (simp; done) | (simp [*]; done)), (by first | rfl | (simp; done) | (simp [*]; done)), H', ⟨by have := HK1.out; omega⟩, by repeat (first | exact Drawn0.refl _ | apply Drawn0.step)⟩
      · rw [if_neg c2] at H
        have c2b0 : decide (x5_1 < a0) = false := decide_eq_false c2
        clear c2
        obtain rfl := Option.some.inj H
        go_wp2
        go_ret
        exact ⟨by first | rfl | (simp; done) | (simp [*]; done), by repeat (first | exact Drawn0.refl _ | apply Drawn0.step)⟩

/-! ### medlarref01_May: function 61 -/
def medlarref01_May.f (k : Nat) (a0 : Int) (a1 : Int) : Option (Bool) := if a0 ≥ 1 then (if a0 ≤ 32 then (if a1 ≥ 1 then ((medlarref01_power.f k (wrap64 (a0 + 1))).bind fun t101 => (some (decide (a1 < t101)))) else (some false)) else (some false)) else (some false)
theorem medlarref01_May.mono : ∀ a0 a1 k, LeO (medlarref01_May.f k a0 a1) (medlarref01_May.f (k + 1) a0 a1) := by
  intro a0 a1 k
  unfold medlarref01_May.f
  repeat' first
      | (with_reducible exact medlarref01_power.mono _ _)
      | (with_reducible exact LeO.refl _)
      | (with_reducible exact LeO.none _)
      | (with_reducible refine LeO.ite ?_ ?_)
      | (with_reducible refine LeO.bind ?_ (fun _ => ?_))
      | exact medlarref01_power.mono _ _
      | exact LeO.none _
      | refine LeO.ite ?_ ?_
      | refine LeO.bind ?_ (fun _ => ?_)
set_option maxHeartbeats 8000000 in
set_option maxRecDepth 100000 in
theorem medlarref01_May.calls (k : Nat) (a0 : Int) (a1 : Int) (r : Bool) (w : World) (h : medlarref01_May.f k a0 a1 = some r) :
    Calls Try.prog 61 #[.int .i64 a0, .int .u64 a1] w fun e w' => e = .returned (.bool r) ∧ Drawn0 w w' := by
  have H : (if a0 ≥ 1 then (if a0 ≤ 32 then (if a1 ≥ 1 then ((medlarref01_power.f k (wrap64 (a0 + 1))).bind fun t101 => (some (decide (a1 < t101)))) else (some false)) else (some false)) else (some false)) = some r := h
  clear h
  by_cases c3 : a0 ≥ 1
  · rw [if_pos c3] at H
    have c3b0 : decide (1 ≤ a0) = true := decide_eq_true c3
    clear c3
    by_cases c4 : a0 ≤ 32
    · rw [if_pos c4] at H
      have c4b0 : decide (a0 ≤ 32) = true := decide_eq_true c4
      clear c4
      by_cases c5 : a1 ≥ 1
      · rw [if_pos c5] at H
        have c5b0 : decide (1 ≤ a1) = true := decide_eq_true c5
        clear c5
        replace H := Option.bind_eq_some_iff.mp H
        obtain ⟨t101, A60, H⟩ := H
        replace H : (some (decide (a1 < t101))) = some r := H
        have A6 := Aside0.mk A60
        clear A60
        obtain rfl := Option.some.inj H
        go_enter Try.func61, Try.ntmps61
        go_wp2_with (first | (go_at_call 60; (with_reducible refine (medlarref01_power.calls k (wrap64 (a0 + 1)) t101 _ A6.out).mono ?_); rintro e w' ⟨rfl, ⟨nd, rfl⟩⟩))
        go_ret
        exact ⟨by first | rfl | (simp; done) | (simp [*]; done), by repeat (first | exact Drawn0.refl _ | apply Drawn0.step)⟩
      · rw [if_neg c5] at H
        have c5b0 : decide (1 ≤ a1) = false := decide_eq_false c5
        clear c5
        obtain rfl := Option.some.inj H
        go_enter Try.func61, Try.ntmps61
        go_wp2
        go_ret
        exact ⟨by first | rfl | (simp; done) | (simp [*]; done), by repeat (first | exact Drawn0.refl _ | apply Drawn0.step)⟩
    · rw [if_neg c4] at H
      have c4b0 : decide (a0 ≤ 32) = false := decide_eq_false c4
      clear c4
      obtain rfl := Option.some.inj H
      go_enter Try.func61, Try.ntmps61
      go_wp2
      go_ret
      exact ⟨by first | rfl | (simp; done) | (simp [*]; done), by repeat (first | exact Drawn0.refl _ | apply Drawn0.step)⟩
  · rw [if_neg c3] at H
    have c3b0 : decide (1 ≤ a0) = false := decide_eq_false c3
    clear c3
    obtain rfl := Option.some.inj H
    go_enter Try.func61, Try.ntmps61
    go_wp2
    go_ret
    exact ⟨by first | rfl | (simp; done) | (simp [*]; done), by repeat (first | exact Drawn0.refl _ | apply Drawn0.step)⟩

/-! ### medlarref01_Leaves: function 27 -/
def medlarref01_Leaves.l0 : Nat → Int → Int → Int → Option (Int × Int × Int)
  | 0, _, _, _ => none
  | k + 1, x0, x6, x7 => (medlarref01_power.f k x0).bind fun t104 => (if x6 < t104 then (medlarref01_Leaves.l0 k x0 (IntKind.u64.wrap (2 * x6)) (IntKind.u64.wrap ((IntKind.u64.wrap (2 * x7)) + 1))) else ((medlarref01_power.f k x0).bind fun t105 => ((medlarref01_power.f k x0).bind fun t106 => (some (IntKind.u64.wrap (x6 - t105), IntKind.u64.wrap (x7 - t106), 0)))))
def medlarref01_Leaves.f (k : Nat) (a0 : Int) (a1 : Int) : Option (Int × Int × Int) := (medlarref01_May.f k a0 a1).bind fun t103 => (if t103 = true then (medlarref01_Leaves.l0 k a0 a1 a1) else (some (0, 0, 1)))
theorem medlarref01_Leaves.mono_l : ∀ k, (∀ y0 y1 y2, LeO (medlarref01_Leaves.l0 k y0 y1 y2) (medlarref01_Leaves.l0 (k + 1) y0 y1 y2))
  | 0 => fun _ _ _ r h => by simp [medlarref01_Leaves.l0] at h
  | k + 1 => by
    have ih0 := medlarref01_Leaves.mono_l k
    · intro y0 y1 y2
      unfold medlarref01_Leaves.l0
      repeat' first
      | (with_reducible exact ih0 _ _ _)
      | (with_reducible exact medlarref01_May.mono _ _ _)
      | (with_reducible exact medlarref01_power.mono _ _)
      | (with_reducible exact LeO.refl _)
      | (with_reducible exact LeO.none _)
      | (with_reducible refine LeO.ite ?_ ?_)
      | (with_reducible refine LeO.bind ?_ (fun _ => ?_))
      | exact ih0 _ _ _
      | exact medlarref01_May.mono _ _ _
      | exact medlarref01_power.mono _ _
      | exact LeO.none _
      | refine LeO.ite ?_ ?_
      | refine LeO.bind ?_ (fun _ => ?_)
theorem medlarref01_Leaves.mono : ∀ a0 a1 k, LeO (medlarref01_Leaves.f k a0 a1) (medlarref01_Leaves.f (k + 1) a0 a1) := by
  intro a0 a1 k
  have ih0 := medlarref01_Leaves.mono_l k
  unfold medlarref01_Leaves.f
  repeat' first
      | (with_reducible exact ih0 _ _ _)
      | (with_reducible exact medlarref01_May.mono _ _ _)
      | (with_reducible exact medlarref01_power.mono _ _)
      | (with_reducible exact LeO.refl _)
      | (with_reducible exact LeO.none _)
      | (with_reducible refine LeO.ite ?_ ?_)
      | (with_reducible refine LeO.bind ?_ (fun _ => ?_))
      | exact ih0 _ _ _
      | exact medlarref01_May.mono _ _ _
      | exact medlarref01_power.mono _ _
      | exact LeO.none _
      | refine LeO.ite ?_ ?_
      | refine LeO.bind ?_ (fun _ => ?_)
set_option maxHeartbeats 8000000 in
set_option maxRecDepth 100000 in
theorem medlarref01_Leaves.calls (k : Nat) (a0 : Int) (a1 : Int) (r1 : Int) (r2 : Int) (r3 : Int) (w : World) (h : medlarref01_Leaves.f k a0 a1 = some (r1, r2, r3)) :
    Calls Try.prog 27 #[.int .i64 a0, .int .u64 a1] w fun e w' => e = .returned (.tuple #[.agg #[.int .u64 r1, .int .u64 r2], .int .i64 r3]) ∧ Below w.heap.size w w' := by
  have hu25 := Try.underlying25
  have HB := Aside0.mk (Below.refl w.heap.size w)
  have H : ((medlarref01_May.f k a0 a1).bind fun t103 => (if t103 = true then (medlarref01_Leaves.l0 k a0 a1 a1) else (some (0, 0, 1)))) = some (r1, r2, r3) := h
  clear h
  replace H := Option.bind_eq_some_iff.mp H
  obtain ⟨t103, A30, H⟩ := H
  replace H : (if t103 = true then (medlarref01_Leaves.l0 k a0 a1 a1) else (some (0, 0, 1))) = some (r1, r2, r3) := H
  have A3 := Aside0.mk A30
  clear A30
  by_cases c4 : t103 = true
  · subst c4
    have H1 : (medlarref01_Leaves.l0 k a0 a1 a1) = some (r1, r2, r3) := by rw [if_pos rfl] at H; exact H
    clear H
    have H := H1
    clear H1
    have H' := Aside0.mk H
    clear H
    go_enter Try.func27, Try.ntmps27
    go_wp2_with (first | ((with_reducible refine gate_dst (N := 4) rfl ?_); refine box_event ?hg (N := 4) ?hd (cs := #[.int .u64 0, .int .u64 0]) (t := 25) ?hr ?_; (case hd => rfl); (case hg => rfl); (case hr => first | (go_simp; done) | (go_simp; rfl)); intro gb102 hg w5 hbox hb; have n0_ := Aside0.mk (below_step (by repeat (first | (with_reducible first | exact HB.out | apply below_alloc | apply pw_below_drewN | apply below_drew1) | exact HB.out)) hb); have n1_ := Aside0.mk (hbox); have n2_ := Aside0.mk ((by rw [hg]; exact (below_size (by repeat (first | (with_reducible first | exact HB.out | apply below_alloc | apply pw_below_drewN | apply below_drew1) | exact HB.out))) : w.heap.size ≤ gb102)); have n3_ := Aside0.mk ((by rw [hg]; exact (below_size (by repeat (first | (with_reducible first | exact HB.out | apply below_alloc | apply pw_below_drewN | apply below_drew1) | exact HB.out))) : w.heap.size ≤ gb102)); clear HB; have HB := n0_; have BK102 := n1_; have GW102 := n2_; have GE102 := n3_; clear n0_ n1_ n2_ n3_; clear hb hbox hg) | ((with_reducible refine gate_callee (f := 61) rfl ?_); refine goesL_ (some 10) rfl rfl Try.func61 (by kernel_rfl) rfl #[.int .i64 a0, .int .u64 a1] rfl (by (try simp only [List.map_toArray, List.map_cons, List.map_nil]); first | done | rfl | (simp only [List.length_drop, List.length_take]; rfl)) ?_; (with_reducible refine (medlarref01_May.calls k a0 a1 true _ A3.out).mono ?_); rintro e w' ⟨rfl, ⟨nd, rfl⟩⟩; refine ⟨_, rfl, ?_⟩))
    go_loopg [6, 7] k (fun kq v6 v7 w' => ∃ (x6_1 : Int) (x7_1 : Int), v6 = .int .u64 x6_1 ∧ v7 = .int .u64 x7_1 ∧ Aside0 (medlarref01_Leaves.l0 kq a0 x6_1 x7_1 = some (r1, r2, r3)) ∧ Aside0 (kq ≤ k) ∧ Aside0 (w'.heap[gb102]? = some (.cells #[.int .u64 0, .int .u64 0] 25 (0, 0))) ∧ Aside0 (Below w.heap.size w w'))
    case atStart => exact ⟨(a1), (a1), (by first | rfl | (simp; done) | (simp [*]; done)), (by first | rfl | (simp; done) | (simp [*]; done)), H', ⟨Nat.le_refl _⟩, ⟨by (with_reducible repeat (first | refine blk_drewN ?_ _ | refine blk_drew ?_ | refine blk_alloc ?_ _)); exact BK102.out⟩, ⟨by repeat (first | (with_reducible first | exact HB.out | apply below_alloc | apply pw_below_drewN | apply below_drew1 | refine below_set ?_ GE102.out) | exact HB.out)⟩⟩
    case round =>
      clear H'
      try clear c2
      try clear p2
      try clear c4
      obtain ⟨x6_1, x7_1, rfl, rfl, HA, HK1, BK102, HB⟩ := hrel
      cases gk with
      | zero => exact absurd HA.out (by simp [medlarref01_Leaves.l0])
      | succ k1 =>
        have H := HA.out
        clear HA
        simp only [medlarref01_Leaves.l0] at H
        replace H := Option.bind_eq_some_iff.mp H
        obtain ⟨t104, A60, H⟩ := H
        replace H : (if x6_1 < t104 then (medlarref01_Leaves.l0 k1 a0 (IntKind.u64.wrap (2 * x6_1)) (IntKind.u64.wrap ((IntKind.u64.wrap (2 * x7_1)) + 1))) else ((medlarref01_power.f k1 a0).bind fun t105 => ((medlarref01_power.f k1 a0).bind fun t106 => (some (IntKind.u64.wrap (x6_1 - t105), IntKind.u64.wrap (x7_1 - t106), 0))))) = some (r1, r2, r3) := H
        have A6 := Aside0.mk A60
        clear A60
        by_cases c7 : x6_1 < t104
        · rw [if_pos c7] at H
          have c7b0 : decide (x6_1 < t104) = true := decide_eq_true c7
          clear c7
          have H' := Aside0.mk H
          clear H
          go_wp2_with (first | ((with_reducible refine gate_callee (f := 60) rfl ?_); refine goesL_ (some 17) rfl rfl Try.func60 (by kernel_rfl) rfl #[.int .i64 a0] rfl (by (try simp only [List.map_toArray, List.map_cons, List.map_nil]); first | done | rfl | (simp only [List.length_drop, List.length_take]; rfl)) ?_; (with_reducible refine (medlarref01_power.calls k1 a0 t104 _ A6.out).mono ?_); rintro e w' ⟨rfl, ⟨nd, rfl⟩⟩; refine ⟨_, rfl, ?_⟩))
          go_roundg k1
          case measure => have := HK1.out; omega
          case rel => exact ⟨(IntKind.u64.wrap (2 * x6_1)), (IntKind.u64.wrap ((IntKind.u64.wrap (2 * x7_1)) + 1)), (by first | rfl | (simp; done) | (simp [*]; done)), (by first | rfl | (simp; done) | (simp [*]; done)), H', ⟨by have := HK1.out; omega⟩, ⟨by (with_reducible repeat (first | refine blk_drewN ?_ _ | refine blk_drew ?_ | refine blk_alloc ?_ _)); exact BK102.out⟩, ⟨by repeat (first | (with_reducible first | exact HB.out | apply below_alloc | apply pw_below_drewN | apply below_drew1 | refine below_set ?_ GE102.out) | exact HB.out)⟩⟩
        · rw [if_neg c7] at H
          have c7b0 : decide (x6_1 < t104) = false := decide_eq_false c7
          clear c7
          replace H := Option.bind_eq_some_iff.mp H
          obtain ⟨t105, A80, H⟩ := H
          replace H : ((medlarref01_power.f k1 a0).bind fun t106 => (some (IntKind.u64.wrap (x6_1 - t105), IntKind.u64.wrap (x7_1 - t106), 0))) = some (r1, r2, r3) := H
          have A8 := Aside0.mk A80
          clear A80
          replace H := Option.bind_eq_some_iff.mp H
          obtain ⟨t106, A90, H⟩ := H
          replace H : (some (IntKind.u64.wrap (x6_1 - t105), IntKind.u64.wrap (x7_1 - t106), 0)) = some (r1, r2, r3) := H
          have A9 := Aside0.mk A90
          clear A90
          simp only [Option.some.injEq, Prod.mk.injEq] at H
          obtain ⟨rfl, rfl, rfl⟩ := H
          go_wp2_with (first | ((with_reducible refine gate_callee (f := 60) rfl ?_); refine goesL_ (some 17) rfl rfl Try.func60 (by kernel_rfl) rfl #[.int .i64 a0] rfl (by (try simp only [List.map_toArray, List.map_cons, List.map_nil]); first | done | rfl | (simp only [List.length_drop, List.length_take]; rfl)) ?_; (with_reducible refine (medlarref01_power.calls k1 a0 t104 _ A6.out).mono ?_); rintro e w' ⟨rfl, ⟨nd, rfl⟩⟩; refine ⟨_, rfl, ?_⟩; (try (rw [drewN_self wr]; generalize hq_ : World.drewN wr _ = wr; have n0_ : Aside0 (wr.heap[gb102]? = some (.cells #[.int .u64 0, .int .u64 0] 25 (0, 0))) := ⟨by rw [← hq_]; exact (by (with_reducible repeat (first | refine blk_drewN ?_ _ | refine blk_drew ?_ | refine blk_alloc ?_ _)); exact BK102.out)⟩; have n1_ : Aside0 (Below w.heap.size w wr) := ⟨by rw [← hq_]; exact (by repeat (first | (with_reducible first | exact HB.out | apply below_alloc | apply pw_below_drewN | apply below_drew1 | refine below_set ?_ GE102.out) | exact HB.out))⟩; clear BK102 HB hq_; have BK102 := n0_; have HB := n1_; clear n0_ n1_))) | ((with_reducible refine gate_callee (f := 60) rfl ?_); refine goesL_ (some 26) rfl rfl Try.func60 (by kernel_rfl) rfl #[.int .i64 a0] rfl (by (try simp only [List.map_toArray, List.map_cons, List.map_nil]); first | done | rfl | (simp only [List.length_drop, List.length_take]; rfl)) ?_; (with_reducible refine (medlarref01_power.calls k1 a0 t105 _ A8.out).mono ?_); rintro e w' ⟨rfl, ⟨nd, rfl⟩⟩; refine ⟨_, rfl, ?_⟩; (try (rw [drewN_self wr]; generalize hq_ : World.drewN wr _ = wr; have n0_ : Aside0 (wr.heap[gb102]? = some (.cells #[.int .u64 0, .int .u64 0] 25 (0, 0))) := ⟨by rw [← hq_]; exact (by (with_reducible repeat (first | refine blk_drewN ?_ _ | refine blk_drew ?_ | refine blk_alloc ?_ _)); exact BK102.out)⟩; have n1_ : Aside0 (Below w.heap.size w wr) := ⟨by rw [← hq_]; exact (by repeat (first | (with_reducible first | exact HB.out | apply below_alloc | apply pw_below_drewN | apply below_drew1 | refine below_set ?_ GE102.out) | exact HB.out))⟩; clear BK102 HB hq_; have BK102 := n0_; have HB := n1_; clear n0_ n1_))) | ((with_reducible refine gate_callee (f := 60) rfl ?_); refine goesL_ (some 30) rfl rfl Try.func60 (by kernel_rfl) rfl #[.int .i64 a0] rfl (by (try simp only [List.map_toArray, List.map_cons, List.map_nil]); first | done | rfl | (simp only [List.length_drop, List.length_take]; rfl)) ?_; (with_reducible refine (medlarref01_power.calls k1 a0 t106 _ A9.out).mono ?_); rintro e w' ⟨rfl, ⟨nd, rfl⟩⟩; refine ⟨_, rfl, ?_⟩; (try (rw [drewN_self wr]; generalize hq_ : World.drewN wr _ = wr; have n0_ : Aside0 (wr.heap[gb102]? = some (.cells #[.int .u64 0, .int .u64 0] 25 (0, 0))) := ⟨by rw [← hq_]; exact (by (with_reducible repeat (first | refine blk_drewN ?_ _ | refine blk_drew ?_ | refine blk_alloc ?_ _)); exact BK102.out)⟩; have n1_ : Aside0 (Below w.heap.size w wr) := ⟨by rw [← hq_]; exact (by repeat (first | (with_reducible first | exact HB.out | apply below_alloc | apply pw_below_drewN | apply below_drew1 | refine below_set ?_ GE102.out) | exact HB.out))⟩; clear BK102 HB hq_; have BK102 := n0_; have HB := n1_; clear n0_ n1_)); have hcz10_0 : wr.cell? ⟨gb102, 0, none⟩ = some (.int .u64 0) := (blk_cell BK102.out 0).trans rfl; have hcz10_1 : wr.cell? ⟨gb102, 1, none⟩ = some (.int .u64 0) := (blk_cell BK102.out 1).trans rfl; have hfz10_0 := blk_frozen BK102.out 0; have hfz10_1 := blk_frozen BK102.out 1))
          refine bodyPost_ret (results_ct rfl _ _ gb102 25 #[.int .u64 (IntKind.u64.wrap (x6_1 - t105)), .int .u64 (IntKind.u64.wrap (x7_1 - t106))] (0, 0) _ rfl (by (with_reducible repeat (first | refine blk_drewN ?_ _ | refine blk_drew ?_ | refine blk_alloc ?_ _)); refine blk_put (cs := #[.int .u64 (IntKind.u64.wrap (x6_1 - t105)), .int .u64 0]) ?_ 1 _ rfl; (with_reducible repeat (first | refine blk_drewN ?_ _ | refine blk_drew ?_ | refine blk_alloc ?_ _)); refine blk_put (cs := #[.int .u64 0, .int .u64 0]) ?_ 0 _ rfl; (with_reducible repeat (first | refine blk_drewN ?_ _ | refine blk_drew ?_ | refine blk_alloc ?_ _)); exact BK102.out) Try.underlying25 rfl (by kernel_rfl)) rfl ?_
          exact ⟨by first | rfl | (simp [errW_none, errW_some] <;> rfl) | (simp [*, errW_none, errW_some] <;> rfl), by repeat (first | (with_reducible first | exact HB.out | apply below_alloc | apply pw_below_drewN | apply below_drew1 | refine below_set ?_ GE102.out) | exact HB.out)⟩
  · replace c4 := Bool.eq_false_iff.mpr c4
    subst c4
    have H1 : (some (0, 0, 1)) = some (r1, r2, r3) := by rw [if_neg (show ¬ (false = true) by decide)] at H; exact H
    clear H
    have H := H1
    clear H1
    simp only [Option.some.injEq, Prod.mk.injEq] at H
    obtain ⟨rfl, rfl, rfl⟩ := H
    go_enter Try.func27, Try.ntmps27
    go_wp2_with (first | ((with_reducible refine gate_dst (N := 4) rfl ?_); refine box_event ?hg (N := 4) ?hd (cs := #[.int .u64 0, .int .u64 0]) (t := 25) ?hr ?_; (case hd => rfl); (case hg => rfl); (case hr => first | (go_simp; done) | (go_simp; rfl)); intro gb102 hg w11 hbox hb; have n0_ := Aside0.mk (below_step (by repeat (first | (with_reducible first | exact HB.out | apply below_alloc | apply pw_below_drewN | apply below_drew1) | exact HB.out)) hb); have n1_ := Aside0.mk (hbox); have n2_ := Aside0.mk ((by rw [hg]; exact (below_size (by repeat (first | (with_reducible first | exact HB.out | apply below_alloc | apply pw_below_drewN | apply below_drew1) | exact HB.out))) : w.heap.size ≤ gb102)); have n3_ := Aside0.mk ((by rw [hg]; exact (below_size (by repeat (first | (with_reducible first | exact HB.out | apply below_alloc | apply pw_below_drewN | apply below_drew1) | exact HB.out))) : w.heap.size ≤ gb102)); clear HB; have HB := n0_; have BK102 := n1_; have GW102 := n2_; have GE102 := n3_; clear n0_ n1_ n2_ n3_; clear hb hbox hg) | ((with_reducible refine gate_callee (f := 61) rfl ?_); refine goesL_ (some 10) rfl rfl Try.func61 (by kernel_rfl) rfl #[.int .i64 a0, .int .u64 a1] rfl (by (try simp only [List.map_toArray, List.map_cons, List.map_nil]); first | done | rfl | (simp only [List.length_drop, List.length_take]; rfl)) ?_; (with_reducible refine (medlarref01_May.calls k a0 a1 false _ A3.out).mono ?_); rintro e w' ⟨rfl, ⟨nd, rfl⟩⟩; refine ⟨_, rfl, ?_⟩; (try (rw [drewN_self w11]; generalize hq_ : World.drewN w11 _ = w11; have n0_ : Aside0 (w11.heap[gb102]? = some (.cells #[.int .u64 0, .int .u64 0] 25 (0, 0))) := ⟨by rw [← hq_]; exact (by (with_reducible repeat (first | refine blk_drewN ?_ _ | refine blk_drew ?_ | refine blk_alloc ?_ _)); exact BK102.out)⟩; have n1_ : Aside0 (Below w.heap.size w w11) := ⟨by rw [← hq_]; exact (by repeat (first | (with_reducible first | exact HB.out | apply below_alloc | apply pw_below_drewN | apply below_drew1 | refine below_set ?_ GE102.out) | exact HB.out))⟩; clear BK102 HB hq_; have BK102 := n0_; have HB := n1_; clear n0_ n1_)); have hcz12_0 : w11.cell? ⟨gb102, 0, none⟩ = some (.int .u64 0) := (blk_cell BK102.out 0).trans rfl; have hcz12_1 : w11.cell? ⟨gb102, 1, none⟩ = some (.int .u64 0) := (blk_cell BK102.out 1).trans rfl; have hfz12_0 := blk_frozen BK102.out 0; have hfz12_1 := blk_frozen BK102.out 1))
    refine bodyPost_ret (results_ct rfl _ _ gb102 25 #[.int .u64 0, .int .u64 0] (0, 0) _ rfl (by (with_reducible repeat (first | refine blk_drewN ?_ _ | refine blk_drew ?_ | refine blk_alloc ?_ _)); refine blk_put (cs := #[.int .u64 0, .int .u64 0]) ?_ 1 _ rfl; (with_reducible repeat (first | refine blk_drewN ?_ _ | refine blk_drew ?_ | refine blk_alloc ?_ _)); refine blk_put (cs := #[.int .u64 0, .int .u64 0]) ?_ 0 _ rfl; (with_reducible repeat (first | refine blk_drewN ?_ _ | refine blk_drew ?_ | refine blk_alloc ?_ _)); exact BK102.out) Try.underlying25 rfl (by kernel_rfl)) rfl ?_
    exact ⟨by first | rfl | (simp [errW_none, errW_some] <;> rfl) | (simp [*, errW_none, errW_some] <;> rfl), by repeat (first | (with_reducible first | exact HB.out | apply below_alloc | apply pw_below_drewN | apply below_drew1 | refine below_set ?_ GE102.out) | exact HB.out)⟩

/-! ### medlarref01_Check: function 29 -/
def medlarref01_Check.f (k : Nat) (a0 : Int) (a1 : Int) : Option (Int) := (medlarref01_May.f k a0 a1).bind fun t107 => (if t107 = true then (some 0) else (some 1))
theorem medlarref01_Check.mono : ∀ a0 a1 k, LeO (medlarref01_Check.f k a0 a1) (medlarref01_Check.f (k + 1) a0 a1) := by
  intro a0 a1 k
  unfold medlarref01_Check.f
  repeat' first
      | (with_reducible exact medlarref01_May.mono _ _ _)
      | (with_reducible exact LeO.refl _)
      | (with_reducible exact LeO.none _)
      | (with_reducible refine LeO.ite ?_ ?_)
      | (with_reducible refine LeO.bind ?_ (fun _ => ?_))
      | exact medlarref01_May.mono _ _ _
      | exact LeO.none _
      | refine LeO.ite ?_ ?_
      | refine LeO.bind ?_ (fun _ => ?_)
set_option maxHeartbeats 8000000 in
set_option maxRecDepth 100000 in
theorem medlarref01_Check.calls (k : Nat) (a0 : Int) (a1 : Int) (r : Int) (w : World) (h : medlarref01_Check.f k a0 a1 = some r) :
    Calls Try.prog 29 #[.int .i64 a0, .int .u64 a1] w fun e w' => e = .returned (.int .i64 r) ∧ Drawn0 w w' := by
  have H : ((medlarref01_May.f k a0 a1).bind fun t107 => (if t107 = true then (some 0) else (some 1))) = some r := h
  clear h
  replace H := Option.bind_eq_some_iff.mp H
  obtain ⟨t107, A30, H⟩ := H
  replace H : (if t107 = true then (some 0) else (some 1)) = some r := H
  have A3 := Aside0.mk A30
  clear A30
  by_cases c4 : t107 = true
  · subst c4
    have H1 : (some 0) = some r := by rw [if_pos rfl] at H; exact H
    clear H
    have H := H1
    clear H1
    obtain rfl := Option.some.inj H
    go_enter Try.func29, Try.ntmps29
    go_wp2_with (first | ((with_reducible refine gate_callee (f := 61) rfl ?_); refine goesL_ (some 7) rfl rfl Try.func61 (by kernel_rfl) rfl #[.int .i64 a0, .int .u64 a1] rfl (by (try simp only [List.map_toArray, List.map_cons, List.map_nil]); first | done | rfl | (simp only [List.length_drop, List.length_take]; rfl)) ?_; (with_reducible refine (medlarref01_May.calls k a0 a1 true _ A3.out).mono ?_); rintro e w' ⟨rfl, ⟨nd, rfl⟩⟩; refine ⟨_, rfl, ?_⟩))
    go_ret
    exact ⟨by first | rfl | (simp; done) | (simp [*]; done), by repeat (first | exact Drawn0.refl _ | apply Drawn0.step)⟩
  · replace c4 := Bool.eq_false_iff.mpr c4
    subst c4
    have H1 : (some 1) = some r := by rw [if_neg (show ¬ (false = true) by decide)] at H; exact H
    clear H
    have H := H1
    clear H1
    obtain rfl := Option.some.inj H
    go_enter Try.func29, Try.ntmps29
    go_wp2_with (first | ((with_reducible refine gate_callee (f := 61) rfl ?_); refine goesL_ (some 7) rfl rfl Try.func61 (by kernel_rfl) rfl #[.int .i64 a0, .int .u64 a1] rfl (by (try simp only [List.map_toArray, List.map_cons, List.map_nil]); first | done | rfl | (simp only [List.length_drop, List.length_take]; rfl)) ?_; (with_reducible refine (medlarref01_May.calls k a0 a1 false _ A3.out).mono ?_); rintro e w' ⟨rfl, ⟨nd, rfl⟩⟩; refine ⟨_, rfl, ?_⟩))
    go_ret
    exact ⟨by first | rfl | (simp; done) | (simp [*]; done), by repeat (first | exact Drawn0.refl _ | apply Drawn0.step)⟩

/-! ### medlarref01_Leaf: function 22 -/
def medlarref01_Leaf.j0 : Nat → Int → Int → Bool → Option (Int × Int)
  | 0, _, _, _ => none
  | k + 1, x0, x1, x11 => if x11 = true then (some (0, 1)) else ((medlarref01_power.f k x0).bind fun t108 => (if x1 ≥ t108 then (some (0, 4)) else ((medlarref01_power.f k x0).bind fun t109 => (some (IntKind.u64.wrap (t109 + x1), 0)))))
def medlarref01_Leaf.f (k : Nat) (a0 : Int) (a1 : Int) : Option (Int × Int) := if a0 < 1 then (medlarref01_Leaf.j0 k a0 a1 true) else (medlarref01_Leaf.j0 k a0 a1 (decide (a0 > 32)))
theorem medlarref01_Leaf.mono_l : ∀ k, (∀ y0 y1 y2, LeO (medlarref01_Leaf.j0 k y0 y1 y2) (medlarref01_Leaf.j0 (k + 1) y0 y1 y2))
  | 0 => fun _ _ _ r h => by simp [medlarref01_Leaf.j0] at h
  | k + 1 => by
    have ih0 := medlarref01_Leaf.mono_l k
    · intro y0 y1 y2
      unfold medlarref01_Leaf.j0
      repeat' first
      | (with_reducible exact ih0 _ _ _)
      | (with_reducible exact medlarref01_power.mono _ _)
      | (with_reducible exact LeO.refl _)
      | (with_reducible exact LeO.none _)
      | (with_reducible refine LeO.ite ?_ ?_)
      | (with_reducible refine LeO.bind ?_ (fun _ => ?_))
      | exact ih0 _ _ _
      | exact medlarref01_power.mono _ _
      | exact LeO.none _
      | refine LeO.ite ?_ ?_
      | refine LeO.bind ?_ (fun _ => ?_)
theorem medlarref01_Leaf.mono : ∀ a0 a1 k, LeO (medlarref01_Leaf.f k a0 a1) (medlarref01_Leaf.f (k + 1) a0 a1) := by
  intro a0 a1 k
  have ih0 := medlarref01_Leaf.mono_l k
  unfold medlarref01_Leaf.f
  repeat' first
      | (with_reducible exact ih0 _ _ _)
      | (with_reducible exact medlarref01_power.mono _ _)
      | (with_reducible exact LeO.refl _)
      | (with_reducible exact LeO.none _)
      | (with_reducible refine LeO.ite ?_ ?_)
      | (with_reducible refine LeO.bind ?_ (fun _ => ?_))
      | exact ih0 _ _ _
      | exact medlarref01_power.mono _ _
      | exact LeO.none _
      | refine LeO.ite ?_ ?_
      | refine LeO.bind ?_ (fun _ => ?_)
set_option maxHeartbeats 8000000 in
set_option maxRecDepth 100000 in
theorem medlarref01_Leaf.calls (k : Nat) (a0 : Int) (a1 : Int) (r1 : Int) (r2 : Int) (w : World) (h : medlarref01_Leaf.f k a0 a1 = some (r1, r2)) :
    Calls Try.prog 22 #[.int .i64 a0, .int .u64 a1] w fun e w' => e = .returned (.tuple #[.int .u64 r1, .int .i64 r2]) ∧ Drawn0 w w' := by
  have H : (if a0 < 1 then (medlarref01_Leaf.j0 k a0 a1 true) else (medlarref01_Leaf.j0 k a0 a1 (decide (a0 > 32)))) = some (r1, r2) := h
  clear h
  have HC3 := Aside0.mk H
  clear H
  go_enter Try.func22, Try.ntmps22
  go_upto_region 1 with (fail)
  go_cut [11] (fun v11 wc => ∃ (kq : Nat) (x11_2 : Bool), v11 = .bool x11_2 ∧ Aside0 (medlarref01_Leaf.j0 kq a0 a1 x11_2 = some (r1, r2)) ∧ Aside0 (kq ≤ k) ∧ Drawn0 w wc)
  case first =>
    have H := HC3.out
    clear HC3
    by_cases c4 : a0 < 1
    · rw [if_pos c4] at H
      have c4b0 : decide (a0 < 1) = true := decide_eq_true c4
      clear c4
      (first | rw [c4b0] | (simp only [i64_w, i32_w]; rw [c4b0]) | skip)
      have H' := Aside0.mk H
      clear H
      go_wp2
      go_meet
      case rel => exact ⟨_, (true), (by first | rfl | (simp; done) | (simp [*]; done)), H', ⟨by first | omega | exact Nat.le_refl _⟩, by repeat (first | exact Drawn0.refl _ | apply Drawn0.step)⟩
    · rw [if_neg c4] at H
      have c4b0 : decide (a0 < 1) = false := decide_eq_false c4
      clear c4
      (first | rw [c4b0] | (simp only [i64_w, i32_w]; rw [c4b0]) | skip)
      have H' := Aside0.mk H
      clear H
      go_wp2
      go_meet
      case rel => exact ⟨_, (decide (a0 > 32)), (by first | rfl | (simp; done) | (simp [*]; done)), H', ⟨by first | omega | exact Nat.le_refl _⟩, by repeat (first | exact Drawn0.refl _ | apply Drawn0.step)⟩
  case rest =>
    clear HC3
    try clear c2
    try clear p2
    try clear c4
    try clear c4b0
    obtain ⟨kq, x11_2, rfl, HA, HJ2, ⟨mc2, rfl⟩⟩ := hcut
    cases kq with
    | zero => exact absurd HA.out (by simp [medlarref01_Leaf.j0])
    | succ kj2 =>
      have H := HA.out
      clear HA
      simp only [medlarref01_Leaf.j0] at H
      by_cases c5 : x11_2 = true
      · subst c5
        have H1 : (some (0, 1)) = some (r1, r2) := by rw [if_pos rfl] at H; exact H
        clear H
        have H := H1
        clear H1
        simp only [Option.some.injEq, Prod.mk.injEq] at H
        obtain ⟨rfl, rfl⟩ := H
        go_wp2
        go_ret2
        exact ⟨by first | rfl | (simp; done) | (simp [*]; done), by repeat (first | exact Drawn0.refl _ | apply Drawn0.step)⟩
      · replace c5 := Bool.eq_false_iff.mpr c5
        subst c5
        have H1 : ((medlarref01_power.f kj2 a0).bind fun t108 => (if a1 ≥ t108 then (some (0, 4)) else ((medlarref01_power.f kj2 a0).bind fun t109 => (some (IntKind.u64.wrap (t109 + a1), 0))))) = some (r1, r2) := by rw [if_neg (show ¬ (false = true) by decide)] at H; exact H
        clear H
        have H := H1
        clear H1
        replace H := Option.bind_eq_some_iff.mp H
        obtain ⟨t108, A60, H⟩ := H
        replace H : (if a1 ≥ t108 then (some (0, 4)) else ((medlarref01_power.f kj2 a0).bind fun t109 => (some (IntKind.u64.wrap (t109 + a1), 0)))) = some (r1, r2) := H
        have A6 := Aside0.mk A60
        clear A60
        by_cases c7 : a1 ≥ t108
        · rw [if_pos c7] at H
          have c7b0 : decide (t108 ≤ a1) = true := decide_eq_true c7
          clear c7
          simp only [Option.some.injEq, Prod.mk.injEq] at H
          obtain ⟨rfl, rfl⟩ := H
          go_wp2_with (first | ((with_reducible refine gate_callee (f := 60) rfl ?_); refine goesL_ (some 14) rfl rfl Try.func60 (by kernel_rfl) rfl #[.int .i64 a0] rfl (by (try simp only [List.map_toArray, List.map_cons, List.map_nil]); first | done | rfl | (simp only [List.length_drop, List.length_take]; rfl)) ?_; (with_reducible refine (medlarref01_power.calls kj2 a0 t108 _ A6.out).mono ?_); rintro e w' ⟨rfl, ⟨nd, rfl⟩⟩; refine ⟨_, rfl, ?_⟩))
          go_ret2
          exact ⟨by first | rfl | (simp; done) | (simp [*]; done), by repeat (first | exact Drawn0.refl _ | apply Drawn0.step)⟩
        · rw [if_neg c7] at H
          have c7b0 : decide (t108 ≤ a1) = false := decide_eq_false c7
          clear c7
          replace H := Option.bind_eq_some_iff.mp H
          obtain ⟨t109, A80, H⟩ := H
          replace H : (some (IntKind.u64.wrap (t109 + a1), 0)) = some (r1, r2) := H
          have A8 := Aside0.mk A80
          clear A80
          simp only [Option.some.injEq, Prod.mk.injEq] at H
          obtain ⟨rfl, rfl⟩ := H
          go_wp2_with (first | ((with_reducible refine gate_callee (f := 60) rfl ?_); refine goesL_ (some 14) rfl rfl Try.func60 (by kernel_rfl) rfl #[.int .i64 a0] rfl (by (try simp only [List.map_toArray, List.map_cons, List.map_nil]); first | done | rfl | (simp only [List.length_drop, List.length_take]; rfl)) ?_; (with_reducible refine (medlarref01_power.calls kj2 a0 t108 _ A6.out).mono ?_); rintro e w' ⟨rfl, ⟨nd, rfl⟩⟩; refine ⟨_, rfl, ?_⟩) | ((with_reducible refine gate_callee (f := 60) rfl ?_); refine goesL_ (some 17) rfl rfl Try.func60 (by kernel_rfl) rfl #[.int .i64 a0] rfl (by (try simp only [List.map_toArray, List.map_cons, List.map_nil]); first | done | rfl | (simp only [List.length_drop, List.length_take]; rfl)) ?_; (with_reducible refine (medlarref01_power.calls kj2 a0 t109 _ A8.out).mono ?_); rintro e w' ⟨rfl, ⟨nd, rfl⟩⟩; refine ⟨_, rfl, ?_⟩))
          go_ret2
          exact ⟨by first | rfl | (simp; done) | (simp [*]; done), by repeat (first | exact Drawn0.refl _ | apply Drawn0.step)⟩

/-! ### medlarref02_Is: function 70 -/
def medlarref02_Is.f (k : Nat) (a0 : Int) (a1 : Int) : Option (Bool) := (medlarref01_Leaf.f k a0 a1).bind fun bt110 => (some (bt110.2 == 0))
theorem medlarref02_Is.mono : ∀ a0 a1 k, LeO (medlarref02_Is.f k a0 a1) (medlarref02_Is.f (k + 1) a0 a1) := by
  intro a0 a1 k
  unfold medlarref02_Is.f
  repeat' first
      | (with_reducible exact medlarref01_Leaf.mono _ _ _)
      | (with_reducible exact LeO.refl _)
      | (with_reducible exact LeO.none _)
      | (with_reducible refine LeO.ite ?_ ?_)
      | (with_reducible refine LeO.bind ?_ (fun _ => ?_))
      | exact medlarref01_Leaf.mono _ _ _
      | exact LeO.none _
      | refine LeO.ite ?_ ?_
      | refine LeO.bind ?_ (fun _ => ?_)
set_option maxHeartbeats 8000000 in
set_option maxRecDepth 100000 in
theorem medlarref02_Is.calls (k : Nat) (a0 : Int) (a1 : Int) (r : Bool) (w : World) (h : medlarref02_Is.f k a0 a1 = some r) :
    Calls Try.prog 70 #[.int .i64 a0, .int .u64 a1] w fun e w' => e = .returned (.bool r) ∧ Drawn0 w w' := by
  have H : ((medlarref01_Leaf.f k a0 a1).bind fun bt110 => (some (bt110.2 == 0))) = some r := h
  clear h
  replace H := Option.bind_eq_some_iff.mp H
  obtain ⟨⟨t110, t111⟩, A30, H⟩ := H
  replace H : (some (t111 == 0)) = some r := H
  have A3 := Aside0.mk A30
  clear A30
  obtain rfl := Option.some.inj H
  go_enter Try.func70, Try.ntmps70
  go_wp2_with (first | ((with_reducible refine gate_callee (f := 22) rfl ?_); refine goesL_ (some 10) rfl rfl Try.func22 (by kernel_rfl) rfl #[.int .i64 a0, .int .u64 a1] rfl (by (try simp only [List.map_toArray, List.map_cons, List.map_nil]); first | done | rfl | (simp only [List.length_drop, List.length_take]; rfl)) ?_; (with_reducible refine (medlarref01_Leaf.calls k a0 a1 t110 t111 _ A3.out).mono ?_); rintro e w' ⟨rfl, ⟨nd, rfl⟩⟩; refine ⟨_, rfl, ?_⟩))
  go_ret
  exact ⟨by first | rfl | (simp; done) | (simp [*]; done), by repeat (first | exact Drawn0.refl _ | apply Drawn0.step)⟩

/-! ### medlarref02_Check: function 54 -/
mutual
def medlarref02_Check.j0 : Nat → Int → List Int → Bool → Option (Int)
  | 0, _, _, _ => none
  | k + 1, x0, x1, x14 => if x14 = true then (some 1) else (medlarref02_Check.l0 k x0 x1 x1 (x1.length : Int) 0)
def medlarref02_Check.l0 : Nat → Int → List Int → List Int → Int → Int → Option (Int)
  | 0, _, _, _, _, _ => none
  | k + 1, x0, x1, x15, x16, x17 => if x17 < x16 then (if 0 ≤ x17 then (if x17 < (x15.length : Int) then ((medlarref02_Is.f k x0 (rd x15 x17)).bind fun t114 => (if t114 = true then (if x17 > 0 then (if 0 ≤ (wrap64 (x17 - 1)) then (if (wrap64 (x17 - 1)) < (x1.length : Int) then (if (rd x1 (wrap64 (x17 - 1))) ≥ (rd x15 x17) then (some 1) else (medlarref02_Check.l0 k x0 x1 x15 x16 (wrap64 (x17 + 1)))) else (none)) else (none)) else (medlarref02_Check.l0 k x0 x1 x15 x16 (wrap64 (x17 + 1)))) else (some 1))) else (none)) else (none)) else (some 0)
end
def medlarref02_Check.f (k : Nat) (a0 : Int) (l1 : List Int) : Option (Int) := (medlarref01_Check.f k a0 1).bind fun t112 => (if t112 = 0 then (medlarref02_Check.j0 k a0 l1 (decide ((l1.length : Int) > 1024))) else (medlarref02_Check.j0 k a0 l1 true))
theorem medlarref02_Check.mono_l : ∀ k, (∀ y0 y1 y2, LeO (medlarref02_Check.j0 k y0 y1 y2) (medlarref02_Check.j0 (k + 1) y0 y1 y2)) ∧ (∀ y0 y1 y2 y3 y4, LeO (medlarref02_Check.l0 k y0 y1 y2 y3 y4) (medlarref02_Check.l0 (k + 1) y0 y1 y2 y3 y4))
  | 0 => ⟨fun _ _ _ r h => by simp [medlarref02_Check.j0] at h, fun _ _ _ _ _ r h => by simp [medlarref02_Check.l0] at h⟩
  | k + 1 => by
    obtain ⟨ih0, ih1⟩ := medlarref02_Check.mono_l k
    refine ⟨?_, ?_⟩
    · intro y0 y1 y2
      unfold medlarref02_Check.j0
      repeat' first
      | (with_reducible exact ih0 _ _ _)
      | (with_reducible exact ih1 _ _ _ _ _)
      | (with_reducible exact medlarref01_Check.mono _ _ _)
      | (with_reducible exact medlarref02_Is.mono _ _ _)
      | (with_reducible exact LeO.refl _)
      | (with_reducible exact LeO.none _)
      | (with_reducible refine LeO.ite ?_ ?_)
      | (with_reducible refine LeO.bind ?_ (fun _ => ?_))
      | exact ih0 _ _ _
      | exact ih1 _ _ _ _ _
      | exact medlarref01_Check.mono _ _ _
      | exact medlarref02_Is.mono _ _ _
      | exact LeO.none _
      | refine LeO.ite ?_ ?_
      | refine LeO.bind ?_ (fun _ => ?_)
    · intro y0 y1 y2 y3 y4
      unfold medlarref02_Check.l0
      repeat' first
      | (with_reducible exact ih0 _ _ _)
      | (with_reducible exact ih1 _ _ _ _ _)
      | (with_reducible exact medlarref01_Check.mono _ _ _)
      | (with_reducible exact medlarref02_Is.mono _ _ _)
      | (with_reducible exact LeO.refl _)
      | (with_reducible exact LeO.none _)
      | (with_reducible refine LeO.ite ?_ ?_)
      | (with_reducible refine LeO.bind ?_ (fun _ => ?_))
      | exact ih0 _ _ _
      | exact ih1 _ _ _ _ _
      | exact medlarref01_Check.mono _ _ _
      | exact medlarref02_Is.mono _ _ _
      | exact LeO.none _
      | refine LeO.ite ?_ ?_
      | refine LeO.bind ?_ (fun _ => ?_)
theorem medlarref02_Check.mono : ∀ a0 a1 k, LeO (medlarref02_Check.f k a0 a1) (medlarref02_Check.f (k + 1) a0 a1) := by
  intro a0 a1 k
  obtain ⟨ih0, ih1⟩ := medlarref02_Check.mono_l k
  unfold medlarref02_Check.f
  repeat' first
      | (with_reducible exact ih0 _ _ _)
      | (with_reducible exact ih1 _ _ _ _ _)
      | (with_reducible exact medlarref01_Check.mono _ _ _)
      | (with_reducible exact medlarref02_Is.mono _ _ _)
      | (with_reducible exact LeO.refl _)
      | (with_reducible exact LeO.none _)
      | (with_reducible refine LeO.ite ?_ ?_)
      | (with_reducible refine LeO.bind ?_ (fun _ => ?_))
      | exact ih0 _ _ _
      | exact ih1 _ _ _ _ _
      | exact medlarref01_Check.mono _ _ _
      | exact medlarref02_Is.mono _ _ _
      | exact LeO.none _
      | refine LeO.ite ?_ ?_
      | refine LeO.bind ?_ (fun _ => ?_)
set_option maxHeartbeats 8000000 in
set_option maxRecDepth 100000 in
theorem medlarref02_Check.calls (k : Nat) (a0 : Int) (A1 : Option Addr) (c1 : Nat) (l1 : List Int) (r : Int) (w : World) (hr1 : Kd.C (Kd.int .u64) w A1 l1.length l1) (hc1 : l1.length ≤ c1) (h : medlarref02_Check.f k a0 l1 = some r) :
    Calls Try.prog 54 #[.int .i64 a0, .slice A1 l1.length c1] w fun e w' => e = .returned (.int .i64 r) ∧ Drawn0 w w' := by
  have HR1 := Aside0.mk hr1
  have HC1 := Aside0.mk hc1
  clear hr1 hc1
  have H : ((medlarref01_Check.f k a0 1).bind fun t112 => (if t112 = 0 then (medlarref02_Check.j0 k a0 l1 (decide ((l1.length : Int) > 1024))) else (medlarref02_Check.j0 k a0 l1 true))) = some r := h
  clear h
  have HC3 := Aside0.mk H
  clear H
  go_enter Try.func54, Try.ntmps54
  go_upto_region 1 with (fail)
  go_cut [14] (fun v14 wc => ∃ (kq : Nat) (x14_2 : Bool), v14 = .bool x14_2 ∧ Aside0 (medlarref02_Check.j0 kq a0 l1 x14_2 = some r) ∧ Aside0 (kq ≤ k) ∧ Drawn0 w wc)
  case first =>
    have H := HC3.out
    clear HC3
    replace H := Option.bind_eq_some_iff.mp H
    obtain ⟨t112, A40, H⟩ := H
    replace H : (if t112 = 0 then (medlarref02_Check.j0 k a0 l1 (decide ((l1.length : Int) > 1024))) else (medlarref02_Check.j0 k a0 l1 true)) = some r := H
    have A4 := Aside0.mk A40
    clear A40
    by_cases c5 : t112 = 0
    · rw [if_pos c5] at H
      have c5b0 : (t112 == 0) = true := beq_iff_eq.mpr c5
      have c5b1 : (t112 != 0) = false := bne_eq_false_iff_eq.mpr c5
      clear c5
      (first | rw [c5b0] | (simp only [i64_w, i32_w]; rw [c5b0]) | skip)
      have H' := Aside0.mk H
      clear H
      go_wp2_with (first | ((with_reducible refine gate_callee (f := 29) rfl ?_); refine goesL_ (some 8) rfl rfl Try.func29 (by kernel_rfl) rfl #[.int .i64 a0, .int .u64 1] rfl (by (try simp only [List.map_toArray, List.map_cons, List.map_nil]); first | done | rfl | (simp only [List.length_drop, List.length_take]; rfl)) ?_; (with_reducible refine (medlarref01_Check.calls k a0 1 t112 _ A4.out).mono ?_); rintro e w' ⟨rfl, ⟨nd, rfl⟩⟩; refine ⟨_, rfl, ?_⟩))
      go_meet
      case rel => exact ⟨_, (decide ((l1.length : Int) > 1024)), (by first | rfl | (simp; done) | (simp [*]; done)), H', ⟨by first | omega | exact Nat.le_refl _⟩, by repeat (first | exact Drawn0.refl _ | apply Drawn0.step)⟩
    · rw [if_neg c5] at H
      have c5b0 : (t112 == 0) = false := beq_eq_false_iff_ne.mpr c5
      have c5b1 : (t112 != 0) = true := bne_iff_ne.mpr c5
      (first | rw [c5b0] | (simp only [i64_w, i32_w]; rw [c5b0]) | skip)
      have H' := Aside0.mk H
      clear H
      go_wp2_with (first | ((with_reducible refine gate_callee (f := 29) rfl ?_); refine goesL_ (some 8) rfl rfl Try.func29 (by kernel_rfl) rfl #[.int .i64 a0, .int .u64 1] rfl (by (try simp only [List.map_toArray, List.map_cons, List.map_nil]); first | done | rfl | (simp only [List.length_drop, List.length_take]; rfl)) ?_; (with_reducible refine (medlarref01_Check.calls k a0 1 t112 _ A4.out).mono ?_); rintro e w' ⟨rfl, ⟨nd, rfl⟩⟩; refine ⟨_, rfl, ?_⟩))
      go_meet
      case rel => exact ⟨_, (true), (by first | rfl | (simp; done) | (simp [*]; done)), H', ⟨by first | omega | exact Nat.le_refl _⟩, by repeat (first | exact Drawn0.refl _ | apply Drawn0.step)⟩
  case rest =>
    clear HC3
    try clear c1
    try clear c2
    try clear p2
    try clear c5
    try clear c5b0
    try clear c5b1
    obtain ⟨kq, x14_2, rfl, HA, HJ2, ⟨mc2, rfl⟩⟩ := hcut
    cases kq with
    | zero => exact absurd HA.out (by simp [medlarref02_Check.j0])
    | succ kj2 =>
      have H := HA.out
      clear HA
      simp only [medlarref02_Check.j0] at H
      by_cases c6 : x14_2 = true
      · subst c6
        have H1 : (some 1) = some r := by rw [if_pos rfl] at H; exact H
        clear H
        have H := H1
        clear H1
        obtain rfl := Option.some.inj H
        go_wp2
        go_ret
        exact ⟨by first | rfl | (simp; done) | (simp [*]; done), by repeat (first | exact Drawn0.refl _ | apply Drawn0.step)⟩
      · replace c6 := Bool.eq_false_iff.mpr c6
        subst c6
        have H1 : (medlarref02_Check.l0 kj2 a0 l1 l1 (l1.length : Int) 0) = some r := by rw [if_neg (show ¬ (false = true) by decide)] at H; exact H
        clear H
        have H := H1
        clear H1
        have H' := Aside0.mk H
        clear H
        go_wp2
        go_loopg [17] kj2 (fun kq v17 w' => ∃ (x17_2 : Int), v17 = .int .i64 x17_2 ∧ Aside0 (medlarref02_Check.l0 kq a0 l1 l1 (l1.length : Int) x17_2 = some r) ∧ Aside0 (kq ≤ kj2) ∧ Drawn0 w w')
        case atStart => exact ⟨(0), (by first | rfl | (simp; done) | (simp [*]; done)), H', ⟨Nat.le_refl _⟩, by repeat (first | exact Drawn0.refl _ | apply Drawn0.step)⟩
        case round =>
          clear H'
          try clear c1
          try clear c2
          try clear p2
          try clear c5
          try clear c5b0
          try clear c5b1
          try clear c6
          try clear p2
          obtain ⟨x17_2, rfl, HA, HK2, ⟨m2, rfl⟩⟩ := hrel
          cases gk with
          | zero => exact absurd HA.out (by simp [medlarref02_Check.l0])
          | succ k2 =>
            have H := HA.out
            clear HA
            simp only [medlarref02_Check.l0] at H
            by_cases c7 : x17_2 < (l1.length : Int)
            · rw [if_pos c7] at H
              have c7b0 : decide (x17_2 < (l1.length : Int)) = true := decide_eq_true c7
              clear c7
              by_cases c8 : 0 ≤ x17_2
              · rw [if_pos c8] at H
                have c8b0 : decide (0 ≤ x17_2) = true := decide_eq_true c8
                clear c8
                by_cases c9 : x17_2 < (l1.length : Int)
                · rw [if_pos c9] at H
                  have c9b0 : decide (x17_2 < (l1.length : Int)) = true := decide_eq_true c9
                  clear c9
                  replace H := Option.bind_eq_some_iff.mp H
                  obtain ⟨t114, A100, H⟩ := H
                  replace H : (if t114 = true then (if x17_2 > 0 then (if 0 ≤ (wrap64 (x17_2 - 1)) then (if (wrap64 (x17_2 - 1)) < (l1.length : Int) then (if (rd l1 (wrap64 (x17_2 - 1))) ≥ (rd l1 x17_2) then (some 1) else (medlarref02_Check.l0 k2 a0 l1 l1 (l1.length : Int) (wrap64 (x17_2 + 1)))) else (none)) else (none)) else (medlarref02_Check.l0 k2 a0 l1 l1 (l1.length : Int) (wrap64 (x17_2 + 1)))) else (some 1)) = some r := H
                  have A10 := Aside0.mk A100
                  clear A100
                  by_cases c11 : t114 = true
                  · subst c11
                    have H1 : (if x17_2 > 0 then (if 0 ≤ (wrap64 (x17_2 - 1)) then (if (wrap64 (x17_2 - 1)) < (l1.length : Int) then (if (rd l1 (wrap64 (x17_2 - 1))) ≥ (rd l1 x17_2) then (some 1) else (medlarref02_Check.l0 k2 a0 l1 l1 (l1.length : Int) (wrap64 (x17_2 + 1)))) else (none)) else (none)) else (medlarref02_Check.l0 k2 a0 l1 l1 (l1.length : Int) (wrap64 (x17_2 + 1)))) = some r := by rw [if_pos rfl] at H; exact H
                    clear H
                    have H := H1
                    clear H1
                    by_cases c12 : x17_2 > 0
                    · rw [if_pos c12] at H
                      have c12b0 : decide (0 < x17_2) = true := decide_eq_true c12
                      clear c12
                      obtain ⟨ji13, hji13⟩ : ∃ j_ : Int, (wrap64 (x17_2 - 1)) = j_ := ⟨_, rfl⟩
                      replace H : (if 0 ≤ (ji13) then (if (ji13) < (l1.length : Int) then (if (rd l1 (ji13)) ≥ (rd l1 x17_2) then (some 1) else (medlarref02_Check.l0 k2 a0 l1 l1 (l1.length : Int) (wrap64 (x17_2 + 1)))) else (none)) else (none)) = some r := by first | (rw [hji13] at H; exact H) | (simp only [hji13] at H ⊢; exact H)
                      (try rw [hji13] at A10)
                      have hji13w : (IntKind.i64.wrap (x17_2 - 1)) = ji13 := (i64_w _).trans hji13
                      by_cases c14 : 0 ≤ (ji13)
                      · rw [if_pos c14] at H
                        have c14b0 : decide (0 ≤ (ji13)) = true := decide_eq_true c14
                        clear c14
                        by_cases c15 : (ji13) < (l1.length : Int)
                        · rw [if_pos c15] at H
                          have c15b0 : decide ((ji13) < (l1.length : Int)) = true := decide_eq_true c15
                          clear c15
                          by_cases c16 : (rd l1 (ji13)) ≥ (rd l1 x17_2)
                          · rw [if_pos c16] at H
                            have c16b0 : decide ((rd l1 x17_2) ≤ (rd l1 (ji13))) = true := decide_eq_true c16
                            clear c16
                            obtain rfl := Option.some.inj H
                            have p113 : 0 ≤ (x17_2 : Int) := of_decide_eq_true (by first | (with_reducible assumption) | assumption)
                            have q113 : x17_2 < (l1.length : Int) := of_decide_eq_true (by first | (with_reducible assumption) | assumption)
                            obtain ⟨ad113, e113, hx113_0⟩ := Kd.at_int HR1.out x17_2 p113 q113
                            cases e113
                            replace p113 := eq_true p113
                            replace q113 := eq_true q113
                            go_wp2_with (first | ((with_reducible refine gate_callee (f := 70) rfl ?_); refine goesL_ (some 24) rfl rfl Try.func70 (by kernel_rfl) rfl #[.int .i64 a0, .int .u64 (rd l1 x17_2)] rfl (by (try simp only [List.map_toArray, List.map_cons, List.map_nil]); first | done | rfl | (simp only [List.length_drop, List.length_take]; rfl)) ?_; (with_reducible refine (medlarref02_Is.calls k2 a0 (rd l1 x17_2) true _ A10.out).mono ?_); rintro e w' ⟨rfl, ⟨nd, rfl⟩⟩; refine ⟨_, rfl, ?_⟩; have p115 : 0 ≤ ((ji13) : Int) := of_decide_eq_true (by first | (with_reducible assumption) | assumption); have q115 : (ji13) < (l1.length : Int) := of_decide_eq_true (by first | (with_reducible assumption) | assumption); obtain ⟨ad115, e115, hx115_0⟩ := Kd.at_int HR1.out (ji13) p115 q115; obtain rfl : ad113 = ad115 := (by injection e115); replace p115 := eq_true p115; replace q115 := eq_true q115))
                            go_ret
                            exact ⟨by first | rfl | (simp; done) | (simp only [← hji13] <;> (first | rfl | simp)) | (simp [*]; done), by repeat (first | exact Drawn0.refl _ | apply Drawn0.step)⟩
                          · rw [if_neg c16] at H
                            have c16b0 : decide ((rd l1 x17_2) ≤ (rd l1 (ji13))) = false := decide_eq_false c16
                            clear c16
                            have H' := Aside0.mk H
                            clear H
                            have p113 : 0 ≤ (x17_2 : Int) := of_decide_eq_true (by first | (with_reducible assumption) | assumption)
                            have q113 : x17_2 < (l1.length : Int) := of_decide_eq_true (by first | (with_reducible assumption) | assumption)
                            obtain ⟨ad113, e113, hx113_0⟩ := Kd.at_int HR1.out x17_2 p113 q113
                            cases e113
                            replace p113 := eq_true p113
                            replace q113 := eq_true q113
                            go_wp2_with (first | ((with_reducible refine gate_callee (f := 70) rfl ?_); refine goesL_ (some 24) rfl rfl Try.func70 (by kernel_rfl) rfl #[.int .i64 a0, .int .u64 (rd l1 x17_2)] rfl (by (try simp only [List.map_toArray, List.map_cons, List.map_nil]); first | done | rfl | (simp only [List.length_drop, List.length_take]; rfl)) ?_; (with_reducible refine (medlarref02_Is.calls k2 a0 (rd l1 x17_2) true _ A10.out).mono ?_); rintro e w' ⟨rfl, ⟨nd, rfl⟩⟩; refine ⟨_, rfl, ?_⟩; have p115 : 0 ≤ ((ji13) : Int) := of_decide_eq_true (by first | (with_reducible assumption) | assumption); have q115 : (ji13) < (l1.length : Int) := of_decide_eq_true (by first | (with_reducible assumption) | assumption); obtain ⟨ad115, e115, hx115_0⟩ := Kd.at_int HR1.out (ji13) p115 q115; obtain rfl : ad113 = ad115 := (by injection e115); replace p115 := eq_true p115; replace q115 := eq_true q115))
                            go_roundg k2
                            case measure => have := HJ2.out; have := HK2.out; omega
                            case rel => exact ⟨(wrap64 (x17_2 + 1)), (by first | rfl | (simp; done) | (simp [*]; done)), H', ⟨by have := HJ2.out; have := HK2.out; omega⟩, by repeat (first | exact Drawn0.refl _ | apply Drawn0.step)⟩
                        · rw [if_neg c15] at H
                          exact absurd H (by simp)
                      · rw [if_neg c14] at H
                        exact absurd H (by simp)
                    · rw [if_neg c12] at H
                      have c12b0 : decide (0 < x17_2) = false := decide_eq_false c12
                      clear c12
                      have H' := Aside0.mk H
                      clear H
                      have p113 : 0 ≤ (x17_2 : Int) := of_decide_eq_true (by first | (with_reducible assumption) | assumption)
                      have q113 : x17_2 < (l1.length : Int) := of_decide_eq_true (by first | (with_reducible assumption) | assumption)
                      obtain ⟨ad113, e113, hx113_0⟩ := Kd.at_int HR1.out x17_2 p113 q113
                      cases e113
                      replace p113 := eq_true p113
                      replace q113 := eq_true q113
                      go_wp2_with (first | ((with_reducible refine gate_callee (f := 70) rfl ?_); refine goesL_ (some 24) rfl rfl Try.func70 (by kernel_rfl) rfl #[.int .i64 a0, .int .u64 (rd l1 x17_2)] rfl (by (try simp only [List.map_toArray, List.map_cons, List.map_nil]); first | done | rfl | (simp only [List.length_drop, List.length_take]; rfl)) ?_; (with_reducible refine (medlarref02_Is.calls k2 a0 (rd l1 x17_2) true _ A10.out).mono ?_); rintro e w' ⟨rfl, ⟨nd, rfl⟩⟩; refine ⟨_, rfl, ?_⟩))
                      go_roundg k2
                      case measure => have := HJ2.out; have := HK2.out; omega
                      case rel => exact ⟨(wrap64 (x17_2 + 1)), (by first | rfl | (simp; done) | (simp [*]; done)), H', ⟨by have := HJ2.out; have := HK2.out; omega⟩, by repeat (first | exact Drawn0.refl _ | apply Drawn0.step)⟩
                  · replace c11 := Bool.eq_false_iff.mpr c11
                    subst c11
                    have H1 : (some 1) = some r := by rw [if_neg (show ¬ (false = true) by decide)] at H; exact H
                    clear H
                    have H := H1
                    clear H1
                    obtain rfl := Option.some.inj H
                    have p113 : 0 ≤ (x17_2 : Int) := of_decide_eq_true (by first | (with_reducible assumption) | assumption)
                    have q113 : x17_2 < (l1.length : Int) := of_decide_eq_true (by first | (with_reducible assumption) | assumption)
                    obtain ⟨ad113, e113, hx113_0⟩ := Kd.at_int HR1.out x17_2 p113 q113
                    cases e113
                    replace p113 := eq_true p113
                    replace q113 := eq_true q113
                    go_wp2_with (first | ((with_reducible refine gate_callee (f := 70) rfl ?_); refine goesL_ (some 24) rfl rfl Try.func70 (by kernel_rfl) rfl #[.int .i64 a0, .int .u64 (rd l1 x17_2)] rfl (by (try simp only [List.map_toArray, List.map_cons, List.map_nil]); first | done | rfl | (simp only [List.length_drop, List.length_take]; rfl)) ?_; (with_reducible refine (medlarref02_Is.calls k2 a0 (rd l1 x17_2) false _ A10.out).mono ?_); rintro e w' ⟨rfl, ⟨nd, rfl⟩⟩; refine ⟨_, rfl, ?_⟩))
                    go_ret
                    exact ⟨by first | rfl | (simp; done) | (simp [*]; done), by repeat (first | exact Drawn0.refl _ | apply Drawn0.step)⟩
                · rw [if_neg c9] at H
                  exact absurd H (by simp)
              · rw [if_neg c8] at H
                exact absurd H (by simp)
            · rw [if_neg c7] at H
              have c7b0 : decide (x17_2 < (l1.length : Int)) = false := decide_eq_false c7
              clear c7
              obtain rfl := Option.some.inj H
              go_wp2
              go_ret
              exact ⟨by first | rfl | (simp; done) | (simp [*]; done), by repeat (first | exact Drawn0.refl _ | apply Drawn0.step)⟩

end Go.Proofs.Ytkimbkcghmelgaa.PBelow
