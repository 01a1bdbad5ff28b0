/- The iterator of leaf.Gaps: what 'between' hands back. -/
import Derived.Test.YtkimbkcghmelgaaLeafA
import Derived.RangeFuncNested
import Derived.RangeFuncBound
import Derived.RangeFuncCalls
import Derived.RangeFuncLeaves
import Derived.RangeFuncBox
import Derived.Shelf.Abstract
import Derived.Shelf.RegionOpen
import Derived.WalkKit
import Derived.OwnWalkIn
import Derived.TacticsInMore
import Derived.LoopNIn
import Derived.LoopIn
import Derived.Maps.AppendAt
namespace Go.Proofs.Ytkimbkcghmelgaa
open Go.RowKit Go.Shelf
attribute [local go_sem] Oper.semAt_some

/-- from where the next gap is, when the first k leaves are over -/
def fromAt (s : List Nat) (k : Nat) : Nat := if k = 0 then 0 else s.getD (k - 1) 0 + 1
/-- the gaps ahead of the k-th leaf -/
def gapsA (s : List Nat) : Nat → List (Nat × Nat)
  | 0 => []
  | k + 1 => gapsA s k ++ if fromAt s k < s.getD k 0 then [(fromAt s k, s.getD k 0 - 1)] else []
def gapsL (s : List Nat) (last : Nat) : List (Nat × Nat) := gapsA s s.length ++ if fromAt s s.length ≤ last then [(fromAt s s.length, last)] else []
theorem gapsA_length (s : List Nat) (k : Nat) : (gapsA s k).length ≤ k := by
  induction k with
  | zero => simp [gapsA]
  | succ k ih =>
    unfold gapsA
    rw [List.length_append]
    split <;> simp <;> omega
theorem gapsA_prefix (s : List Nat) (last : Nat) : ∀ d k, k + d = s.length → gapsA s k <+: gapsL s last := by
  intro d
  induction d with
  | zero => intro k hk; rw [show k = s.length by omega]; exact List.prefix_append _ _
  | succ d ih =>
    intro k hk
    exact List.IsPrefix.trans (List.prefix_append _ _ : gapsA s k <+: gapsA s (k + 1)) (ih (k + 1) (by omega))
theorem gapsL_length (s : List Nat) (last : Nat) : (gapsL s last).length ≤ s.length + 1 := by
  unfold gapsL
  have := gapsA_length s s.length
  rw [List.length_append]
  split <;> simp <;> omega

def spanV (x : Nat × Nat) : Value := .agg #[.int .u64 (x.1 : Int), .int .u64 (x.2 : Int)]
/-- what a round of the iterator's keeps: what lay below n₀, and block B -/
def KpB (n₀ B : Nat) (W W' : World) : Prop := Below n₀ W W' ∧ (∀ o, W.heap[B]? = some o → W'.heap[B]? = some o)
theorem KpB.trans {n₀ B : Nat} {X Y Z : World} (h : KpB n₀ B X Y) (k : KpB n₀ B Y Z) : KpB n₀ B X Z := ⟨h.1.trans k.1, fun o ho => k.2 o (h.2 o ho)⟩
theorem KpB.book {n₀ B : Nat} {w : World} (hn : n₀ ≤ w.heap.size) (hB : B < w.heap.size) (W : World) (l : Nat) (o o' : Obj) (hl : w.heap.size ≤ l) (h : W.heap[l]? = some o) (h1 : o.isCells = false) (h2 : o.isWalk = false) : KpB n₀ B W (W.putObj l o') :=
  ⟨belowK_b hn W l o o' hl h h1 h2, fun p hp => (World.putObj_heap_other (by omega)).trans hp⟩

set_option maxRecDepth 100000 in
set_option maxHeartbeats 4000000 in
theorem between1_in (F : Fence) (n : Nat) (h74 : F.fn 74) (hro : F.round = none) (hn : 1 ≤ n) (l Bl Bt n₀ : Nat) (A : Option Addr) (cap last : Nat) (s : List Nat) (hlen : s.length ≤ 1024) (hs : Hid (∀ j, s.getD j 0 < 4294967296))
    (hlt : Hid (∀ ad, A = some ad → 0 < s.length → ad.block < n₀)) (J Jx : List (Nat × Nat) → World → Prop)
    (hY : Hid (∀ pre x W, J pre W → pre.length < s.length + 1 → YieldAt F (n - 1) Try.prog l #[.agg #[.int .u64 (x.1 : Int), .int .u64 (x.2 : Int)]] W fun e W' =>
      (e = .returned (.bool true) ∧ J (pre ++ [x]) W' ∧ KpB n₀ Bt W W') ∨ (e = .returned (.bool false) ∧ Jx (pre ++ [x]) W')))
    (W : World) (hBl : W.cell? ⟨Bl, 0, none⟩ = some (.slice A s.length cap)) (hBt : Boxed W Bt 22 (.int .u64 (last : Int))) (hA : Reads W A s) (h0 : J [] W) :
    CallsIn F n Try.prog 74 #[.func (.yield l) #[] #[], .pointer (some ⟨Bl, 0, none⟩), .pointer (some ⟨Bt, 0, none⟩)] W fun e W' => (∃ v, e = .returned v) ∧
      ((∃ ys, ys = gapsL s last ∧ J ys W') ∨ (∃ pre, pre <+: gapsL s last ∧ Jx pre W')) := by
  have HA := mkHid hA
  clear hA
  have H0 := mkHid h0
  clear h0
  have HT := mkHid hBt
  clear hBt
  generalize hm : s.length = m at *
  have Hm := mkHid hm
  clear hm
  refine callsIn_of_wp Try.func74 rfl h74 ?_ hro
  simp only [Try.ntmps74, List.size_toArray, List.length_cons, List.length_nil, Nat.reduceAdd, Nat.reduceSub, Array.replicate_succ, Array.replicate_zero, List.push_toArray, List.append_toArray, List.nil_append, List.cons_append]
  gi_wp2
  gi_loopw [4, 9] (fun f i wr => ∃ k : Nat, k ≤ m ∧ i = .int .i64 (k : Int) ∧ f = .int .u64 ((fromAt s k : Nat) : Int) ∧ Hid (J (gapsA s k) wr) ∧ Hid (KpB n₀ Bt W wr))
    (fun _ i _ => m - (intOf i).toNat)
  case atStart => exact ⟨0, Nat.zero_le _, rfl, rfl, H0, mkHid ⟨Below.refl _ _, fun _ h => h⟩⟩
  case round =>
    obtain ⟨k, hk, rfl, rfl, hJs, hnx⟩ := hrel
    have hfr : fromAt s k < 4294967297 := by have := hs.out (k - 1); unfold fromAt; split <;> omega
    by_cases hlt2 : k < m
    · obtain ⟨ad, rfl, hc⟩ := HA.out.cell k (by rw [Hm.out]; exact hlt2)
      have hadd : (ad.add k).block = ad.block := by unfold Addr.add; split <;> rfl
      have hc2 : wr.cell? (ad.add k) = some (.int .u64 ((s.getD k 0 : Nat) : Int)) := (hnx.out.1.cell (p := ad.add k) (by rw [hadd]; exact hlt.out ad rfl (by omega))).trans hc
      have hxb := hs.out k
      have hgl := gapsA_length s k
      have hsu : fromAt s (k + 1) = s.getD k 0 + 1 := rfl
      have hga : gapsA s (k + 1) = gapsA s k ++ if fromAt s k < s.getD k 0 then [(fromAt s k, s.getD k 0 - 1)] else [] := rfl
      have hpf := gapsA_prefix s last (s.length - (k + 1)) (k + 1) (by rw [Hm.out]; omega)
      generalize hx : s.getD k 0 = x at *
      generalize hf : fromAt s k = f at *
      have Hsu := mkHid hsu
      have Hpf := mkHid hpf
      clear hsu hpf hx hf hc
      by_cases hfx : f < x
      · rw [if_pos hfx] at hga
        have Hga := mkHid hga
        clear hga
        obtain ⟨fn, tmps, assign, body, hy, hR⟩ := hY.out (gapsA s k) (f, x - 1) wr hJs.out (by omega)
        dsimp only at hy
        have hR' := mkHid hR
        clear hR
        have ex : (x : Int) - 1 = ((x - 1 : Nat) : Int) := by omega
        generalize x - 1 = x' at *
        have t1 : decide (f < x) = true := decide_eq_true hfx
        gi_wp2
        refine hR'.out.mono ?_
        rintro e W3 (⟨rfl, hJ3, hk3⟩ | ⟨rfl, hJx3⟩)
        · gi_wp2
          go_roundw
          case rel => exact ⟨k + 1, by omega, by simp, by rw [Hsu.out]; simp, mkHid (by rw [Hga.out]; exact hJ3), mkHid (hnx.out.trans hk3)⟩
          case measure => simp [intOf]; omega
        · gi_wp2
          refine bodyPost_ret (results_none rfl _ _ _) rfl ?_
          exact ⟨⟨_, rfl⟩, .inr ⟨_, Hpf.out, by rw [Hga.out]; exact hJx3⟩⟩
      · rw [if_neg hfx, List.append_nil] at hga
        have Hga := mkHid hga
        clear hga
        have t1 : decide (f < x) = false := decide_eq_false hfx
        gi_wp2
        refine ⟨fun _ h => (by cases h), ?_⟩
        gi_wp2
        go_roundw
        case rel => exact ⟨k + 1, by omega, by simp, by rw [Hsu.out]; simp, mkHid (by rw [Hga.out]; exact hJs.out), hnx⟩
        case measure => simp [intOf]; omega
    · obtain rfl : k = m := by omega
      have hcT := (show Boxed wr Bt 22 (.int .u64 (last : Int)) from hnx.out.2 _ HT.out).cell
      have hgl := gapsA_length s k
      have hal : gapsL s last = gapsA s k ++ if fromAt s k ≤ last then [(fromAt s k, last)] else [] := by unfold gapsL; rw [Hm.out]
      generalize hf : fromAt s k = f at *
      clear hf
      by_cases hfl : f ≤ last
      · rw [if_pos hfl] at hal
        have Hal := mkHid hal
        clear hal
        obtain ⟨fn, tmps, assign, body, hy, hR⟩ := hY.out (gapsA s k) (f, last) wr hJs.out (by omega)
        dsimp only at hy
        have hR' := mkHid hR
        clear hR
        have t1 : decide (f ≤ last) = true := decide_eq_true hfl
        gi_wp2
        refine hR'.out.mono ?_
        rintro e W3 (⟨rfl, hJ3, hk3⟩ | ⟨rfl, hJx3⟩)
        · gi_wp2
          go_end0
          exact ⟨⟨_, rfl⟩, .inl ⟨_, rfl, by rw [Hal.out]; exact hJ3⟩⟩
        · gi_wp2
          go_end0
          exact ⟨⟨_, rfl⟩, .inr ⟨_, List.prefix_refl _, by rw [Hal.out]; exact hJx3⟩⟩
      · rw [if_neg hfl, List.append_nil] at hal
        have Hal := mkHid hal
        clear hal
        have t1 : decide (f ≤ last) = false := decide_eq_false hfl
        gi_wp2
        go_end0
        exact ⟨⟨_, rfl⟩, .inl ⟨_, rfl, by rw [Hal.out]; exact hJs.out⟩⟩

theorem Reads.blocks {w : World} {A : Option Addr} {s : List Nat} (h : Reads w A s) : ∀ ad, A = some ad → 0 < s.length → ad.block < w.heap.size := by
  intro ad e hn
  obtain ⟨ad', e', hc⟩ := h.cell 0 hn
  rw [e] at e'
  cases e'
  rw [addr_zero] at hc
  exact World.block_lt_of_cell? w ad hc
set_option maxHeartbeats 1000000 in
theorem between_in (F : Fence) (n : Nat) (h65 : F.fn 65) (hro : F.round = none) (a : Option Addr) (len cap : Nat) (last : Nat) (w : World) :
    CallsIn F n Try.prog 65 #[.slice a len cap, .int .u64 (last : Int)] w fun e w' => e = .returned (.func (.func 74) #[] #[.pointer (some ⟨w.heap.size, 0, none⟩), .pointer (some ⟨w.heap.size + 1, 0, none⟩)]) ∧ w' = (w.alloc (.cells #[.slice a len cap] 49)).alloc (.cells #[.int .u64 (last : Int)] 22) := by
  refine callsIn_of_wp Try.func65 rfl h65 ?_ hro
  simp only [Try.ntmps65, List.size_toArray, List.length_cons, List.length_nil, Nat.reduceAdd, Nat.reduceSub, Array.replicate_succ, Array.replicate_zero, List.push_toArray, List.append_toArray, List.nil_append, List.cons_append]
  gi_wp2
  go_ret
  exact ⟨rfl, rfl⟩
theorem between_stops (F : Fence) (n : Nat) (h74 : F.fn 74) (hro : F.round = none) (hn : 1 ≤ n) (Bl Bt n₀ : Nat) (A : Option Addr) (cap last : Nat) (s : List Nat) (hlen : s.length ≤ 1024) (hs : Hid (∀ j, s.getD j 0 < 4294967296))
    (hlt : Hid (∀ ad, A = some ad → 0 < s.length → ad.block < n₀)) (w : World) (hBl : Bl < w.heap.size) (hBt : Bt < w.heap.size) (hc : w.cell? ⟨Bl, 0, none⟩ = some (.slice A s.length cap)) (ht : Boxed w Bt 22 (.int .u64 (last : Int))) (hA : Reads w A s) :
    SeqStopsK F n Try.prog 74 #[.pointer (some ⟨Bl, 0, none⟩), .pointer (some ⟨Bt, 0, none⟩)] (fun x : Nat × Nat => #[Value.agg #[.int .u64 (x.1 : Int), .int .u64 (x.2 : Int)]]) (KpB n₀ Bt) (fun ys => ys = gapsL s last) (fun pre => pre <+: gapsL s last) (s.length + 1) w := fun l J Jx W hW _ _ hY h0 =>
  between1_in F n h74 hro hn l Bl Bt n₀ A cap last s hlen hs hlt J Jx hY W ((hW.cell (p := ⟨Bl, 0, none⟩) hBl).trans hc) ((hW.block Bt hBt).trans ht) (hA.below hW) h0
end Go.Proofs.Ytkimbkcghmelgaa
