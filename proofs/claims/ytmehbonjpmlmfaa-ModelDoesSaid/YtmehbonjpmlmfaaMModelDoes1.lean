/- 'ModelDoes' is true for every input, part 1 of its proof: words, contracts and plain laws. No condition. -/
import Derived.WalkKit
import Derived.Lib.BitFns
import Derived.Lib.ItoaNum
import Derived.Test.YtmehbonjpmlmfaaRows
import Derived.Test.YtmehbonjpmlmfaaShelf
import Derived.WalkSpells
import Derived.WalkLawsBesides
import Derived.Deep.QuietTactic
import Derived.BigQuiet
import Derived.IntWalk
import Derived.Below
import Derived.Deep.Draws
import Derived.Deep.Light
import Derived.WalkSmall
import Derived.LoopTactic
import Derived.OwnWalk
import Derived.Laws.OwnMore
import Derived.Lib.SliceRun
import Derived.Laws.IdiomCopy
import Derived.Shelf.Spec.SlicesInsertGrow
import Derived.Deep.RegionLaw
import Derived.Deep.DeepCutAuto
import Derived.Deep.RegionHeld3
namespace Go.Proofs.Ytmehbonjpmlmfaa

/-- how deep a node is -/
def dep (n : Nat) : Nat := Lib.bitLen n - 1
theorem bitLen_pos {n : Nat} (h : 1 ≤ n) (h2 : n < 18446744073709551616) : 1 ≤ Lib.bitLen n := (Lib.bitLenAux_bounds 64 n h2 (by omega)).1
theorem bitLen_dep {n : Nat} (h : 1 ≤ n) (h2 : n < 18446744073709551616) : Lib.bitLen n = dep n + 1 := by
  have := bitLen_pos h h2; unfold dep; omega
theorem dep_lo {n : Nat} (h : 1 ≤ n) (h2 : n < 18446744073709551616) : 2 ^ dep n ≤ n := (Lib.bitLenAux_bounds 64 n h2 (by omega)).2.1
theorem dep_hi {n : Nat} (h : 1 ≤ n) (h2 : n < 18446744073709551616) : n < 2 ^ (dep n + 1) := by
  have := (Lib.bitLenAux_bounds 64 n h2 (by omega)).2.2
  have e := bitLen_dep h h2
  unfold Lib.bitLen at e
  rw [e] at this; exact this
theorem pow_lt {a b : Nat} (h : 2 ^ a < 2 ^ b) : a < b := (Nat.pow_lt_pow_iff_right (by decide)).1 h
theorem pow_le {a b : Nat} (h : a ≤ b) : 2 ^ a ≤ 2 ^ b := Nat.pow_le_pow_right (by decide) h
theorem dep_unique {n d : Nat} (h1 : 2 ^ d ≤ n) (h2 : n < 2 ^ (d + 1)) (h3 : n < 18446744073709551616) : dep n = d := by
  have h0 : 1 ≤ n := Nat.le_trans (Nat.one_le_two_pow) h1
  have a := dep_lo h0 h3
  have b := dep_hi h0 h3
  have c := pow_lt (Nat.lt_of_le_of_lt a h2)
  have d := pow_lt (Nat.lt_of_le_of_lt h1 b)
  omega
theorem dep_lt {n : Nat} (h : 1 ≤ n) (h2 : n < 18446744073709551616) : dep n < 64 := by
  have := dep_lo h h2
  exact pow_lt (Nat.lt_of_le_of_lt this (by simpa using h2))
/-- there is such a node -/
def Node (h n : Nat) : Prop := 1 ≤ h ∧ h ≤ 32 ∧ 1 ≤ n ∧ dep n ≤ h ∧ n < 18446744073709551616
theorem Node.lt {h n : Nat} (H : Node h n) : n < 2 ^ (h + 1) := by
  obtain ⟨a, b, c, d, e⟩ := H
  exact Nat.lt_of_lt_of_le (dep_hi c e) (pow_le (by omega))
theorem dep_one : dep 1 = 0 := dep_unique (by decide) (by decide) (by decide)
end Go.Proofs.Ytmehbonjpmlmfaa

namespace Go.Proofs.Ytmehbonjpmlmfaa
open Go.RowKit

theorem mkHid {p : Prop} (h : p) : Hid p := h
theorem pow_int (k : Nat) : (2 : Int) ^ k = ((2 ^ k : Nat) : Int) := by rw [Int.natCast_pow]; rfl
theorem bits_or (a b : Nat) (ha : a < 18446744073709551616) (hb : b < 18446744073709551616) : bits BinOp.or IntKind.u64 (a : Int) (b : Int) = ((a ||| b : Nat) : Int) := by
  show IntKind.u64.wrap ((BitVec.ofInt 64 (a : Int) ||| BitVec.ofInt 64 (b : Int)).toNat : Int) = _
  have h := Nat.or_lt_two_pow (n := 64) ha hb
  rw [BitVec.ofInt_natCast, BitVec.ofInt_natCast, BitVec.toNat_or, BitVec.toNat_ofNat, BitVec.toNat_ofNat, Nat.mod_eq_of_lt ha, Nat.mod_eq_of_lt hb, IntKind.wrap_u64]
  omega
theorem or_pow {h i : Nat} (hi : i < 2 ^ h) : 2 ^ h ||| i = 2 ^ h + i := by
  have := Nat.two_pow_add_eq_or_of_lt hi 1
  rw [Nat.mul_one] at this
  exact this.symm
theorem nat_u64 {n : Int} (h : (Lit.int .u64 n).wf = true) : ∃ k : Nat, n = (k : Int) ∧ k < 18446744073709551616 := by
  have hmin : IntKind.u64.min = 0 := rfl
  have hmax : IntKind.u64.max = 18446744073709551615 := rfl
  simp only [Lit.wf, Bool.and_eq_true, decide_eq_true_eq, hmin, hmax] at h
  exact ⟨n.toNat, by omega, by omega⟩
theorem ret_int {k : IntKind} {a b : Int} (h : a = b) : Ending.returned (.int k a) = .returned (.int k b) := by rw [h]


set_option maxHeartbeats 400000 in
theorem high_yes (h : Nat) (h1 : 1 ≤ h) (h2 : h ≤ 32) (w : World) :
    Calls Try.prog 71 #[.int .i64 (h : Int)] w fun e w' => e = .returned (.bool true) ∧ w' = w := by
  have a : (1 : Int) ≤ (h : Int) := by omega
  have b : (h : Int) ≤ 32 := by omega
  have c : decide ((1 : Int) ≤ (h : Int)) = true := decide_eq_true a
  have d : decide ((h : Int) ≤ 32) = true := decide_eq_true b
  go_enter Try.func71, Try.ntmps71
  go_wp2_with fail
  go_ret
  exact ⟨by simp [*], rfl⟩

set_option maxHeartbeats 400000 in
theorem high_lo (h : Int) (h1 : h < 1) (w : World) :
    Calls Try.prog 71 #[.int .i64 h] w fun e w' => e = .returned (.bool false) ∧ w' = w := by
  have c : decide ((1 : Int) ≤ h) = false := decide_eq_false (by omega)
  go_enter Try.func71, Try.ntmps71
  go_wp2_with fail
  go_ret
  exact ⟨rfl, rfl⟩

set_option maxHeartbeats 400000 in
theorem high_hi (h : Int) (h1 : 32 < h) (w : World) :
    Calls Try.prog 71 #[.int .i64 h] w fun e w' => e = .returned (.bool false) ∧ w' = w := by
  have c : decide ((1 : Int) ≤ h) = true := decide_eq_true (by omega)
  have d : decide (h ≤ 32) = false := decide_eq_false (by omega)
  go_enter Try.func71, Try.ntmps71
  go_wp2_with fail
  go_ret
  exact ⟨by simp [*], rfl⟩

set_option maxHeartbeats 400000 in
theorem depth_eq {n d : Nat} (hd : Hid (dep n = d)) (h1 : 1 ≤ n) (h2 : n < 18446744073709551616) (w : World) :
    Calls Try.prog 72 #[.int .u64 (n : Int)] w fun e w' => e = .returned (.int .i64 (d : Int)) ∧ w' = w := by
  have hb := bitLen_dep h1 h2
  rw [hd.out] at hb
  have hl := dep_lt h1 h2
  rw [hd.out] at hl
  have hc : Calls Try.prog 79 #[.int .u64 (n : Int)] w fun e w' => e = .returned (.int .i64 ((d : Int) + 1)) ∧ w' = w := by
    have c := Try.bits_Len64 (n : Int) w (by omega) (by omega)
    rw [Int.toNat_natCast, hb] at c
    exact c
  clear hb
  go_enter Try.func72, Try.ntmps72
  go_wp2_with (first | (go_at_call 79; ((with_reducible refine (hc).mono ?_); rintro e w' ⟨rfl, rfl⟩)))
  go_ret
  exact ⟨ret_int (by omega), rfl⟩

set_option maxHeartbeats 400000 in
theorem check_yes {h n : Nat} (H : Node h n) (w : World) :
    Calls Try.prog 62 #[.int .i64 (h : Int), .int .u64 (n : Int)] w fun e w' => e = .returned (.int .i64 0) ∧ w' = w := by
  obtain ⟨d, hd⟩ : ∃ d, Hid (dep n = d) := ⟨_, mkHid rfl⟩
  obtain ⟨h1, h2, h3, h4, h5⟩ := H
  rw [hd.out] at h4
  have a : decide ((n : Int) < 1) = false := decide_eq_false (by omega)
  have b : decide ((h : Int) < (d : Int)) = false := decide_eq_false (by omega)
  have b' : decide (h < d) = false := decide_eq_false (by omega)
  go_enter Try.func62, Try.ntmps62
  go_wp2_with (first | (go_at_call 71; ((with_reducible refine (high_yes h h1 h2 _).mono ?_); rintro e w' ⟨rfl, rfl⟩)) | (go_at_call 72; ((with_reducible refine (depth_eq hd h3 h5 _).mono ?_); rintro e w' ⟨rfl, rfl⟩)))
  go_ret
  exact ⟨rfl, rfl⟩

set_option maxHeartbeats 400000 in
theorem check_lo {h : Int} {n : Nat} (H : h < 1) (w : World) :
    Calls Try.prog 62 #[.int .i64 h, .int .u64 (n : Int)] w fun e w' => e = .returned (.int .i64 1) ∧ w' = w := by
  go_enter Try.func62, Try.ntmps62
  go_wp2_with (first | (go_at_call 71; ((with_reducible refine (high_lo h H _).mono ?_); rintro e w' ⟨rfl, rfl⟩)))
  go_ret
  exact ⟨rfl, rfl⟩

set_option maxHeartbeats 400000 in
theorem check_hi {h : Int} {n : Nat} (H : 32 < h) (w : World) :
    Calls Try.prog 62 #[.int .i64 h, .int .u64 (n : Int)] w fun e w' => e = .returned (.int .i64 1) ∧ w' = w := by
  go_enter Try.func62, Try.ntmps62
  go_wp2_with (first | (go_at_call 71; ((with_reducible refine (high_hi h H _).mono ?_); rintro e w' ⟨rfl, rfl⟩)))
  go_ret
  exact ⟨rfl, rfl⟩

/-- there is no such node: of any whole number for a height -/
def NoNode (h : Int) (n : Nat) : Prop := h < 1 ∨ 32 < h ∨ n = 0 ∨ ∃ k : Nat, h = (k : Int) ∧ 1 ≤ k ∧ k ≤ 32 ∧ 1 ≤ n ∧ k < dep n
set_option maxHeartbeats 400000 in
theorem leaf_yes {h i r : Nat} (h1 : 1 ≤ h) (h2 : h ≤ 32) (hi : i < 2 ^ h) (hr : Hid (2 ^ h + i = r)) (w : World) :
    Calls Try.prog 73 #[.int .i64 (h : Int), .int .u64 (i : Int)] w fun e w' => e = .returned (.tuple #[.int .u64 ((r : Int)), .int .i64 0]) ∧ w' = w := by
  have hp : 2 ^ h ≤ 4294967296 := pow_le (b := 32) h2
  have hp0 := Nat.two_pow_pos h
  have es : (i : Int) / 2 ^ h = 0 := by rw [pow_int, ← Int.natCast_ediv, Nat.div_eq_of_lt hi]; rfl
  have el : IntKind.u64.wrap (2 ^ h) = ((2 ^ h : Nat) : Int) := by rw [pow_int, IntKind.wrap_u64]; omega
  have eo : bits BinOp.or IntKind.u64 ((2 : Int) ^ h) (i : Int) = (r : Int) := by rw [pow_int, bits_or _ _ (by omega) (by omega), or_pow hi, hr.out]
  clear hp hp0 hr hi
  go_enter Try.func73, Try.ntmps73
  go_wp2_with (first | (go_at_call 71; ((with_reducible refine (high_yes h h1 h2 _).mono ?_); rintro e w' ⟨rfl, rfl⟩)))
  go_ret2
  exact ⟨rfl, rfl⟩

set_option maxHeartbeats 400000 in
theorem leaf_none {h i : Nat} (h1 : 1 ≤ h) (h2 : h ≤ 32) (hi : 2 ^ h ≤ i) (w : World) :
    Calls Try.prog 73 #[.int .i64 (h : Int), .int .u64 (i : Int)] w fun e w' => e = .returned (.tuple #[.int .u64 (0), .int .i64 4]) ∧ w' = w := by
  have hp0 : 1 ≤ i / 2 ^ h := by rw [Nat.le_div_iff_mul_le (Nat.two_pow_pos h)]; omega
  have es : (0 : Int) < (i : Int) / 2 ^ h := by rw [pow_int, ← Int.natCast_ediv]; omega
  have ed : decide ((0 : Int) < (i : Int) / 2 ^ h) = true := decide_eq_true es
  clear hp0 hi
  go_enter Try.func73, Try.ntmps73
  go_wp2_with (first | (go_at_call 71; ((with_reducible refine (high_yes h h1 h2 _).mono ?_); rintro e w' ⟨rfl, rfl⟩)))
  go_ret2
  exact ⟨rfl, rfl⟩

end Go.Proofs.Ytmehbonjpmlmfaa

namespace Go.Proofs.Ytmehbonjpmlmfaa
open Go.RowKit

/-! a block of the heap known whole -/
def Blk (w : World) (n : Nat) (t : TypeId) (cs : Array Value) : Prop := w.heap[n]? = some (.cells cs t (0, 0))
theorem Blk.cell {w : World} {n : Nat} {t : TypeId} {cs : Array Value} (h : Blk w n t cs) (i : Nat) : w.cell? ⟨n, i, none⟩ = cs[i]? := by
  unfold Blk at h; simp [World.cell?, h]
theorem Blk.frozen {w : World} {n : Nat} {t : TypeId} {cs : Array Value} (h : Blk w n t cs) (i : Nat) : w.frozen? ⟨n, i, none⟩ = false := by
  unfold Blk at h; simp [World.frozen?, h]
theorem Blk.lt {w : World} {n : Nat} {t : TypeId} {cs : Array Value} (h : Blk w n t cs) : n < w.heap.size := (Array.getElem?_eq_some_iff.1 h).1
theorem Blk.new (w : World) (t : TypeId) (cs : Array Value) : Blk (w.alloc (.cells cs t)) w.heap.size t cs := by
  show (w.heap.push _)[w.heap.size]? = _
  simp
theorem Blk.set {w : World} {n : Nat} {t : TypeId} {cs : Array Value} (h : Blk w n t cs) (i : Nat) (u : Value) : Blk (w.setCell ⟨n, i, none⟩ u) n t (cs.setIfInBounds i u) := by
  unfold Blk at *
  simp [World.setCell, Array.getElem?_modify, h]
theorem Blk.drew {w : World} {n : Nat} {t : TypeId} {cs : Array Value} (h : Blk w n t cs) : Blk w.drew n t cs := h
theorem Blk.below {w w' : World} {n m : Nat} {t : TypeId} {cs : Array Value} (h : Blk w n t cs) (hb : Go.RowKit.Below m w w') (hn : n < m) : Blk w' n t cs := (hb.block n hn).trans h
theorem Blk.alloc {w : World} {n : Nat} {t : TypeId} {cs : Array Value} (h : Blk w n t cs) (o : Obj) : Blk (w.alloc o) n t cs := (Go.RowKit.Below.heap_alloc w o n h.lt).trans h
theorem Blk.other {w : World} {n m i : Nat} {t : TypeId} {cs : Array Value} (h : Blk w n t cs) (u : Value) (hm : n ≠ m) : Blk (w.setCell ⟨m, i, none⟩ u) n t cs := (Go.RowKit.Below.heap_setCell w ⟨m, i, none⟩ u n hm).trans h
theorem Blk.at (w : World) {n : Nat} (t : TypeId) (cs : Array Value) (h : n = w.heap.size) : Blk (w.alloc (.cells cs t)) n t cs := by subst h; exact Blk.new w t cs
theorem Blk.keep {w w1 : World} {n : Nat} {t : TypeId} {cs : Array Value} (h : Blk w n t cs) (hb : Below w.heap.size w w1) : Blk w1 n t cs := h.below hb h.lt
theorem Blk.four {w : World} {n : Nat} {t : TypeId} {a b c d : Value} (h : Blk w n t #[a, b, c, d]) :
    w.cell? ⟨n, 0, none⟩ = some a ∧ w.cell? ⟨n, 1, none⟩ = some b ∧ w.cell? ⟨n, 2, none⟩ = some c ∧ w.cell? ⟨n, 3, none⟩ = some d := ⟨h.cell 0, h.cell 1, h.cell 2, h.cell 3⟩
theorem keeps {W w1 : World} (hb : Below W.heap.size W w1) {p : Addr} {v : Value} (h : W.cell? p = some v) : w1.cell? p = some v := (hb.cell (World.block_lt_of_cell? W p h)).trans h
theorem _root_.Go.RowKit.Below.step {w a b : World} (h : Below w.heap.size w a) (hb : Below a.heap.size a b) : Below w.heap.size w b := h.trans (hb.mono h.size)
theorem keepsF {W w1 : World} (hb : Below W.heap.size W w1) {p : Addr} {v : Value} (h : W.cell? p = some v) (hf : W.frozen? p = false) : w1.frozen? p = false := (hb.frozen (World.block_lt_of_cell? W p h)).trans hf
end Go.Proofs.Ytmehbonjpmlmfaa

namespace Go.Proofs.YtmehbonjpmlmfaaW.PrintWords
end Go.Proofs.YtmehbonjpmlmfaaW.PrintWords
namespace Go.Proofs.Ytmehbonjpmlmfaa
open Go.RowKit

theorem own_base {w : World} {base : Nat} {e : TypeId} {size n : Nat} {v : Value} {xs : List Value} (h : w.ownsRow base e size v n xs) (k : Nat) (hk : v.ownBlock = some k) : base ≤ k := (World.ownsRow.lt h k hk).1
end Go.Proofs.Ytmehbonjpmlmfaa

namespace Go.Proofs.Ytmehbonjpmlmfaa
open Go.RowKit Go.Proofs.YtmehbonjpmlmfaaW.PrintWords

theorem addr_zero (a : Addr) : a.add 0 = a := by
  obtain ⟨b, o, sp⟩ := a
  unfold Addr.add
  split <;> simp_all
/-- the first k are leaves, one greater than the other -/
def OkTo (h : Nat) (s : List Nat) (k : Nat) : Prop := ∀ j, j < k → s.getD j 0 < 2 ^ h ∧ (0 < j → s.getD (j - 1) 0 < s.getD j 0)
def SetOk (h : Nat) (s : List Nat) : Prop := s.length ≤ 1024 ∧ OkTo h s s.length
theorem OkTo.zero (h : Nat) (s : List Nat) : OkTo h s 0 := fun _ hj => by omega
theorem OkTo.succ {h : Nat} {s : List Nat} {k : Nat} (H : OkTo h s k) (a : s.getD k 0 < 2 ^ h) (b : 0 < k → s.getD (k - 1) 0 < s.getD k 0) : OkTo h s (k + 1) := by
  intro j hj
  rcases Nat.lt_or_ge j k with l | l
  · exact H j l
  · obtain rfl : j = k := by omega
    exact ⟨a, b⟩
/-- a slice in memory that reads as a list of leaves -/
def Reads (w : World) (A : Option Addr) (s : List Nat) : Prop := s.length = s.length ∧ s.length ≤ 9223372036854775807 ∧ (0 < s.length → ∀ j, j < s.length → ∃ ad, A = some ad ∧ w.cell? (ad.add j) = some (.int .u64 ((s.getD j 0 : Nat) : Int)))
theorem Reads.cell {w : World} {A : Option Addr} {s : List Nat} (h : Reads w A s) (i : Nat) (hi : i < s.length) : ∃ ad, A = some ad ∧ w.cell? (ad.add i) = some (.int .u64 ((s.getD i 0 : Nat) : Int)) := h.2.2 (by omega) i hi
theorem Reads.below {w w1 : World} {A : Option Addr} {s : List Nat} (h : Reads w A s) (hb : Below w.heap.size w w1) : Reads w1 A s := ⟨rfl, h.2.1, fun _ j hj => by
  obtain ⟨ad, e, c⟩ := h.cell j hj
  exact ⟨ad, e, keeps hb c⟩⟩
theorem Reads.of_cells {w : World} {ad : Addr} {s : List Nat} (hl : s.length ≤ 9223372036854775807) (h : ∀ j, j < s.length → w.cell? (ad.add j) = some (.int .u64 ((s.getD j 0 : Nat) : Int))) : Reads w (some ad) s := ⟨rfl, hl, fun _ j hj => ⟨ad, rfl, h j hj⟩⟩
theorem Reads.nil (w : World) : Reads w none [] := ⟨rfl, by decide, fun h => absurd h (by decide)⟩
set_option maxHeartbeats 400000 in
theorem is_yes {h i : Nat} (h1 : 1 ≤ h) (h2 : h ≤ 32) (hi : i < 2 ^ h) (w : World) :
    Calls Try.prog 63 #[.int .i64 (h : Int), .int .u64 (i : Int)] w fun e w' => e = .returned (.bool true) ∧ w' = w := by
  have hi' := mkHid hi
  clear hi
  go_enter Try.func63, Try.ntmps63
  go_wp2_with (go_at_call 73; ((with_reducible refine (leaf_yes h1 h2 hi'.out (mkHid rfl) _).mono ?_); rintro e w' ⟨rfl, rfl⟩))
  go_ret
  exact ⟨rfl, rfl⟩
set_option maxHeartbeats 400000 in
theorem is_not {h i : Nat} (h1 : 1 ≤ h) (h2 : h ≤ 32) (hi : 2 ^ h ≤ i) (w : World) :
    Calls Try.prog 63 #[.int .i64 (h : Int), .int .u64 (i : Int)] w fun e w' => e = .returned (.bool false) ∧ w' = w := by
  have hi' := mkHid hi
  clear hi
  go_enter Try.func63, Try.ntmps63
  go_wp2_with (go_at_call 73; ((with_reducible refine (leaf_none h1 h2 hi'.out _).mono ?_); rintro e w' ⟨rfl, rfl⟩))
  go_ret
  exact ⟨rfl, rfl⟩
theorem is_any {h i : Nat} {z : Bool} (h1 : 1 ≤ h) (h2 : h ≤ 32) (hz : Hid (decide (i < 2 ^ h) = z)) (w : World) :
    Calls Try.prog 63 #[.int .i64 (h : Int), .int .u64 (i : Int)] w fun e w' => e = .returned (.bool z) ∧ w' = w := by
  rw [← hz.out]
  by_cases c : i < 2 ^ h
  · rw [decide_eq_true c]; exact is_yes h1 h2 c w
  · rw [decide_eq_false c]; exact is_not h1 h2 (by omega) w

theorem root_node {h : Nat} (h1 : 1 ≤ h) (h2 : h ≤ 32) : Node h 1 := ⟨h1, h2, by decide, by rw [dep_one]; omega, by decide⟩
theorem check_root {h : Nat} (h1 : 1 ≤ h) (h2 : h ≤ 32) (w : World) :
    Calls Try.prog 62 #[.int .i64 (h : Int), .int .u64 1] w fun e w' => e = .returned (.int .i64 0) ∧ w' = w := check_yes (root_node h1 h2) w
theorem check_root_no {h : Int} (H : h < 1 ∨ 32 < h) (w : World) :
    Calls Try.prog 62 #[.int .i64 h, .int .u64 1] w fun e w' => e = .returned (.int .i64 1) ∧ w' = w := by
  rcases H with H | H
  · exact check_lo (n := 1) H w
  · exact check_hi (n := 1) H w

set_option maxHeartbeats 400000 in
theorem lcheck_bad {h : Int} (H : h < 1 ∨ 32 < h) (A : Option Addr) (n c : Nat) (w : World) :
    Calls Try.prog 44 #[.int .i64 h, .slice A n c] w fun e w' => e = .returned (.int .i64 1) ∧ w' = w := by
  have H' := mkHid H
  clear H
  go_enter Try.func44, Try.ntmps44
  go_wp2_with (go_at_call 62; ((with_reducible refine (check_root_no H'.out _).mono ?_); rintro e w' ⟨rfl, rfl⟩))
  go_ret
  exact ⟨rfl, rfl⟩
set_option maxHeartbeats 400000 in
theorem lcheck_long {h : Nat} (h1 : 1 ≤ h) (h2 : h ≤ 32) {n : Nat} (hn : 1024 < n) (A : Option Addr) (c : Nat) (w : World) :
    Calls Try.prog 44 #[.int .i64 (h : Int), .slice A n c] w fun e w' => e = .returned (.int .i64 1) ∧ w' = w := by
  have e1 : decide ((1024 : Int) < (n : Int)) = true := decide_eq_true (by omega)
  go_enter Try.func44, Try.ntmps44
  go_wp2_with (go_at_call 62; ((with_reducible refine (check_root h1 h2 _).mono ?_); rintro e w' ⟨rfl, rfl⟩))
  go_ret
  exact ⟨rfl, rfl⟩
/-- Check, of a set or of none: r is what it answers, in a list that is not too long -/
theorem lcheck_walk {h : Nat} (h1 : 1 ≤ h) (h2 : h ≤ 32) {s : List Nat} (hn : s.length ≤ 1024) {r : Int} (hr : Hid ((OkTo h s s.length ∧ r = 0) ∨ (¬ OkTo h s s.length ∧ r = 1))) (A : Option Addr) (c : Nat) (w : World) (hA : Reads w A s) :
    Calls Try.prog 44 #[.int .i64 (h : Int), .slice A s.length c] w fun e w' => e = .returned (.int .i64 r) ∧ w' = w := by
  have e1 : decide ((1024 : Int) < (s.length : Int)) = false := decide_eq_false (by omega)
  have HA := mkHid hA
  clear hA
  generalize hm : s.length = m at *
  have Hm := mkHid hm
  clear hm
  go_enter Try.func44, Try.ntmps44
  go_wp2_with (go_at_call 62; ((with_reducible refine (check_root h1 h2 _).mono ?_); rintro e w' ⟨rfl, hw'⟩; obtain rfl := hw'.symm))
  go_loop [17] (fun i => ∃ k : Nat, k ≤ m ∧ i = .int .i64 (k : Int) ∧ Hid (OkTo h s k)) (fun i => m - (intOf i).toNat)
  case atStart => exact ⟨0, by omega, rfl, OkTo.zero h s⟩
  case round =>
    obtain ⟨k, hk, rfl, hok⟩ := hrel
    by_cases hlt : k < m
    · obtain ⟨ad, rfl, hc⟩ := HA.out.cell k (by rw [Hm.out]; exact hlt)
      obtain ⟨x, hx⟩ : ∃ x, Hid (s.getD k 0 = x) := ⟨_, mkHid rfl⟩
      rw [hx.out] at hc
      obtain ⟨z, hz⟩ : ∃ z, Hid (decide (x < 2 ^ h) = z) := ⟨_, mkHid rfl⟩
      have bad : (z = false ∨ (0 < k ∧ x ≤ s.getD (k - 1) 0)) → r = 1 := by
        intro hb
        rcases hr.out with ⟨a, _⟩ | ⟨_, b⟩
        · exfalso
          have q := a k hlt
          rw [hx.out] at q
          rcases hb with hb | ⟨hb1, hb2⟩
          · rw [hb] at hz
            have := of_decide_eq_false hz.out
            omega
          · have := q.2 hb1; omega
        · exact b
      have BAD := mkHid bad
      clear bad
      cases z
      · obtain rfl : r = 1 := BAD.out (.inl rfl)
        go_wp2_with (go_at_call 63; ((with_reducible refine (is_any h1 h2 hz _).mono ?_); rintro e w' ⟨rfl, hw'⟩; obtain rfl := hw'.symm))
        go_ret
        exact ⟨rfl, rfl⟩
      · by_cases hk0 : k = 0
        · subst hk0
          have hc0 : w.cell? ad = some (.int .u64 (x : Int)) := by rw [← addr_zero ad]; exact hc
          go_wp2_with (go_at_call 63; ((with_reducible refine (is_any h1 h2 hz _).mono ?_); rintro e w' ⟨rfl, hw'⟩; obtain rfl := hw'.symm))
          go_round
          case rel => exact ⟨1, by omega, rfl, hok.out.succ (by rw [hx.out]; exact of_decide_eq_true hz.out) (fun h => by omega)⟩
          case measure => simp [intOf]; omega
        · obtain ⟨ad', e', hc'⟩ := HA.out.cell (k - 1) (by rw [Hm.out]; omega)
          cases e'
          obtain ⟨y, hy⟩ : ∃ y, Hid (s.getD (k - 1) 0 = y) := ⟨_, mkHid rfl⟩
          rw [hy.out] at hc'
          have ek : (k : Int) - 1 = ((k - 1 : Nat) : Int) := by omega
          have hk1 : k - 1 < m := by omega
          have e0 : decide ((0 : Int) < (k : Int)) = true := decide_eq_true (by omega)
          by_cases hxy : x ≤ y
          · obtain rfl : r = 1 := BAD.out (.inr ⟨by omega, by rw [hy.out]; exact hxy⟩)
            have e2 : decide (x ≤ y) = true := decide_eq_true hxy
            generalize k - 1 = k' at *
            go_wp2_with (go_at_call 63; ((with_reducible refine (is_any h1 h2 hz _).mono ?_); rintro e w' ⟨rfl, hw'⟩; obtain rfl := hw'.symm))
            go_ret
            exact ⟨rfl, rfl⟩
          · have e2 : decide (x ≤ y) = false := decide_eq_false hxy
            have hok' := mkHid (hok.out.succ (by rw [hx.out]; exact of_decide_eq_true hz.out) (fun _ => by rw [hx.out, hy.out]; omega))
            generalize k - 1 = k' at *
            go_wp2_with (go_at_call 63; ((with_reducible refine (is_any h1 h2 hz _).mono ?_); rintro e w' ⟨rfl, hw'⟩; obtain rfl := hw'.symm))
            go_round
            case rel => exact ⟨k + 1, by omega, by go_num, hok'⟩
            case measure => simp [intOf]; omega
    · obtain rfl : k = m := by omega
      obtain rfl : r = 0 := by
        rcases hr.out with ⟨_, b⟩ | ⟨a, _⟩
        · exact b
        · exact absurd hok.out a
      go_wp2_with fail
      go_ret
      exact ⟨rfl, rfl⟩
theorem lcheck_yes {h : Nat} (h1 : 1 ≤ h) (h2 : h ≤ 32) {s : List Nat} (hs : SetOk h s) (A : Option Addr) (c : Nat) (w : World) (hA : Reads w A s) :
    Calls Try.prog 44 #[.int .i64 (h : Int), .slice A s.length c] w fun e w' => e = .returned (.int .i64 0) ∧ w' = w :=
  lcheck_walk h1 h2 hs.1 (mkHid (.inl ⟨hs.2, rfl⟩)) A c w hA
theorem lcheck_no {h : Nat} (h1 : 1 ≤ h) (h2 : h ≤ 32) {s : List Nat} (hs : ¬ SetOk h s) (A : Option Addr) (c : Nat) (w : World) (hA : Reads w A s) :
    Calls Try.prog 44 #[.int .i64 (h : Int), .slice A s.length c] w fun e w' => e = .returned (.int .i64 1) ∧ w' = w := by
  by_cases hn : s.length ≤ 1024
  · exact lcheck_walk h1 h2 hn (mkHid (.inr ⟨fun q => hs ⟨hn, q⟩, rfl⟩)) A c w hA
  · exact lcheck_long h1 h2 (by omega) A c w
end Go.Proofs.Ytmehbonjpmlmfaa

namespace Go.Proofs.Ytmehbonjpmlmfaa
open Go.RowKit

set_option maxHeartbeats 400000 in
theorem nan1 (x : Nat) (w : World) : Calls Try.prog 81 #[.int .u64 (x : Int)] w fun e w' => e = .returned (.bool false) ∧ w' = w := by
  go_enter Try.func81, Try.ntmps81
  go_wp2_with fail
  go_ret
  exact ⟨by simp, rfl⟩
set_option maxHeartbeats 400000 in
theorem nan2 (x : Nat) (w : World) : Calls Try.prog 78 #[.int .u64 (x : Int)] w fun e w' => e = .returned (.bool false) ∧ w' = w := by
  go_enter Try.func78, Try.ntmps78
  go_wp2_with fail
  go_ret
  exact ⟨by simp, rfl⟩
set_option maxHeartbeats 400000 in
theorem less_u64 {x y : Nat} {z : Bool} (hz : decide (x < y) = z) (w : World) : Calls Try.prog 77 #[.int .u64 (x : Int), .int .u64 (y : Int)] w fun e w' => e = .returned (.bool z) ∧ w' = w := by
  go_enter Try.func77, Try.ntmps77
  go_wp2_with (go_at_call 81; ((with_reducible refine (nan1 _ _).mono ?_); rintro e w' ⟨rfl, rfl⟩))
  go_ret
  exact ⟨by simp, rfl⟩
/-- the place of a number in a list that grows: below it all are less, from it on none -/
structure Place (s : List Nat) (t k : Nat) : Prop where
  le : k ≤ s.length
  lo : ∀ j, j < k → s.getD j 0 < t
  hi : ∀ j, k ≤ j → j < s.length → t ≤ s.getD j 0

set_option maxRecDepth 100000 in
set_option maxHeartbeats 2000000 in
theorem search_eq {s : List Nat} {t k : Nat} {z : Bool} (hp : Hid (Place s t k)) (hz : Hid (decide (k < s.length ∧ s.getD k 0 = t) = z)) (hlen : s.length ≤ 4611686018427387904) (A : Option Addr) (c : Nat) (w : World) (hA : Reads w A s) :
    Calls Try.prog 70 #[.slice A s.length c, .int .u64 (t : Int)] w fun e w' => e = .returned (.tuple #[.int .i64 (k : Int), .bool z]) ∧ w' = w := by
  have hkl := hp.out.le
  have HA := mkHid hA
  clear hA
  generalize hm : s.length = m at *
  have Hm := mkHid hm
  clear hm
  go_enter Try.func70, Try.ntmps70
  go_wp2_with fail
  go_loop [7, 8] (fun i j => ∃ p q : Nat, p ≤ k ∧ k ≤ q ∧ q ≤ m ∧ i = .int .i64 (p : Int) ∧ j = .int .i64 (q : Int)) (fun i j => (intOf j).toNat - (intOf i).toNat)
  case atStart => exact ⟨0, m, by omega, hkl, by omega, rfl, rfl⟩
  case round =>
    obtain ⟨p, q, h1, h2, h3, rfl, rfl⟩ := hrel
    by_cases hlt : p < q
    · have hh : (p + q) / 2 < m := by omega
      obtain ⟨ad, rfl, hc⟩ := HA.out.cell ((p + q) / 2) (by rw [Hm.out]; exact hh)
      obtain ⟨x, hx⟩ : ∃ x, Hid (s.getD ((p + q) / 2) 0 = x) := ⟨_, mkHid rfl⟩
      rw [hx.out] at hc
      have e1 : IntKind.u64.wrap ((p : Int) + (q : Int)) = ((p + q : Nat) : Int) := by rw [IntKind.wrap_u64]; omega
      have e2 : ((p : Int) + (q : Int)) / 2 = (((p + q) / 2 : Nat) : Int) := by omega
      have hb : p ≤ (p + q) / 2 ∧ (p + q) / 2 < q := by omega
      have hlo : k ≤ (p + q) / 2 → t ≤ x := fun h => by rw [← hx.out]; exact hp.out.hi _ h (by rw [Hm.out]; exact hh)
      have hhi : (p + q) / 2 < k → x < t := fun h => by rw [← hx.out]; exact hp.out.lo _ h
      have Hlo := mkHid hlo
      have Hhi := mkHid hhi
      clear hlo hhi
      generalize hg : (p + q) / 2 = g at *
      clear hg
      by_cases c : x < t
      · have hgk : g < k := by
          rcases Nat.lt_or_ge g k with l | l
          · exact l
          · have := Hlo.out l; omega
        go_wp2_with (go_at_call 77; ((with_reducible refine (less_u64 (decide_eq_true c) _).mono ?_); rintro e w' ⟨rfl, hw'⟩; obtain rfl := hw'.symm))
        go_round
        case rel => exact ⟨g + 1, q, by omega, h2, h3, by go_num, rfl⟩
        case measure => simp [intOf]; omega
      · have hgk : k ≤ g := by
          rcases Nat.lt_or_ge g k with l | l
          · have := Hhi.out l; omega
          · exact l
        go_wp2_with (go_at_call 77; ((with_reducible refine (less_u64 (decide_eq_false c) _).mono ?_); rintro e w' ⟨rfl, hw'⟩; obtain rfl := hw'.symm))
        go_round
        case rel => exact ⟨p, g, h1, hgk, by omega, rfl, rfl⟩
        case measure => simp [intOf]; omega
    · obtain rfl : p = k := by omega
      obtain rfl : q = p := by omega
      by_cases hkm : q < m
      · obtain ⟨ad, rfl, hc⟩ := HA.out.cell q (by rw [Hm.out]; exact hkm)
        obtain ⟨x, hx⟩ : ∃ x, Hid (s.getD q 0 = x) := ⟨_, mkHid rfl⟩
        rw [hx.out] at hc
        have t1 : decide (q < m) = true := decide_eq_true hkm
        have ez : (x == t) = z := by
          have := hz.out
          rw [hx.out] at this
          rw [← this, Bool.eq_iff_iff, beq_iff_eq, decide_eq_true_eq]
          exact ⟨fun h => ⟨hkm, h⟩, fun h => h.2⟩
        have ez' : ((x : Int) == (t : Int)) = z := by rw [← ez, Bool.eq_iff_iff, beq_iff_eq, beq_iff_eq]; omega
        cases z
        all_goals
          go_wp2_with (go_at_call 78; ((with_reducible refine (nan2 _ _).mono ?_); rintro e w' ⟨rfl, hw'⟩; obtain rfl := hw'.symm))
          go_ret2
          exact ⟨by simp, rfl⟩
      · have t1 : decide (q < m) = false := decide_eq_false hkm
        have ez : z = false := by rw [← hz.out, decide_eq_false]; omega
        subst ez
        go_wp2_with fail
        go_ret2
        exact ⟨by simp, rfl⟩
/-- of each set each leaf has its place -/
theorem OkTo.mono {h : Nat} {s : List Nat} {n : Nat} (H : OkTo h s n) : ∀ d i, i + d < n → s.getD i 0 + d ≤ s.getD (i + d) 0 := by
  intro d
  induction d with
  | zero => intro i _; rw [Nat.add_zero, Nat.add_zero]; exact Nat.le_refl _
  | succ d ih =>
    intro i hi
    have a := ih i (by omega)
    have b := (H (i + (d + 1)) hi).2 (by omega)
    rw [show i + (d + 1) - 1 = i + d by omega] at b
    omega
theorem place_ex {h : Nat} {s : List Nat} (H : OkTo h s s.length) (t : Nat) : ∃ k, Place s t k := by
  have step : ∀ n, n ≤ s.length → (∃ k, k ≤ n ∧ (∀ j, j < k → s.getD j 0 < t) ∧ (∀ j, k ≤ j → j < n → t ≤ s.getD j 0)) := by
    intro n
    induction n with
    | zero => intro _; exact ⟨0, by omega, fun j h => by omega, fun j _ h => by omega⟩
    | succ n ih =>
      intro hn
      obtain ⟨k, h1, h2, h3⟩ := ih (by omega)
      by_cases c : s.getD n 0 < t
      · refine ⟨n + 1, by omega, fun j hj => ?_, fun j _ _ => by omega⟩
        have := H.mono (n - j) j (by omega)
        rw [show j + (n - j) = n by omega] at this
        omega
      · refine ⟨k, by omega, h2, fun j hk hj => ?_⟩
        rcases Nat.lt_or_ge j n with l | l
        · exact h3 j hk l
        · obtain rfl : j = n := by omega
          omega
  obtain ⟨k, h1, h2, h3⟩ := step s.length (Nat.le_refl _)
  exact ⟨k, ⟨h1, h2, h3⟩⟩
/-- whether it is in it -/
theorem place_mem {h : Nat} {s : List Nat} (H : OkTo h s s.length) {t k : Nat} (P : Place s t k) : (k < s.length ∧ s.getD k 0 = t) ↔ t ∈ s := by
  constructor
  · rintro ⟨a, b⟩
    rw [List.getD_eq_getElem?_getD, List.getElem?_eq_getElem a] at b
    rw [← b]
    exact List.getElem_mem a
  · intro hm
    obtain ⟨j, hj, e⟩ := List.getElem_of_mem hm
    have e' : s.getD j 0 = t := by rw [List.getD_eq_getElem?_getD, List.getElem?_eq_getElem hj]; exact e
    have a : k ≤ j := by
      rcases Nat.lt_or_ge j k with l | l
      · have := P.lo j l; omega
      · exact l
    have b := P.hi k (Nat.le_refl _) (by omega)
    refine ⟨by omega, ?_⟩
    have := H.mono (j - k) k (by omega)
    rw [show k + (j - k) = j by omega] at this
    omega
end Go.Proofs.Ytmehbonjpmlmfaa

namespace Go.Proofs.Ytmehbonjpmlmfaa
open Go.RowKit

set_option maxHeartbeats 400000 in
theorem find_yes {h : Nat} (h1 : 1 ≤ h) (h2 : h ≤ 32) {s : List Nat} (hs : Hid (SetOk h s)) {t k : Nat} (ht : t < 2 ^ h) {z : Bool} (hp : Hid (Place s t k)) (hz : Hid (decide (k < s.length ∧ s.getD k 0 = t) = z)) (A : Option Addr) (c : Nat) (w : World) (hA : Reads w A s) :
    Calls Try.prog 61 #[.int .i64 (h : Int), .slice A s.length c, .int .u64 (t : Int)] w fun e w' => e = .returned (.tuple #[.int .i64 (k : Int), .bool z, .int .i64 0]) ∧ w' = w := by
  have hlen : s.length ≤ 4611686018427387904 := by have := hs.out.1; omega
  have HA := mkHid hA
  have HT := mkHid ht
  clear hA ht
  go_enter Try.func61, Try.ntmps61
  go_wp2_with first
    | (go_at_call 44; ((with_reducible refine (lcheck_yes h1 h2 hs.out _ _ _ HA.out).mono ?_); rintro e w' ⟨rfl, hw'⟩; obtain rfl := hw'.symm))
    | (go_at_call 63; ((with_reducible refine (is_yes h1 h2 HT.out _).mono ?_); rintro e w' ⟨rfl, hw'⟩; obtain rfl := hw'.symm))
    | (go_at_call 70; ((with_reducible refine (search_eq hp hz hlen _ _ _ HA.out).mono ?_); rintro e w' ⟨rfl, hw'⟩; obtain rfl := hw'.symm))
  go_ret3
  exact ⟨by simp, rfl⟩
set_option maxHeartbeats 400000 in
theorem find_set {h : Nat} (h1 : 1 ≤ h) (h2 : h ≤ 32) {s : List Nat} (hs : Hid (¬ SetOk h s)) (t : Nat) (A : Option Addr) (c : Nat) (w : World) (hA : Reads w A s) :
    Calls Try.prog 61 #[.int .i64 (h : Int), .slice A s.length c, .int .u64 (t : Int)] w fun e w' => e = .returned (.tuple #[.int .i64 0, .bool false, .int .i64 1]) ∧ w' = w := by
  have HA := mkHid hA
  clear hA
  go_enter Try.func61, Try.ntmps61
  go_wp2_with (go_at_call 44; ((with_reducible refine (lcheck_no h1 h2 hs.out _ _ _ HA.out).mono ?_); rintro e w' ⟨rfl, hw'⟩; obtain rfl := hw'.symm))
  go_ret3
  exact ⟨by simp, rfl⟩
set_option maxHeartbeats 400000 in
theorem find_leaf {h : Nat} (h1 : 1 ≤ h) (h2 : h ≤ 32) {s : List Nat} (hs : Hid (SetOk h s)) {t : Nat} (ht : 2 ^ h ≤ t) (A : Option Addr) (c : Nat) (w : World) (hA : Reads w A s) :
    Calls Try.prog 61 #[.int .i64 (h : Int), .slice A s.length c, .int .u64 (t : Int)] w fun e w' => e = .returned (.tuple #[.int .i64 0, .bool false, .int .i64 1]) ∧ w' = w := by
  have HA := mkHid hA
  have HT := mkHid ht
  clear hA ht
  go_enter Try.func61, Try.ntmps61
  go_wp2_with first
    | (go_at_call 44; ((with_reducible refine (lcheck_yes h1 h2 hs.out _ _ _ HA.out).mono ?_); rintro e w' ⟨rfl, hw'⟩; obtain rfl := hw'.symm))
    | (go_at_call 63; ((with_reducible refine (is_not h1 h2 HT.out _).mono ?_); rintro e w' ⟨rfl, hw'⟩; obtain rfl := hw'.symm))
  go_ret3
  exact ⟨by simp, rfl⟩
set_option maxHeartbeats 400000 in
theorem find_bad {h : Int} (H : h < 1 ∨ 32 < h) (n t : Nat) (A : Option Addr) (c : Nat) (w : World) :
    Calls Try.prog 61 #[.int .i64 h, .slice A n c, .int .u64 (t : Int)] w fun e w' => e = .returned (.tuple #[.int .i64 0, .bool false, .int .i64 1]) ∧ w' = w := by
  have H' := mkHid H
  clear H
  go_enter Try.func61, Try.ntmps61
  go_wp2_with (go_at_call 44; ((with_reducible refine (lcheck_bad H'.out _ _ _ _).mono ?_); rintro e w' ⟨rfl, hw'⟩; obtain rfl := hw'.symm))
  go_ret3
  exact ⟨by simp, rfl⟩
/-- what find refuses -/
structure Refuses (h : Int) (s : List Nat) (t : Nat) : Prop where
  no : ¬ ((1 ≤ h ∧ h ≤ 32) ∧ SetOk h.toNat s ∧ t < 2 ^ h.toNat)
theorem find_no {h : Int} {s : List Nat} {t : Nat} (R : Refuses h s t) (A : Option Addr) (c : Nat) (w : World) (hA : Reads w A s) :
    Calls Try.prog 61 #[.int .i64 h, .slice A s.length c, .int .u64 (t : Int)] w fun e w' => e = .returned (.tuple #[.int .i64 0, .bool false, .int .i64 1]) ∧ w' = w := by
  by_cases H : 1 ≤ h ∧ h ≤ 32
  · obtain ⟨n, rfl⟩ : ∃ n : Nat, h = n := ⟨h.toNat, by omega⟩
    have e : (n : Int).toNat = n := by omega
    have r := R.no
    rw [e] at r
    by_cases hs : SetOk n s
    · exact find_leaf (by omega) (by omega) (mkHid hs) (by
        rcases Nat.lt_or_ge t (2 ^ n) with l | l
        · exact absurd ⟨H, hs, l⟩ r
        · exact l) A c w hA
    · exact find_set (by omega) (by omega) (mkHid hs) t A c w hA
  · exact find_bad (by omega) _ t A c w
set_option maxHeartbeats 400000 in
theorem has_no {h : Int} {s : List Nat} {t : Nat} (R : Refuses h s t) (A : Option Addr) (c : Nat) (w : World) (hA : Reads w A s) :
    Calls Try.prog 43 #[.int .i64 h, .slice A s.length c, .int .u64 (t : Int)] w fun e w' => e = .returned (.tuple #[.bool false, .int .i64 1]) ∧ w' = w := by
  have HA := mkHid hA
  clear hA
  go_enter Try.func43, Try.ntmps43
  go_wp2_with (go_at_call 61; ((with_reducible refine (find_no R _ _ _ HA.out).mono ?_); rintro e w' ⟨rfl, hw'⟩; obtain rfl := hw'.symm))
  go_ret2
  exact ⟨by simp, rfl⟩
set_option maxHeartbeats 400000 in
theorem has_yes {h : Nat} (h1 : 1 ≤ h) (h2 : h ≤ 32) {s : List Nat} (hs : Hid (SetOk h s)) {t : Nat} (ht : t < 2 ^ h) {z : Bool} (hz : Hid (decide (t ∈ s) = z)) (A : Option Addr) (c : Nat) (w : World) (hA : Reads w A s) :
    Calls Try.prog 43 #[.int .i64 (h : Int), .slice A s.length c, .int .u64 (t : Int)] w fun e w' => e = .returned (.tuple #[.bool z, .int .i64 0]) ∧ w' = w := by
  obtain ⟨k, hk⟩ := place_ex hs.out.2 t
  have hz' : Hid (decide (k < s.length ∧ s.getD k 0 = t) = z) := by
    unfold Hid
    rw [← hz.out, Bool.eq_iff_iff, decide_eq_true_eq, decide_eq_true_eq]
    exact place_mem hs.out.2 hk
  have HK := mkHid hk
  have HA := mkHid hA
  clear hA hk
  go_enter Try.func43, Try.ntmps43
  go_wp2_with (go_at_call 61; ((with_reducible refine (find_yes h1 h2 hs ht HK hz' _ _ _ HA.out).mono ?_); rintro e w' ⟨rfl, hw'⟩; obtain rfl := hw'.symm))
  go_ret2
  exact ⟨by simp, rfl⟩
end Go.Proofs.Ytmehbonjpmlmfaa

namespace Go.Proofs.Ytmehbonjpmlmfaa
open Go.RowKit

def natCells (s : List Nat) : List Value := s.map fun (x : Nat) => Value.int .u64 (x : Int)
theorem natCells_length (s : List Nat) : (natCells s).length = s.length := by simp [natCells]
theorem natCells_get (s : List Nat) (j : Nat) (h : j < s.length) : (natCells s)[j]? = some (.int .u64 ((s.getD j 0 : Nat) : Int)) := by
  unfold natCells
  rw [List.getElem?_map, List.getD_eq_getElem?_getD, List.getElem?_eq_getElem h]; rfl
theorem info_u64 : (Try.prog.info? 30).map (fun i => (i.zero, i.size, i.bytes)) = some (some (.int .u64 0), 1, 8) := by kernel_rfl
theorem Reads.of_row {w : World} {base : Nat} {v : Value} {s : List Nat} (h : w.ownsRow base 30 1 v s.length (natCells s)) : ∃ A c, v = .slice A s.length c ∧ s.length ≤ c ∧ c ≤ maxLen ∧ Reads w A s := by
  rcases h.2 with ⟨rfl, h0⟩ | ⟨g, cap, cur, rfl, _, _, h1, h2, _⟩
  · obtain rfl : s = [] := List.length_eq_zero_iff.1 h0
    exact ⟨none, 0, rfl, Nat.le_refl _, Nat.zero_le _, Reads.nil w⟩
  · exact ⟨_, cap, rfl, h1, h2, Reads.of_cells (by unfold maxLen at h2; omega) fun j hj => by
      have := h.cells (g := g) rfl j _ (natCells_get s j hj)
      exact this⟩
theorem Reads.news {w wc : World} {ad : Addr} {s : List Nat} (h : Reads w (some ad) s) (hb : Below w.heap.size w wc) : ∀ (j : Nat) (u : Value), (natCells s)[j]? = some u → wc.cell? (ad.add j) = some u := by
  intro j u hj
  have hl : j < s.length := by
    have := (List.getElem?_eq_some_iff.1 hj).1
    rwa [natCells_length] at this
  rw [natCells_get s j hl] at hj
  cases hj
  obtain ⟨ad', e, hc⟩ := h.cell j hl
  cases e
  exact keeps hb hc
theorem natCells_one (s : List Nat) : ∀ u ∈ natCells s, u.oneCell' = true := by
  intro u hu
  obtain ⟨x, _, rfl⟩ := List.mem_map.1 hu
  rfl
set_option maxRecDepth 100000 in
set_option maxHeartbeats 2000000 in
theorem clone_some (ad : Addr) {s : List Nat} (c : Nat) (hs : s.length ≤ 1048576) (w : World) (hA : Reads w (some ad) s) :
    Calls Try.prog 56 #[.slice (some ad) s.length c] w fun e w' => ∃ v, e = .returned v ∧ w'.ownsRow w.heap.size 30 1 v s.length (natCells s) ∧ Below w.heap.size w w' := by
  obtain ⟨i0, hi, hz0, hz1, hz2⟩ := info_parts info_u64
  have HN := mkHid (fun wc hb => Reads.news (wc := wc) hA hb)
  clear hA
  have q22 : ∀ (w : World) (a : Option Addr) (n c n' c' : Nat), (binOp .eql 22 (.slice a n c) (.slice none n' c')).run Try.prog w = .ok (.bool a.isNone) w := fun w a n c n' c' => Lib.run_eql_slice_nil w _ _ a n c n' c' Try.underlying22
  go_enter Try.func56, Try.ntmps56
  go_wp2_with (at_builtin; refine wpList_append_own _ rfl _ _ 22 rfl w.heap.size 30 i0 (.int .u64 0) 1 8 Try.underlying22 hi hz0 hz1 hz2 rfl (by decide) _ _ _ rfl (World.ownsRow_made w #[] 0 (Nat.le_refl _) (Nat.zero_le _) rfl) ad s.length c (natCells s) rfl ?qc1 ?qc2 ?qc3 ?qc4 ?qc5 ?qc6 ?_)
  case qc1 => rw [natCells_length]; omega
  case qc2 => exact HN.out _ ((Below.refl _ w).alloc (Nat.le_refl _) _)
  case qc3 => exact natCells_one s
  case qc4 => unfold maxLen; omega
  case qc5 => omega
  case qc6 => simp
  intro v' w1 hown hgrow hnil
  go_wp2
  go_ret
  refine ⟨v', rfl, by simpa using hown, ?_⟩
  exact ((Below.refl _ w).alloc (Nat.le_refl _) _).grown hgrow (by simp) (by intro k hk; simp [Value.ownBlock] at hk; omega)
set_option maxHeartbeats 1000000 in
theorem clone_nil (n c : Nat) (w : World) :
    Calls Try.prog 56 #[.slice none n c] w fun e w' => e = .returned (.slice none 0 0) ∧ w' = w := by
  have q22 : ∀ (w : World) (a : Option Addr) (n c n' c' : Nat), (binOp .eql 22 (.slice a n c) (.slice none n' c')).run Try.prog w = .ok (.bool a.isNone) w := fun w a n c n' c' => Lib.run_eql_slice_nil w _ _ a n c n' c' Try.underlying22
  go_enter Try.func56, Try.ntmps56
  go_wp2
  go_ret
  exact ⟨rfl, rfl⟩
theorem clone_any (A : Option Addr) {s : List Nat} (c : Nat) (hs : s.length ≤ 1048576) (w : World) (hA : Reads w A s) :
    Calls Try.prog 56 #[.slice A s.length c] w fun e w' => ∃ v, e = .returned v ∧ w'.ownsRow w.heap.size 30 1 v s.length (natCells s) ∧ Below w.heap.size w w' := by
  cases A with
  | some ad => exact clone_some ad c hs w hA
  | none =>
    obtain rfl : s = [] := by
      by_cases h : 0 < s.length
      · obtain ⟨ad, e, _⟩ := hA.cell 0 h
        cases e
      · exact List.length_eq_zero_iff.1 (by omega)
    exact (clone_nil 0 c w).mono fun e w' ⟨h1, h2⟩ => ⟨_, h1, by subst h2; exact World.ownsRow_nil _ _ _ _, by subst h2; exact Below.refl _ _⟩
end Go.Proofs.Ytmehbonjpmlmfaa

namespace Go.Proofs.Ytmehbonjpmlmfaa
open Go.RowKit

theorem _root_.Go.World.ownsRow.base {w : World} {b b' : Nat} {e : TypeId} {size : Nat} {v : Value} {n : Nat} {xs : List Value} (h : w.ownsRow b' e size v n xs) (hb : b ≤ b') : w.ownsRow b e size v n xs := by
  refine ⟨h.1, ?_⟩
  rcases h.2 with ⟨h1, h2⟩ | ⟨g, cap, cur, h1, h2, h3⟩
  · exact .inl ⟨h1, h2⟩
  · exact .inr ⟨g, cap, cur, h1, by omega, h3⟩
theorem Reads.of_row' {w : World} {base : Nat} {v : Value} {s : List Nat} (h : w.ownsRow base 30 1 v s.length (natCells s)) : ∃ A c, v = .slice A s.length c ∧ s.length ≤ c ∧ c ≤ maxLen ∧ Reads w A s ∧ (A = none → c = 0) := by
  rcases h.2 with ⟨rfl, h0⟩ | ⟨g, cap, cur, rfl, _, _, h1, h2, _⟩
  · obtain rfl : s = [] := List.length_eq_zero_iff.1 h0
    exact ⟨none, 0, rfl, Nat.le_refl _, Nat.zero_le _, Reads.nil w, fun _ => rfl⟩
  · exact ⟨_, cap, rfl, h1, h2, Reads.of_cells (by unfold maxLen at h2; omega) fun j hj => by
      have := h.cells (g := g) rfl j _ (natCells_get s j hj)
      exact this, fun e => by cases e⟩
end Go.Proofs.Ytmehbonjpmlmfaa

namespace Go.Proofs.Ytmehbonjpmlmfaa
open Go.RowKit Go.Proofs.YtmehbonjpmlmfaaW.PrintWords

theorem natCells_append (s t : List Nat) : natCells (s ++ t) = natCells s ++ natCells t := by simp [natCells]
theorem Reads.none_nil {w : World} {s : List Nat} (h : Reads w none s) : s = [] := by
  by_cases c : 0 < s.length
  · obtain ⟨ad, e, _⟩ := h.cell 0 c
    cases e
  · exact List.length_eq_zero_iff.1 (by omega)
theorem run_append_u64 {w : World} (ty : TypeId) (base : Nat) (v : Value) (S : List Nat) (hown : w.ownsRow base 30 1 v S.length (natCells S)) (A : Option Addr) (c : Nat) (L : List Nat)
    (hA : Reads w A L) (z : A = none → c = 0) (b1 : S.length + L.length ≤ 1048576) (hbase : base ≤ w.heap.size) :
    ∃ v' w', (Builtin.append_ #[22, 22] ty #[v, .slice A L.length c]).run Try.prog w = .ok v' w' ∧ w'.ownsRow base 30 1 v' (S ++ L).length (natCells (S ++ L)) ∧ Below base w w' := by
  obtain ⟨i0, hi, hz0, hz1, hz2⟩ := info_parts info_u64
  cases A with
  | none =>
    obtain rfl := hA.none_nil
    obtain rfl := z rfl
    refine ⟨v, w, run_append_owned_none (P := Try.prog) (w := w) base 22 ty 30 i0 1 Try.underlying22 hi v S.length (natCells S) hown, ?_, Below.refl _ _⟩
    rw [List.append_nil]; exact hown
  | some ad =>
    obtain ⟨v', w', hr, h2, h3, h4⟩ := run_append_own (P := Try.prog) w base 22 ty 30 i0 (.int .u64 0) 1 8 Try.underlying22 hi hz0 hz1 hz2 rfl (by decide) v S.length (natCells S) hown ad L.length c (natCells L) (by rw [natCells_length]; omega) (hA.news (Below.refl _ _)) (natCells_one L) (by unfold maxLen; omega) (by omega) hbase
    refine ⟨v', w', hr, by rw [List.length_append, natCells_append]; exact h2, (Below.refl base w).grown h3 hbase fun k e => own_base (h := hown) k e⟩
theorem wpList_append_u64 {ops : Array Oper} {rest : List Oper} {o : Oper} {a : Act} {w : World} {Q : Exit → Act → World → Prop} (hw : Region.wanted o (yielded ops a.tmps) = true) (s x : Operand)
    (ho : o.op = .call { callee := .builtin .append, args := #[s, x], argTypes := #[22, 22] }) (base : Nat) (v : Value) (S : List Nat) (hs : a.eval s = v) (hown : w.ownsRow base 30 1 v S.length (natCells S))
    (A : Option Addr) (c : Nat) (L : List Nat) (hx : a.eval x = .slice A L.length c) (hA : Reads w A L) (z : A = none → c = 0) (b1 : S.length + L.length ≤ 1048576) (hbase : base ≤ w.heap.size)
    (h : ∀ v' w', w'.ownsRow base 30 1 v' (S ++ L).length (natCells (S ++ L)) → Below base w w' → wpList Try.prog ops Q rest (a.put o.dst v') w') : wpList Try.prog ops Q (o :: rest) a w := by
  refine wpList_step fun K hK => ?_
  rw [if_pos hw]
  obtain ⟨v', w', hr, h1, h2⟩ := run_append_u64 o.type base v S hown A c L hA z b1 hbase
  unfold Oper.wp execOp
  simp only [ho, resolve, invoke, builtin, Sem.run_bind, Sem.run_pure, Result.andThen_ok, List.map_toArray, List.map_cons, List.map_nil, hs, hx, hr]
  exact hK _ _ (h v' w' h1 h2)
end Go.Proofs.Ytmehbonjpmlmfaa

namespace Go.Proofs.Ytmehbonjpmlmfaa
open Go.RowKit

def Asc (s : List Nat) : Prop := s.Pairwise (· < ·)
theorem asc_lt {s : List Nat} (H : ∀ j, 0 < j → j < s.length → s.getD (j - 1) 0 < s.getD j 0) (i : Nat) : ∀ d, i + d + 1 < s.length → s.getD i 0 < s.getD (i + d + 1) 0 := by
  intro d
  induction d with
  | zero => intro h; exact H (i + 1) (by omega) h
  | succ d ih =>
    intro h
    have a := ih (by omega)
    have b := H (i + (d + 1) + 1) (by omega) h
    have e : i + (d + 1) + 1 - 1 = i + d + 1 := by omega
    rw [e] at b
    omega
theorem getD_eq {s : List Nat} {j : Nat} (h : j < s.length) : s.getD j 0 = s[j] := by rw [List.getD_eq_getElem?_getD, List.getElem?_eq_getElem h]; rfl
theorem setOk_iff {h : Nat} {s : List Nat} : SetOk h s ↔ s.length ≤ 1024 ∧ Asc s ∧ ∀ x ∈ s, x < 2 ^ h := by
  constructor
  · rintro ⟨h1, h2⟩
    refine ⟨h1, ?_, fun x hx => ?_⟩
    · refine List.pairwise_iff_getElem.2 fun i j hi hj hij => ?_
      have := asc_lt (s := s) (fun j h0 hj => (h2 j hj).2 h0) i (j - i - 1) (by omega)
      rw [show i + (j - i - 1) + 1 = j by omega, getD_eq hi, getD_eq hj] at this
      exact this
    · obtain ⟨j, hj, rfl⟩ := List.mem_iff_getElem.1 hx
      rw [← getD_eq hj]
      exact (h2 j hj).1
  · rintro ⟨h1, h2, h3⟩
    refine ⟨h1, fun j hj => ⟨?_, fun h0 => ?_⟩⟩
    · rw [getD_eq hj]; exact h3 _ (List.getElem_mem hj)
    · rw [getD_eq hj, getD_eq (show j - 1 < s.length by omega)]
      exact List.pairwise_iff_getElem.1 h2 (j - 1) j (by omega) hj (by omega)
theorem asc_ext : ∀ {s t : List Nat}, Asc s → Asc t → (∀ y, y ∈ s ↔ y ∈ t) → s = t
  | [], [], _, _, _ => rfl
  | [], b :: t, _, _, h => by have := (h b).2 (by simp); cases this
  | a :: s, [], _, _, h => by have := (h a).1 (by simp); cases this
  | a :: s, b :: t, hs, ht, h => by
    have hs' := List.pairwise_cons.1 hs
    have ht' := List.pairwise_cons.1 ht
    have e : a = b := by
      rcases List.mem_cons.1 ((h a).1 (by simp)) with q | q
      · exact q
      · rcases List.mem_cons.1 ((h b).2 (by simp)) with r | r
        · exact r.symm
        · have := hs'.1 b r
          have := ht'.1 a q
          omega
    subst e
    rw [asc_ext hs'.2 ht'.2 fun y => ?_]
    constructor
    · intro hy
      have := hs'.1 y hy
      rcases List.mem_cons.1 ((h y).1 (by simp [hy])) with q | q
      · omega
      · exact q
    · intro hy
      have := ht'.1 y hy
      rcases List.mem_cons.1 ((h y).2 (by simp [hy])) with q | q
      · omega
      · exact q

/-- with one more, with one less -/
def addL (s : List Nat) (x : Nat) : List Nat := s.filter (fun y => decide (y < x)) ++ x :: s.filter (fun y => decide (x < y))
def remL (s : List Nat) (x : Nat) : List Nat := s.filter (fun y => decide (y ≠ x))
theorem mem_addL {s : List Nat} {x y : Nat} : y ∈ addL s x ↔ y = x ∨ y ∈ s := by
  unfold addL
  simp only [List.mem_append, List.mem_filter, List.mem_cons, decide_eq_true_eq]
  constructor
  · rintro (⟨a, _⟩ | b | ⟨a, _⟩)
    · exact .inr a
    · exact .inl b
    · exact .inr a
  · rintro (h | h)
    · exact .inr (.inl h)
    · rcases Nat.lt_trichotomy y x with q | q | q
      · exact .inl ⟨h, q⟩
      · exact .inr (.inl q)
      · exact .inr (.inr ⟨h, q⟩)
theorem mem_remL {s : List Nat} {x y : Nat} : y ∈ remL s x ↔ y ∈ s ∧ y ≠ x := by
  unfold remL
  simp only [List.mem_filter, decide_eq_true_eq]
theorem asc_addL {s : List Nat} (h : Asc s) (x : Nat) : Asc (addL s x) := by
  unfold addL Asc
  refine List.pairwise_append.2 ⟨h.filter _, List.pairwise_cons.2 ⟨fun y hy => ?_, h.filter _⟩, fun a ha b hb => ?_⟩
  · exact of_decide_eq_true (List.mem_filter.1 hy).2
  · have h1 : a < x := of_decide_eq_true (List.mem_filter.1 ha).2
    rcases List.mem_cons.1 hb with rfl | hb
    · exact h1
    · have h2 : x < b := of_decide_eq_true (List.mem_filter.1 hb).2
      omega
theorem asc_remL {s : List Nat} (h : Asc s) (x : Nat) : Asc (remL s x) := h.filter _

def ins (s : List Nat) (k x : Nat) : List Nat := s.take k ++ x :: s.drop k
def del (s : List Nat) (k : Nat) : List Nat := s.take k ++ s.drop (k + 1)
theorem ins_length {s : List Nat} {k : Nat} (x : Nat) (h : k ≤ s.length) : (ins s k x).length = s.length + 1 := by unfold ins; simp; omega
theorem del_length {s : List Nat} {k : Nat} (h : k < s.length) : (del s k).length = s.length - 1 := by unfold del; simp; omega
theorem ins_getD {s : List Nat} {k : Nat} (x : Nat) (h : k ≤ s.length) (j : Nat) : (ins s k x).getD j 0 = if j < k then s.getD j 0 else if j = k then x else s.getD (j - 1) 0 := by
  unfold ins
  simp only [List.getD_eq_getElem?_getD]
  have hl : (s.take k).length = k := by rw [List.length_take]; omega
  by_cases a : j < k
  · rw [if_pos a, List.getElem?_append_left (by omega), List.getElem?_take, if_pos a]
  · rw [if_neg a, List.getElem?_append_right (by omega), hl]
    by_cases b : j = k
    · rw [if_pos b, b, Nat.sub_self]; rfl
    · rw [if_neg b, show j - k = (j - k - 1) + 1 by omega, List.getElem?_cons_succ, List.getElem?_drop, show k + (j - k - 1) = j - 1 by omega]
theorem del_getD {s : List Nat} {k : Nat} (h : k < s.length) (j : Nat) : (del s k).getD j 0 = if j < k then s.getD j 0 else s.getD (j + 1) 0 := by
  unfold del
  simp only [List.getD_eq_getElem?_getD]
  have hl : (s.take k).length = k := by rw [List.length_take]; omega
  by_cases a : j < k
  · rw [if_pos a, List.getElem?_append_left (by omega), List.getElem?_take, if_pos a]
  · rw [if_neg a, List.getElem?_append_right (by omega), hl, List.getElem?_drop, show k + 1 + (j - k) = j + 1 by omega]
theorem place_take {s : List Nat} {x k : Nat} (P : Place s x k) : ∀ y ∈ s.take k, y < x := by
  intro y hy
  obtain ⟨j, hj, rfl⟩ := List.mem_iff_getElem.1 hy
  have hj' : j < k ∧ j < s.length := by rw [List.length_take] at hj; omega
  have := P.lo j hj'.1
  rw [getD_eq hj'.2] at this
  simpa using this
theorem place_drop {s : List Nat} {x k : Nat} (P : Place s x k) : ∀ y ∈ s.drop k, x ≤ y := by
  intro y hy
  obtain ⟨j, hj, rfl⟩ := List.mem_iff_getElem.1 hy
  have hj' : k + j < s.length := by rw [List.length_drop] at hj; omega
  have := P.hi (k + j) (by omega) hj'
  rw [getD_eq hj'] at this
  simpa using this
theorem mem_place {s : List Nat} {x k : Nat} (P : Place s x k) (A : Asc s) : (k < s.length ∧ s.getD k 0 = x) ↔ x ∈ s := by
  constructor
  · rintro ⟨h1, h2⟩
    rw [getD_eq h1] at h2
    rw [← h2]; exact List.getElem_mem h1
  · intro h
    obtain ⟨j, hj, e⟩ := List.mem_iff_getElem.1 h
    have hk : k ≤ j := by
      rcases Nat.lt_or_ge j k with c | c
      · have := P.lo j c
        rw [getD_eq hj] at this
        omega
      · exact c
    refine ⟨by omega, ?_⟩
    have h1 := P.hi k (Nat.le_refl _) (by omega)
    rw [getD_eq (show k < s.length by omega)] at h1 ⊢
    rcases Nat.eq_or_lt_of_le hk with c | c
    · subst c; exact e
    · have := List.pairwise_iff_getElem.1 A k j (by omega) hj c
      omega
theorem ins_addL {s : List Nat} {x k : Nat} (P : Place s x k) (h : x ∉ s) : ins s k x = addL s x := by
  unfold ins addL
  have e := (List.take_append_drop k s).symm
  have f1 : s.filter (fun y => decide (y < x)) = s.take k := by
    rw [e, List.filter_append, List.filter_eq_self.2 (fun y hy => decide_eq_true (place_take P y (by simpa using hy))), List.filter_eq_nil_iff.2 (fun y hy => by
      have := place_drop P y (by simpa using hy)
      simp; omega)]
    simp
  have f2 : s.filter (fun y => decide (x < y)) = s.drop k := by
    rw [e, List.filter_append, List.filter_eq_nil_iff.2 (fun y hy => by
      have := place_take P y (by simpa using hy)
      simp; omega), List.filter_eq_self.2 (fun y hy => by
        have hy' : y ∈ s.drop k := by simpa using hy
        have h1 := place_drop P y hy'
        have h2 : y ≠ x := fun c => h (by rw [← c]; exact List.mem_of_mem_drop hy')
        exact decide_eq_true (by omega))]
    simp
  rw [f1, f2]
theorem asc_del {s : List Nat} (A : Asc s) (k : Nat) : Asc (del s k) := by
  have e := (List.take_append_drop k s).symm
  have A' : Asc (s.take k ++ s.drop k) := by rw [← e]; exact A
  obtain ⟨a1, a2, a3⟩ := List.pairwise_append.1 A'
  refine List.pairwise_append.2 ⟨a1, ?_, fun x hx y hy => ?_⟩
  · rw [show s.drop (k + 1) = (s.drop k).drop 1 by rw [List.drop_drop]]
    exact a2.sublist (List.drop_sublist _ _)
  · refine a3 x hx y ?_
    rw [show s.drop (k + 1) = (s.drop k).drop 1 by rw [List.drop_drop]] at hy
    exact List.mem_of_mem_drop hy
theorem del_remL {s : List Nat} {k : Nat} (A : Asc s) (hk : k < s.length) : del s k = remL s (s.getD k 0) := by
  have e : s = s.take k ++ s[k] :: s.drop (k + 1) := by rw [List.getElem_cons_drop]; exact (List.take_append_drop k s).symm
  have A' : Asc (s.take k ++ s[k] :: s.drop (k + 1)) := by rw [← e]; exact A
  obtain ⟨a1, a2, a3⟩ := List.pairwise_append.1 A'
  obtain ⟨a4, a5⟩ := List.pairwise_cons.1 a2
  rw [getD_eq hk]
  refine asc_ext (asc_del A k) (asc_remL A _) fun y => ?_
  rw [mem_remL]
  constructor
  · intro hy
    rcases List.mem_append.1 hy with h | h
    · have := a3 y h s[k] List.mem_cons_self
      exact ⟨List.mem_of_mem_take h, by omega⟩
    · have := a4 y h
      exact ⟨List.mem_of_mem_drop h, by omega⟩
  · rintro ⟨h1, h2⟩
    rw [e] at h1
    rcases List.mem_append.1 h1 with h | h
    · exact List.mem_append.2 (.inl h)
    · rcases List.mem_cons.1 h with h | h
      · exact absurd h h2
      · exact List.mem_append.2 (.inr h)
theorem place_ex' {h : Nat} {s : List Nat} (H : SetOk h s) (x : Nat) : ∃ k, Place s x k := place_ex H.2 x
theorem addL_length {h : Nat} {s : List Nat} {x : Nat} (H : SetOk h s) (hx : x ∉ s) : (addL s x).length = s.length + 1 := by
  obtain ⟨k, P⟩ := place_ex' H x
  rw [← ins_addL P hx, ins_length x P.le]
theorem remL_length {h : Nat} {s : List Nat} {x : Nat} (H : SetOk h s) (hx : x ∈ s) : (remL s x).length + 1 = s.length := by
  obtain ⟨k, P⟩ := place_ex' H x
  have A := (setOk_iff.1 H).2.1
  obtain ⟨h1, h2⟩ := (mem_place P A).2 hx
  rw [← h2, ← del_remL A h1, del_length h1]
  omega
theorem setOk_addL {h : Nat} {s : List Nat} {x : Nat} (H : SetOk h s) (hx : x ∉ s) (hl : s.length < 1024) (hb : x < 2 ^ h) : SetOk h (addL s x) := by
  obtain ⟨_, A, B⟩ := setOk_iff.1 H
  refine setOk_iff.2 ⟨by rw [addL_length H hx]; omega, asc_addL A x, fun y hy => ?_⟩
  rcases mem_addL.1 hy with rfl | q
  · exact hb
  · exact B y q
theorem setOk_remL {h : Nat} {s : List Nat} {x : Nat} (H : SetOk h s) : SetOk h (remL s x) := by
  obtain ⟨l, A, B⟩ := setOk_iff.1 H
  refine setOk_iff.2 ⟨Nat.le_trans (List.length_filter_le _ _) l, asc_remL A x, fun y hy => B y (mem_remL.1 hy).1⟩
end Go.Proofs.Ytmehbonjpmlmfaa

namespace Go.Proofs.Ytmehbonjpmlmfaa
open Go.RowKit

theorem setCells_block (g : Nat) (e : TypeId) : ∀ (vs : List Value) (o : Nat) (w : World) (cur : Array Value), w.heap[g]? = some (.cells cur e (0, 0)) → ∃ cur', (w.setCells g o vs).heap[g]? = some (.cells cur' e (0, 0)) ∧ cur'.size = cur.size
  | [], _, _, cur, h => ⟨cur, h, rfl⟩
  | v :: r, o, w, cur, h => by
    rw [World.setCells]
    obtain ⟨c, h1, h2⟩ := setCells_block g e r (o + 1) _ _ (heap_setCell_same w g o cur e v h)
    exact ⟨c, h1, by simpa using h2⟩
theorem setCells_below {base g : Nat} (hg : base ≤ g) : ∀ (vs : List Value) (o : Nat) (w w0 : World), Below base w0 w → Below base w0 (w.setCells g o vs)
  | [], _, _, _, h => h
  | v :: r, o, w, w0, h => by rw [World.setCells]; exact setCells_below hg r (o + 1) _ _ (h.setCell hg _)
theorem own_intro {w : World} {base g c n : Nat} {cur : Array Value} {L : List Nat} (hb : base ≤ g) (hg : w.heap[g]? = some (.cells cur 30 (0, 0))) (hs : cur.size = c) (hl : L.length = n) (hn : n ≤ c) (hm : c ≤ maxLen)
    (hc : ∀ j, j < n → w.cell? ⟨g, j, none⟩ = some (.int .u64 ((L.getD j 0 : Nat) : Int))) : w.ownsRow base 30 1 (.slice (some ⟨g, 0, none⟩) n c) n (natCells L) := by
  subst hl
  refine ⟨by rw [natCells_length, Nat.mul_one], .inr ⟨g, c, cur, rfl, hb, hg, hn, hm, by rw [hs, Nat.mul_one], ?_⟩⟩
  apply List.ext_getElem?
  intro j
  by_cases hj : j < L.length
  · rw [List.getElem?_take, if_pos (by omega), natCells_get L j hj]
    have := hc j hj
    rw [cell_of_row w g j cur _ (0, 0) hg] at this
    simpa using this
  · rw [List.getElem?_eq_none (by simp; omega), List.getElem?_eq_none (by rw [natCells_length]; omega)]
theorem natCells_drop (s : List Nat) (k : Nat) : (natCells s).drop k = natCells (s.drop k) := by simp [natCells]
theorem natCells_get' (s : List Nat) (j : Nat) (h : j < (natCells s).length) : (natCells s)[j] = .int .u64 ((s.getD j 0 : Nat) : Int) := by
  have h' : j < s.length := by rwa [natCells_length] at h
  have := natCells_get s j h'
  rw [List.getElem?_eq_getElem h] at this
  exact Option.some.inj this
/-- one more in the middle: what stood from there on is moved up, then the place is written -/
theorem own_ins {w w1 : World} {base g c i x : Nat} {s : List Nat} {cur : Array Value} (hb : base ≤ g) (hg : w.heap[g]? = some (.cells cur 30 (0, 0))) (hs : cur.size = c) (hn : s.length + 1 ≤ c) (hm : c ≤ maxLen) (hi : i ≤ s.length)
    (hc : ∀ j, j < i → w.cell? ⟨g, j, none⟩ = some (.int .u64 ((s.getD j 0 : Nat) : Int))) (h1 : w1 = (w.setCells g (i + 1) (natCells (s.drop i))).setCells g i (natCells [x])) :
    w1.ownsRow base 30 1 (.slice (some ⟨g, 0, none⟩) (s.length + 1) c) (s.length + 1) (natCells (ins s i x)) ∧ ∀ w0, Below base w0 w → Below base w0 w1 := by
  subst h1
  obtain ⟨c1, q1, z1⟩ := setCells_block g 30 (natCells (s.drop i)) (i + 1) w cur hg
  obtain ⟨c2, q2, z2⟩ := setCells_block g 30 (natCells [x]) i _ c1 q1
  have hl := ins_length x hi
  have hdl : (natCells (s.drop i)).length = s.length - i := by rw [natCells_length, List.length_drop]
  have hsome : ∀ j, j < c → (w.cell? ⟨g, j, none⟩).isSome = true := fun j hj => by
    rw [cell_of_row w g j cur _ (0, 0) hg, Array.getElem?_eq_getElem (by omega)]; rfl
  have hsome1 : ∀ j, j < c → ((w.setCells g (i + 1) (natCells (s.drop i))).cell? ⟨g, j, none⟩).isSome = true := fun j hj => by
    rw [cell_of_row _ g j c1 _ (0, 0) q1, Array.getElem?_eq_getElem (by omega)]; rfl
  refine ⟨?_, fun w0 h => setCells_below hb _ _ _ _ (setCells_below hb _ _ _ _ h)⟩
  refine own_intro hb q2 (by omega) hl (by omega) hm fun j hj => ?_
  rw [ins_getD x hi]
  by_cases a : j = i
  · subst a
    rw [if_neg (Nat.lt_irrefl _), if_pos rfl]
    have := World.cell?_setCells_in g (natCells [x]) j (w.setCells g (j + 1) (natCells (s.drop j))) (fun t ht => hsome1 _ (by rw [natCells_length] at ht; simp at ht; omega)) 0 (by rw [natCells_length]; simp)
    exact this
  · rw [World.cell?_setCells_out g _ i _ _ (fun _ _ => by rw [natCells_length]; simp; omega)]
    by_cases b : j < i
    · rw [if_pos b, World.cell?_setCells_out g _ (i + 1) _ _ (fun _ _ => .inl (by show j < i + 1; omega))]
      exact hc j b
    · rw [if_neg b, if_neg a]
      have := World.cell?_setCells_in g (natCells (s.drop i)) (i + 1) w (fun t ht => hsome _ (by rw [hdl] at ht; omega)) (j - (i + 1)) (by rw [hdl]; omega)
      rw [show i + 1 + (j - (i + 1)) = j by omega] at this
      rw [this, natCells_get']
      congr 3
      rw [List.getD_eq_getElem?_getD, List.getElem?_drop, show i + (j - (i + 1)) = j - 1 by omega, ← List.getD_eq_getElem?_getD]
/-- one more in the middle, the other way round: the place is written, then what stands behind it -/
theorem own_ins2 {w w1 : World} {base g c i x : Nat} {s : List Nat} {cur : Array Value} (hb : base ≤ g) (hg : w.heap[g]? = some (.cells cur 30 (0, 0))) (hs : cur.size = c) (hn : s.length + 1 ≤ c) (hm : c ≤ maxLen) (hi : i ≤ s.length)
    (hc : ∀ j, j < i → w.cell? ⟨g, j, none⟩ = some (.int .u64 ((s.getD j 0 : Nat) : Int))) (h1 : w1 = (w.setCells g i (natCells [x])).drew.setCells g (i + 1) (natCells (s.drop i))) :
    w1.ownsRow base 30 1 (.slice (some ⟨g, 0, none⟩) (s.length + 1) c) (s.length + 1) (natCells (ins s i x)) ∧ ∀ w0, Below base w0 w → Below base w0 w1 := by
  subst h1
  obtain ⟨c1, q1, z1⟩ := setCells_block g 30 (natCells [x]) i w cur hg
  obtain ⟨c2, q2, z2⟩ := setCells_block g 30 (natCells (s.drop i)) (i + 1) (w.setCells g i (natCells [x])).drew c1 q1
  have hl := ins_length x hi
  have hdl : (natCells (s.drop i)).length = s.length - i := by rw [natCells_length, List.length_drop]
  have hsome : ∀ j, j < c → (w.cell? ⟨g, j, none⟩).isSome = true := fun j hj => by
    rw [cell_of_row w g j cur _ (0, 0) hg, Array.getElem?_eq_getElem (by omega)]; rfl
  have hsome1 : ∀ j, j < c → ((w.setCells g i (natCells [x])).drew.cell? ⟨g, j, none⟩).isSome = true := fun j hj => by
    rw [cell_of_row (w.setCells g i (natCells [x])).drew g j c1 _ (0, 0) q1, Array.getElem?_eq_getElem (by omega)]; rfl
  refine ⟨?_, fun w0 h => setCells_below hb _ _ _ _ (setCells_below hb _ _ _ _ h).drew⟩
  refine own_intro hb q2 (by omega) hl (by omega) hm fun j hj => ?_
  rw [ins_getD x hi]
  by_cases a : j ≤ i
  · rw [World.cell?_setCells_out g _ (i + 1) _ _ (fun _ _ => .inl (by show j < i + 1; omega))]
    show (w.setCells g i (natCells [x])).cell? _ = _
    by_cases b : j = i
    · subst b
      rw [if_neg (Nat.lt_irrefl _), if_pos rfl]
      have := World.cell?_setCells_in g (natCells [x]) j w (fun t ht => hsome _ (by rw [natCells_length] at ht; simp at ht; omega)) 0 (by rw [natCells_length]; simp)
      exact this
    · rw [if_pos (by omega), World.cell?_setCells_out g _ i _ _ (fun _ _ => .inl (by show j < i; omega))]
      exact hc j (by omega)
  · rw [if_neg (by omega), if_neg (by omega)]
    have := World.cell?_setCells_in g (natCells (s.drop i)) (i + 1) (w.setCells g i (natCells [x])).drew (fun t ht => hsome1 _ (by rw [hdl] at ht; omega)) (j - (i + 1)) (by rw [hdl]; omega)
    rw [show i + 1 + (j - (i + 1)) = j by omega] at this
    rw [this, natCells_get']
    congr 3
    rw [List.getD_eq_getElem?_getD, List.getElem?_drop, show i + (j - (i + 1)) = j - 1 by omega, ← List.getD_eq_getElem?_getD]
/-- one less: what stood behind it is moved down, and the last place is cleared -/
theorem own_del {w w1 : World} {base g c i : Nat} {s : List Nat} {cur : Array Value} (hb : base ≤ g) (hg : w.heap[g]? = some (.cells cur 30 (0, 0))) (hs : cur.size = c) (hn : s.length ≤ c) (hm : c ≤ maxLen) (hi : i < s.length)
    (hc : ∀ j, j < i → w.cell? ⟨g, j, none⟩ = some (.int .u64 ((s.getD j 0 : Nat) : Int))) (z : List Value) (h1 : w1 = (w.setCells g i (natCells (s.drop (i + 1)))).setCells g (s.length - 1) z) :
    w1.ownsRow base 30 1 (.slice (some ⟨g, 0, none⟩) (s.length - 1) c) (s.length - 1) (natCells (del s i)) ∧ ∀ w0, Below base w0 w → Below base w0 w1 := by
  subst h1
  obtain ⟨c1, q1, z1⟩ := setCells_block g 30 (natCells (s.drop (i + 1))) i w cur hg
  obtain ⟨c2, q2, z2⟩ := setCells_block g 30 z (s.length - 1) _ c1 q1
  have hl := del_length hi
  have hdl : (natCells (s.drop (i + 1))).length = s.length - (i + 1) := by rw [natCells_length, List.length_drop]
  have hsome : ∀ j, j < c → (w.cell? ⟨g, j, none⟩).isSome = true := fun j hj => by
    rw [cell_of_row w g j cur _ (0, 0) hg, Array.getElem?_eq_getElem (by omega)]; rfl
  refine ⟨?_, fun w0 h => setCells_below hb _ _ _ _ (setCells_below hb _ _ _ _ h)⟩
  refine own_intro hb q2 (by omega) hl (by omega) hm fun j hj => ?_
  rw [del_getD hi, World.cell?_setCells_out g _ (s.length - 1) _ _ (fun _ _ => .inl hj)]
  by_cases b : j < i
  · rw [if_pos b, World.cell?_setCells_out g _ i _ _ (fun _ _ => .inl b)]
    exact hc j b
  · rw [if_neg b]
    have := World.cell?_setCells_in g (natCells (s.drop (i + 1))) i w (fun t ht => hsome _ (by rw [hdl] at ht; omega)) (j - i) (by rw [hdl]; omega)
    rw [show i + (j - i) = j by omega] at this
    rw [this, natCells_get']
    congr 3
    rw [List.getD_eq_getElem?_getD, List.getElem?_drop, show i + 1 + (j - i) = j + 1 by omega, ← List.getD_eq_getElem?_getD]
end Go.Proofs.Ytmehbonjpmlmfaa

namespace Go.Proofs.Ytmehbonjpmlmfaa
open Go.RowKit Go.Lib Go.Shelf

theorem size_u64 : (Try.prog.info? 30).map (·.size) = some 1 := by kernel_rfl
theorem sizeOf_u64 : ∀ w, (Go.sizeOf 30).run Try.prog w = .ok 1 w := by
  obtain ⟨i0, hi, hz0, hz1, hz2⟩ := info_parts info_u64
  intro w
  simp [Go.sizeOf, typeInfo, hi, hz1]
set_option maxHeartbeats 4000000 in
set_option maxRecDepth 100000 in
/-- in the middle, and there is room -/
theorem insert_shift (b off n c i vb voff m vc : Nat) (cs vs : List Value) (w : World) (hi : i < n) (hm : 0 < m) (hroom : n + m ≤ c) (hc63 : c ≤ 9223372036854775807) (hvb : vb ≠ b)
    (hcl : cs.length = n) (hvl : vs.length = m)
    (hcs : ∀ j v, cs[j]? = some v → w.cell? ⟨b, off + j, none⟩ = some v) (hsp : ∀ j, j < n + m → (w.cell? ⟨b, off + j, none⟩).isSome = true) (hfz : ∀ j, j < n + m → w.frozen? ⟨b, off + j, none⟩ = false)
    (hvs : ∀ j v, vs[j]? = some v → w.cell? ⟨vb, voff + j, none⟩ = some v) (h1c : ∀ v ∈ cs, v.oneCell' = true) (h1v : ∀ v ∈ vs, v.oneCell' = true)
    (tA tB : TypeId) (kA kB : Nat) (hsa : w.shape? vb = some (tA, kA)) (hsb : w.shape? b = some (tB, kB)) (hkB : kB ≠ 0) (hfa : w.frozen? ⟨vb, voff, none⟩ = false) (hfe : w.frozen? ⟨vb, kA, none⟩ = false) :
    Calls Try.prog 68 #[.slice (some ⟨b, off, none⟩) n c, .int .i64 i, .slice (some ⟨vb, voff, none⟩) m vc] w fun e w' =>
      e = .returned (.slice (some ⟨b, off, none⟩) (n + m) c) ∧ w' = (w.drew.setCells b (off + (i + m)) (cs.drop i)).setCells b (off + i) vs := by
  have hz1 : ¬ ((m : Int) = 0) := by omega
  have hz2 : ¬ ((i : Int) = (n : Int)) := by omega
  have hov : ∀ lb cb, (callFunc 75 #[.slice (some ⟨vb, voff, none⟩) m vc, .slice (some ⟨b, off + (i + m), none⟩) lb cb]).run Try.prog w = .ok (.value (.bool false)) w := fun lb cb => by
    rw [run_callFunc_extern Try.func75 (by kernel_rfl) (by kernel_rfl) (by kernel_rfl) (e := Extern.SlicesOverlaps.overlaps #[22, 22] #[4]) (by kernel_rfl),
      Lib.run_overlaps_apart w 22 4 30 Try.underlying22 1 sizeOf_u64 ⟨vb, voff, none⟩ ⟨b, off + (i + m), none⟩ m vc lb cb hvb tA tB kA kB hsa hsb hkB hfa hfe]
    rfl
  have hdl : (cs.drop i).length = n - i := by rw [List.length_drop, hcl]
  have mixed : Try.prog.follows .mixedOrders = true := by kernel_rfl
  have hw1 : IntKind.i64.wrap ((i : Int) + (m : Int)) = (i : Int) + (m : Int) := by rw [IntKind.wrap_i64]; omega
  have hb1 : (0 : Int) ≤ (i : Int) + (m : Int) := by omega
  have hin : i ≤ n := by omega
  have htn : ((i : Int) + (m : Int)).toNat = i + m := by omega
  have hb2 : ¬ (c = i + m) := by omega
  have hb3 : (i : Int) ≤ (n : Int) + (m : Int) := by omega
  have hb4 : ¬ (c = i) := by omega
  have hcp1 : ∀ ty dc sc, (Builtin.copy_ #[22, 22] ty #[.slice (some ⟨b, off + (i + m), none⟩) (n + m - (i + m)) dc, .slice (some ⟨b, off + i, none⟩) (n + m - i) sc]).run Try.prog w.drew = .ok (goInt (cs.drop i).length) (w.drew.setCells b (off + (i + m)) (cs.drop i)) := fun ty dc sc =>
    run_copy_cells w.drew _ _ ty 30 b (off + (i + m)) (n + m - (i + m)) dc ⟨b, off + i, none⟩ (n + m - i) sc (cs.drop i) Try.underlying22 size_u64 (by rw [hdl]; simp only [Nat.min_def]; split <;> omega)
      (fun j v hj => by rw [Addr.add_lit, Nat.add_assoc]; exact hcs (i + j) v (by rwa [List.getElem?_drop] at hj))
      (fun j hj => by rw [Nat.add_assoc]; exact hsp _ (by omega)) (fun j hj => by rw [Nat.add_assoc]; exact hfz _ (by omega)) (fun v hv => h1c v (List.mem_of_mem_drop hv))
  obtain ⟨W1, hW1⟩ : ∃ W1, W1 = w.drew.setCells b (off + (i + m)) (cs.drop i) := ⟨_, rfl⟩
  have hsp1 : ∀ k, k < n + m → (W1.cell? ⟨b, off + k, none⟩).isSome = true := fun k hk => by
    rw [hW1]
    exact isSome_setCells b _ _ _ (fun j hj => by rw [Nat.add_assoc]; exact hsp _ (by omega)) _ (hsp k hk)
  have hcp2 : ∀ (W : World), (∀ x, W.cell? x = W1.cell? x) → (∀ x, W.frozen? x = W1.frozen? x) → ∀ ty dc, (Builtin.copy_ #[22, 22] ty #[.slice (some ⟨b, off + i, none⟩) (n + m - i) dc, .slice (some ⟨vb, voff, none⟩) m vc]).run Try.prog W = .ok (goInt vs.length) (W.setCells b (off + i) vs) := fun W hWc hWf ty dc =>
    run_copy_cells W _ _ ty 30 b (off + i) (n + m - i) dc ⟨vb, voff, none⟩ m vc vs Try.underlying22 size_u64 (by rw [hvl]; simp only [Nat.min_def]; split <;> omega)
      (fun j v hj => by
        rw [Addr.add_lit, hWc, hW1, World.cell?_setCells_out b _ _ _ _ (fun h _ => absurd h hvb)]
        exact hvs j v hj)
      (fun j hj => by rw [hWc, Nat.add_assoc]; exact hsp1 _ (by omega)) (fun j hj => by rw [hWf, hW1, World.frozen?_setCells, Nat.add_assoc]; exact hfz _ (by omega)) h1v
  rw [← hW1] at hcp1
  go_enter Try.func68, Try.ntmps68
  go_wp2_with (simp only [hov])
  go_region_law_o (refine step_copy_runI rfl _ _ 22 22 rfl _ _ (by simp [Act.eval, Act.put]) (by simp [Act.eval, Act.put]) (hcp1 _ _ _) ?_)
  go_wp2_with (at_builtin; refine wpList_copy_runI _ rfl _ _ 22 22 rfl _ _ rfl rfl (hcp2 _ (fun _ => rfl) (fun _ => rfl) _ _) ?_)
  go_ret
  first | exact ⟨rfl, rfl⟩ | exact ⟨rfl, by rw [hW1]⟩
set_option maxHeartbeats 4000000 in
set_option maxRecDepth 100000 in
/-- in the middle, and there is no room: a new row -/
theorem insert_grow (b off n c i vb voff m vc : Nat) (cs vs : List Value) (w : World) (hi : i < n) (hm : 0 < m) (hnc : n ≤ c) (hroom : c < n + m) (hbig : (n + m) * 8 ≤ 140737488355328)
    (hcl : cs.length = n) (hvl : vs.length = m)
    (hcs : ∀ j v, cs[j]? = some v → w.cell? ⟨b, off + j, none⟩ = some v)
    (hvs : ∀ j v, vs[j]? = some v → w.cell? ⟨vb, voff + j, none⟩ = some v) (h1c : ∀ v ∈ cs, v.oneCell' = true) (h1v : ∀ v ∈ vs, v.oneCell' = true) :
    Calls Try.prog 68 #[.slice (some ⟨b, off, none⟩) n c, .int .i64 i, .slice (some ⟨vb, voff, none⟩) m vc] w fun e w' =>
      e = .returned (.slice (some ⟨w.heap.size, 0, none⟩) (n + m) (grownCap w (n + m) c 30)) ∧
      w' = (((w.alloc (.cells ((cs.take i).toArray ++ Builtin.zeroCells (Value.int .u64 0).cells (n + m - i) ++ Builtin.zeroCells (Value.int .u64 0).cells (grownCap w (n + m) c 30 - (n + m))) 30)).drew.setCells w.heap.size i vs).drew).setCells w.heap.size (i + m) (cs.drop i) := by
  have mixed : Try.prog.follows .mixedOrders = true := by kernel_rfl
  obtain ⟨i0, hi0, hz0, hzs, hzb⟩ := info_parts info_u64
  have hz1 : ¬ ((m : Int) = 0) := by omega
  have hz2 : ¬ ((i : Int) = (n : Int)) := by omega
  have hz3 : (c : Int) < (n : Int) + (m : Int) := by omega
  have hbw : b < w.heap.size := World.block_lt_of_cell? w _ (hcs 0 _ (List.getElem?_eq_getElem (by omega)))
  have hvw : vb < w.heap.size := World.block_lt_of_cell? w _ (hvs 0 _ (List.getElem?_eq_getElem (by omega)))
  have hkk : (n : Int) + (m : Int) - (i : Int) = ((n + m - i : Nat) : Int) := by omega
  have hik : i + (n + m - i) = n + m := by omega
  have hold : (Builtin.firstCells i0.size i (.slice (some ⟨b, off, none⟩) i c)).run Try.prog w.drew = .ok (cs.take i).toArray w.drew := by
    rw [hzs]
    exact run_firstCells_some w.drew 1 i ⟨b, off, none⟩ i c (cs.take i) (by rw [List.length_take]; omega) (fun j v hj => by
      rw [Addr.add_lit]
      rw [List.getElem?_take] at hj
      split at hj
      · exact hcs j v hj
      · cases hj)
  have hrz : ∀ ty, (Builtin.append_ #[22, 3] ty #[.slice (some ⟨b, off, none⟩) i c, .int .i64 ((n : Int) + (m : Int) - (i : Int))]).run Try.prog w =
      .ok (.slice (some ⟨w.heap.size, 0, none⟩) (n + m) (grownCap w (n + m) c 30)) (w.drew.alloc (.cells ((cs.take i).toArray ++ Builtin.zeroCells (Value.int .u64 0).cells (n + m - i) ++ Builtin.zeroCells (Value.int .u64 0).cells (grownCap w (n + m) c 30 - (n + m))) 30)) := fun ty => by
    have h := Lib.run_append_grow_zeros w 22 3 ty 30 i0 _ .i64 .i64 Try.underlying22 Try.underlying3 hi0 hz0 (some ⟨b, off, none⟩) i c (cs.take i) hold (n + m - i) (by omega) (by omega) (by omega) (by omega) (by rw [hzb]; omega) (by rw [hzb, hik]; exact growslice_fits hroom hbig)
    rw [hik] at h
    rw [hkk]
    exact h
  obtain ⟨G, hG⟩ : ∃ G, G = grownCap w (n + m) c 30 := ⟨_, rfl⟩
  obtain ⟨ROW, hROW⟩ : ∃ ROW : Array Value, ROW = (cs.take i).toArray ++ Builtin.zeroCells (Value.int .u64 0).cells (n + m - i) ++ Builtin.zeroCells (Value.int .u64 0).cells (G - (n + m)) := ⟨_, rfl⟩
  rw [← hG] at hrz ⊢
  rw [← hROW] at hrz ⊢
  have hRl : n + m ≤ ROW.size := by
    rw [hROW]
    simp [Builtin.zeroCells, Value.cells]
    omega
  obtain ⟨W1, hW1⟩ : ∃ W1, W1 = w.drew.alloc (.cells ROW 30) := ⟨_, rfl⟩
  rw [← hW1] at hrz
  have hN : ∀ j, j < n + m → (W1.cell? ⟨w.heap.size, j, none⟩).isSome = true := fun j hj => by
    rw [hW1, World.cell?_alloc_at (w := w.drew) ROW _ w.heap.size j rfl, Array.getElem?_eq_getElem (by omega)]; rfl
  have hNf : ∀ j, W1.frozen? ⟨w.heap.size, j, none⟩ = false := fun j => by rw [hW1]; exact World.frozen?_alloc_at (w := w.drew) ROW _ w.heap.size j rfl
  have hOb : ∀ j v, w.cell? ⟨b, j, none⟩ = some v → W1.cell? ⟨b, j, none⟩ = some v := fun j v h => by rw [hW1, World.cell?_alloc_past (w := w.drew) _ b j hbw]; exact h
  have hOv : ∀ j v, w.cell? ⟨vb, j, none⟩ = some v → W1.cell? ⟨vb, j, none⟩ = some v := fun j v h => by rw [hW1, World.cell?_alloc_past (w := w.drew) _ vb j hvw]; exact h
  have hcpA : ∀ (W : World), (∀ x, W.cell? x = W1.cell? x) → (∀ x, W.frozen? x = W1.frozen? x) → ∀ ty dc, (Builtin.copy_ #[22, 22] ty #[.slice (some ⟨w.heap.size, i, none⟩) (n + m - i) dc, .slice (some ⟨vb, voff, none⟩) m vc]).run Try.prog W = .ok (goInt vs.length) (W.setCells w.heap.size i vs) := fun W hWc hWf ty dc =>
    run_copy_cells W _ _ ty 30 w.heap.size i (n + m - i) dc ⟨vb, voff, none⟩ m vc vs Try.underlying22 size_u64 (by rw [hvl]; simp only [Nat.min_def]; split <;> omega)
      (fun j v hj => by rw [Addr.add_lit, hWc]; exact hOv _ v (hvs j v hj))
      (fun j hj => by rw [hWc]; exact hN _ (by omega)) (fun j hj => by rw [hWf]; exact hNf _) h1v
  have hGn : n + m ≤ G := by rw [hG]; exact grownCap_ge w _ _ _
  have hG63 : G ≤ 9223372036854775807 := by
    have := grownCap_le_maxLen w (n + m) c 30 (by unfold maxLen; omega)
    rw [← hG] at this
    unfold maxLen at this
    omega
  have hGi : ¬ (G = i) := by omega
  have hGim : ¬ (G = i + m) := by omega
  have hci : ¬ (c = i) := by omega
  have hbN : b ≠ w.heap.size := by omega
  have hdl : (cs.drop i).length = n - i := by rw [List.length_drop, hcl]
  have hcpB : ∀ (W : World), (∀ x, W.cell? x = (W1.setCells w.heap.size i vs).cell? x) → (∀ x, W.frozen? x = (W1.setCells w.heap.size i vs).frozen? x) → ∀ ty dc sc, (Builtin.copy_ #[22, 22] ty #[.slice (some ⟨w.heap.size, i + m, none⟩) (n + m - (i + m)) dc, .slice (some ⟨b, off + i, none⟩) (n - i) sc]).run Try.prog W = .ok (goInt (cs.drop i).length) (W.setCells w.heap.size (i + m) (cs.drop i)) := fun W hWc hWf ty dc sc =>
    run_copy_cells W _ _ ty 30 w.heap.size (i + m) (n + m - (i + m)) dc ⟨b, off + i, none⟩ (n - i) sc (cs.drop i) Try.underlying22 size_u64 (by rw [hdl]; simp only [Nat.min_def]; split <;> omega)
      (fun j v hj => by
        rw [Addr.add_lit, hWc, World.cell?_setCells_out _ _ _ _ _ (fun h _ => absurd h hbN), Nat.add_assoc]
        exact hOb _ v (hcs (i + j) v (by rwa [List.getElem?_drop] at hj)))
      (fun j hj => by rw [hWc]; exact isSome_setCells _ _ _ _ (fun t ht => hN _ (by omega)) _ (hN _ (by omega)))
      (fun j hj => by rw [hWf, World.frozen?_setCells]; exact hNf _) (fun v hv => h1c v (List.mem_of_mem_drop hv))
  subst hW1
  have hE1 : ∀ x, ((w.alloc (.cells ROW 30)).drew).cell? x = (w.drew.alloc (.cells ROW 30)).cell? x := fun x => rfl
  have hE2 : ∀ x, ((w.alloc (.cells ROW 30)).drew).frozen? x = (w.drew.alloc (.cells ROW 30)).frozen? x := fun x => rfl
  have hF1 : ∀ x, (((w.alloc (.cells ROW 30)).drew.setCells w.heap.size i vs).drew).cell? x = ((w.drew.alloc (.cells ROW 30)).setCells w.heap.size i vs).cell? x := fun x => rfl
  have hF2 : ∀ x, (((w.alloc (.cells ROW 30)).drew.setCells w.heap.size i vs).drew).frozen? x = ((w.drew.alloc (.cells ROW 30)).setCells w.heap.size i vs).frozen? x := fun x => rfl
  have hw1 : IntKind.i64.wrap ((i : Int) + (m : Int)) = (i : Int) + (m : Int) := by rw [IntKind.wrap_i64]; omega
  have hb1 : (0 : Int) ≤ (i : Int) + (m : Int) := by omega
  have hin : i ≤ n := by omega
  have htn : ((i : Int) + (m : Int)).toNat = i + m := by omega
  have hb3 : (i : Int) ≤ (n : Int) := by omega
  clear hkk hik hold hROW hG hRl
  go_enter Try.func68, Try.ntmps68
  go_wp2_with (first
    | (at_builtin; refine Lib.wpList_append_run _ rfl _ _ _ _ rfl _ _ rfl rfl _ _ (hrz _) ?_)
    | (at_builtin; refine wpList_copy_runI _ rfl _ _ 22 22 rfl _ _ rfl rfl (hcpA _ hE1 hE2 _ _) ?_)
    | (at_builtin; refine wpList_copy_runI _ rfl _ _ 22 22 rfl _ _ rfl rfl (hcpB _ (fun _ => rfl) (fun _ => rfl) _ _ _) ?_))
  go_region_law_o (refine step_copy_runI rfl _ _ 22 22 rfl (.slice (some ⟨w.heap.size, i + m, none⟩) (n + m - (i + m)) (G - (i + m))) (.slice (some ⟨b, off + i, none⟩) (n - i) (c - i)) (by simp [Act.eval, Act.put]) (by simp [Act.eval, Act.put]) (hcpB _ hF1 hF2 3 (G - (i + m)) (c - i)) ?_)
  go_wp2
  go_ret
  exact ⟨rfl, rfl⟩
set_option maxHeartbeats 4000000 in
set_option maxRecDepth 100000 in
/-- at the end, of a row of its own, nil or not -/
theorem insert_end_m (base : Nat) (v : Value) (s : List Nat) (n vb m : Nat) (xs : List Nat) (w : World) (hn : s.length = n) (hs : n ≤ 1048576) (hm0 : 0 < m) (hm : m ≤ 1048576) (hx : xs.length = m) (hbase : base ≤ w.heap.size) (hown : w.ownsRow base 30 1 v n (natCells s)) (hvs : ∀ j u, (natCells xs)[j]? = some u → w.cell? ⟨vb, 0 + j, none⟩ = some u) :
    Calls Try.prog 68 #[v, .int .i64 (n : Int), .slice (some ⟨vb, 0, none⟩) m m] w fun e w' =>
      ∃ v', e = .returned v' ∧ w'.ownsRow base 30 1 v' (n + m) (natCells (s ++ xs)) ∧ Below base w w' := by
  obtain ⟨i0, hi, hz0, hz1, hz2⟩ := info_parts info_u64
  have HN := mkHid (fun (wc : World) (hb : Below w.heap.size w wc) => fun (j : Nat) (u : Value) (hu : (natCells xs)[j]? = some u) => show wc.cell? ((⟨vb, 0, none⟩ : Addr).add j) = some u from by rw [Addr.add_lit]; exact keeps hb (hvs j u hu))
  have HO := mkHid hown
  have HG : Hid (∀ (W : World) (v' : Value), W.ownsRow base 30 1 v' (n + m) (natCells s ++ natCells xs) → W.ownsRow base 30 1 v' (n + m) (natCells (s ++ xs))) := mkHid fun W v' h => by rw [natCells_append]; exact h
  have HK := mkHid hown.lt
  have hxl : (natCells xs).length = m * 1 := by rw [natCells_length, hx, Nat.mul_one]
  have hz1' : ¬ ((m : Int) = 0) := by omega
  clear hvs
  rcases hown.2 with ⟨rfl, h0⟩ | ⟨g, cap, cur, rfl, hbg, hg, hnc, hcm, hcs, _⟩
  · subst h0
    clear hown
    go_enter Try.func68, Try.ntmps68
    go_wp2_with (at_builtin; refine wpList_append_own _ rfl _ _ 22 rfl base 30 i0 (.int .u64 0) 1 8 Try.underlying22 hi hz0 hz1 hz2 rfl (by decide) _ _ _ rfl HO.out ⟨vb, 0, none⟩ m m (natCells xs) rfl hxl (HN.out _ (Below.refl _ _)) (natCells_one _) (by unfold maxLen; omega) (by omega) hbase ?_)
    intro v' w1 hown' hgrow hnil
    go_wp2
    go_ret
    exact ⟨v', rfl, HG.out _ _ (by rw [Nat.zero_add]; exact hown'), (Below.refl base w).grown hgrow hbase fun k e => (HK.out k e).1⟩
  · have hcm' : cap ≤ 9223372036854775807 := by unfold maxLen at hcm; omega
    have hn63 : (n : Int) ≤ cap := by omega
    clear hown hg hcs
    go_enter Try.func68, Try.ntmps68
    go_wp2_with (at_builtin; refine wpList_append_own _ rfl _ _ 22 rfl base 30 i0 (.int .u64 0) 1 8 Try.underlying22 hi hz0 hz1 hz2 rfl (by decide) _ _ _ rfl HO.out ⟨vb, 0, none⟩ m m (natCells xs) rfl hxl (HN.out _ (Below.refl _ _)) (natCells_one _) (by unfold maxLen; omega) (by omega) hbase ?_)
    all_goals intro v' w1 hown' hgrow hnil
    all_goals go_wp2
    all_goals go_ret
    all_goals exact ⟨v', rfl, HG.out _ _ hown', (Below.refl base w).grown hgrow hbase fun k e => (HK.out k e).1⟩
/-- of a row of its own: one number put in -/
theorem insert_own (base : Nat) (v : Value) (s : List Nat) (i vb x : Nat) (w : World) (hs : s.length ≤ 1048576) (hi : i ≤ s.length) (hbase : base ≤ w.heap.size) (hown : w.ownsRow base 30 1 v s.length (natCells s)) (hne : ∀ g, v.ownBlock = some g → vb ≠ g) (hvb : w.heap[vb]? = some (.cells #[.int .u64 (x : Int)] 30 (0, 0))) :
    Calls Try.prog 68 #[v, .int .i64 (i : Int), .slice (some ⟨vb, 0, none⟩) 1 1] w fun e w' =>
      ∃ v', e = .returned v' ∧ w'.ownsRow base 30 1 v' (s.length + 1) (natCells (ins s i x)) ∧ Below base w w' := by
  have hvs : ∀ j u, (natCells [x])[j]? = some u → w.cell? ⟨vb, 0 + j, none⟩ = some u := by
    intro j u hu
    match j, hu with
    | 0, hu => cases hu; rw [cell_of_row w vb (0 + 0) _ _ (0, 0) hvb]; rfl
  by_cases he : i = s.length
  · subst he
    have e : ins s s.length x = s ++ [x] := by unfold ins; rw [List.take_length, List.drop_length]
    rw [e]
    exact insert_end_m base v s s.length vb 1 [x] w rfl hs (by decide) (by decide) rfl hbase hown hvs
  · rcases hown.2 with ⟨rfl, h0⟩ | ⟨g, cap, cur, rfl, hbg, hg, hnc, hcm, hcs, _⟩
    · omega
    · have ne := hne g rfl
      have hcm' : cap ≤ 9223372036854775807 := by unfold maxLen at hcm; omega
      rw [Nat.mul_one] at hcs
      have hcell : ∀ j u, (natCells s)[j]? = some u → w.cell? ⟨g, 0 + j, none⟩ = some u := fun j u hu => by
        have := hown.cells rfl j u hu
        rwa [Addr.add_lit] at this
      by_cases hroom : s.length + 1 ≤ cap
      · refine (insert_shift g 0 s.length cap i vb 0 1 1 (natCells s) (natCells [x]) w (by omega) (by decide) hroom hcm' ne (natCells_length s) rfl hcell
          (fun j hj => by rw [Nat.zero_add, cell_of_row w g j cur _ (0, 0) hg, Array.getElem?_eq_getElem (by omega)]; rfl) (fun j _ => by rw [Nat.zero_add]; exact frozen_of_row w g j cur _ hg) hvs (natCells_one s) (natCells_one _)
          30 30 1 cap (by unfold World.shape?; rw [hvb]; rfl) (by unfold World.shape?; rw [hg, ← hcs]) (by omega) (frozen_of_row w vb 0 _ _ hvb) (frozen_of_row w vb 1 _ _ hvb)).mono ?_
        rintro e w' ⟨rfl, hw'⟩
        rw [Nat.zero_add, Nat.zero_add, natCells_drop] at hw'
        obtain ⟨h1, h2⟩ := own_ins (w := w.drew) (s := s) (i := i) hbg hg hcs hroom hcm (by omega) (fun j hj => by
          have := hcell j _ (natCells_get s j (by omega))
          rwa [Nat.zero_add] at this) hw'
        exact ⟨_, rfl, h1, h2 w (Below.refl _ _).drew⟩
      · refine (insert_grow g 0 s.length cap i vb 0 1 1 (natCells s) (natCells [x]) w (by omega) (by decide) hnc (by omega) (by omega) (natCells_length s) rfl hcell hvs (natCells_one s) (natCells_one _)).mono ?_
        rintro e w' ⟨rfl, hw'⟩
        have hG1 := grownCap_ge w (s.length + 1) cap 30
        have hG2 := grownCap_le_maxLen w (s.length + 1) cap 30 (by unfold maxLen; omega)
        generalize grownCap w (s.length + 1) cap 30 = G at *
        rw [natCells_drop] at hw'
        obtain ⟨h1, h2⟩ := own_ins2 (w := (w.alloc (.cells (((natCells s).take i).toArray ++ Builtin.zeroCells (Value.int .u64 0).cells (s.length + 1 - i) ++ Builtin.zeroCells (Value.int .u64 0).cells (G - (s.length + 1))) 30)).drew) (s := s) (i := i) (base := base) (c := G) hbase (heap_alloc_new w _) (by
            simp only [Array.size_append, List.size_toArray, List.length_take, size_zeroCells, natCells_length]
            show min i s.length + (s.length + 1 - i) * 1 + (G - (s.length + 1)) * 1 = G
            omega) hG1 hG2 (by omega) (fun j hj => by
          show (w.alloc _).cell? _ = _
          rw [World.cell?_alloc_at _ _ w.heap.size j rfl, Array.append_assoc, Array.getElem?_append_left (by simp [natCells_length]; omega)]
          simp only [List.getElem?_toArray, List.getElem?_take, if_pos hj]
          exact natCells_get s j (by omega)) hw'
        exact ⟨_, rfl, h1, h2 w (((Below.refl _ _).alloc hbase _).drew)⟩

set_option maxHeartbeats 4000000 in
set_option maxRecDepth 1000000 in
/-- slices.Delete of one element -/
theorem delete_one (b n cap i : Nat) (cs : List Value) (w : World) (hi : i < n) (hcl : cs.length = n) (hcap : n ≤ cap) (_hm : cap ≤ 9223372036854775807) (hcs : ∀ j v, cs[j]? = some v → w.cell? ⟨b, j, none⟩ = some v)
    (hfz : ∀ j, j < n → w.frozen? ⟨b, j, none⟩ = false) (h1c : ∀ v ∈ cs, v.oneCell' = true) :
    Calls Try.prog 69 #[.slice (some ⟨b, 0, none⟩) n cap, .int .i64 (i : Int), .int .i64 ((i + 1 : Nat) : Int)] w fun e w' =>
      e = .returned (.slice (some ⟨b, 0, none⟩) (n - 1) cap) ∧ w' = (w.drew.setCells b i (cs.drop (i + 1))).setCells b (n - 1) [.int .u64 0] := by
  have mixed : Try.prog.follows .mixedOrders = true := by kernel_rfl
  obtain ⟨i0, hi0, hz0, hz1, hz2⟩ := info_parts info_u64
  have v0 : ∀ w, (zeroValue 30).run Try.prog w = .ok (.int .u64 0) w := fun w => by kernel_rfl
  obtain ⟨j, hj⟩ : ∃ j, j = i + 1 := ⟨_, rfl⟩
  rw [← hj]
  obtain ⟨news, hnews⟩ : ∃ news, news = cs.drop j := ⟨_, rfl⟩
  have hlen : news.length = n - j := by rw [hnews, List.length_drop, hcl]
  have hsome : ∀ k, k < n → (w.cell? ⟨b, k, none⟩).isSome = true := fun k hk => by rw [hcs k _ (List.getElem?_eq_getElem (by omega))]; rfl
  obtain ⟨A, hA, hsrc⟩ : ∃ A : Addr, (if cap = j then some (⟨b, 0, none⟩ : Addr) else some ⟨b, j, none⟩) = some A ∧ Hid (∀ t u, news[t]? = some u → w.drew.cell? (A.add t) = some u) := by
    by_cases h : cap = j
    · refine ⟨⟨b, 0, none⟩, by simp [h], mkHid fun t u hu => ?_⟩
      have h0 : news.length = 0 := by rw [hlen]; omega
      rw [List.length_eq_zero_iff.1 h0] at hu
      simp at hu
    · refine ⟨⟨b, j, none⟩, by simp [h], mkHid fun t u hu => ?_⟩
      rw [hnews, List.getElem?_drop] at hu
      rw [Addr.add_lit]
      exact hcs _ u hu
  have s1 : Hid (news.length = (n - j) * 1) := mkHid (by rw [Nat.mul_one]; exact hlen)
  have s2 : Hid (∀ u ∈ news, u.oneCell' = true) := mkHid (fun u hu => h1c u (List.mem_of_mem_drop (by rw [← hnews]; exact hu)))
  have s3 : Hid (∀ t, t < news.length → (w.drew.cell? ⟨b, 0 + i * 1 + t, none⟩).isSome = true ∧ w.drew.frozen? ⟨b, 0 + i * 1 + t, none⟩ = false) := mkHid (fun t ht => by
    rw [hlen] at ht
    rw [Nat.mul_one, Nat.zero_add]
    exact ⟨hsome _ (by omega), hfz _ (by omega)⟩)
  obtain ⟨W1, hW1⟩ : ∃ W1, W1 = w.drew.setCells b (0 + i * 1) news := ⟨_, rfl⟩
  have hS1 : ∀ k, k < n → (W1.cell? ⟨b, k, none⟩).isSome = true ∧ W1.frozen? ⟨b, k, none⟩ = false := fun k hk => by
    rw [hW1]
    exact ⟨isSome_setCells b _ _ _ (fun t ht => (s3.out t ht).1) k (hsome k hk), by rw [World.frozen?_setCells]; exact hfz k hk⟩
  have hcl' : ∀ ty, (Builtin.clear_ #[22] ty #[.slice (some ⟨b, i + (n - j), none⟩) (n - (i + (n - j))) (cap - (i + (n - j)))]).run Try.prog W1 = .ok (.tuple #[]) (W1.setCells b (i + (n - j)) (List.replicate (n - (i + (n - j))) (.int .u64 0))) :=
    fun ty => Lib.run_clear_slice W1 _ _ ty _ Try.underlying22 v0 rfl rfl b (i + (n - j)) _ _ (by omega) (fun t ht => (hS1 _ (by omega)).1) (fun t ht => (hS1 _ (by omega)).2)
  have hW : Hid (W1 = w.drew.setCells b (0 + i * 1) news) := mkHid hW1
  have hic : i ≤ cap := by omega
  have hjc : j ≤ cap := by omega
  have hijn : ¬ ((i : Int) = (j : Int)) := by omega
  have hjn : j ≤ n := by omega
  have hij : i ≤ j := by omega
  have HE : Hid (n - 1 = i + (n - j) ∧ n - (i + (n - j)) = 1 ∧ news = cs.drop j) := mkHid ⟨by omega, by omega, hnews⟩
  clear hW1 hnews hlen hj hS1 hsome hfz hcs hi
  go_enter Try.func69, Try.ntmps69
  go_wp2_with fail
  go_region_law_o (refine step_append_room rfl (.tmp 22) (.tmp 25) 22 rfl 30 i0 1 Try.underlying22 hi0 hz1 b 0 i cap (by simp [Act.eval, Act.put]) A (n - j) (cap - j) news (by simp [Act.eval, Act.put]) s1.out hsrc.out s2.out (by omega) s3.out ?_; rw [← hW.out])
  go_wp2
  go_ret
  obtain ⟨e1, e2, e3⟩ := HE.out
  exact ⟨by rw [e1]; rfl, by rw [hW.out, e1, e2, ← e3, Nat.zero_add, Nat.mul_one]; rfl⟩

/-- of a row of its own: one number taken out -/
theorem delete_own (base : Nat) (v : Value) (s : List Nat) (i : Nat) (w : World) (hi : i < s.length) (hown : w.ownsRow base 30 1 v s.length (natCells s)) :
    Calls Try.prog 69 #[v, .int .i64 (i : Int), .int .i64 ((i + 1 : Nat) : Int)] w fun e w' =>
      ∃ v', e = .returned v' ∧ w'.ownsRow base 30 1 v' (s.length - 1) (natCells (del s i)) ∧ Below base w w' := by
  rcases hown.2 with ⟨rfl, h0⟩ | ⟨g, cap, cur, rfl, hbg, hg, hnc, hcm, hcs, _⟩
  · omega
  · have hcm' : cap ≤ 9223372036854775807 := by unfold maxLen at hcm; omega
    rw [Nat.mul_one] at hcs
    have hcell : ∀ j u, (natCells s)[j]? = some u → w.cell? ⟨g, j, none⟩ = some u := fun j u hu => by
      have := hown.cells rfl j u hu
      rwa [Addr.add_lit, Nat.zero_add] at this
    refine (delete_one g s.length cap i (natCells s) w hi (natCells_length s) hnc hcm' hcell (fun j _ => frozen_of_row w g j cur _ hg) (natCells_one s)).mono ?_
    rintro e w' ⟨rfl, hw'⟩
    rw [natCells_drop] at hw'
    obtain ⟨h1, h2⟩ := own_del (w := w.drew) (s := s) (i := i) hbg hg hcs hnc hcm hi (fun j hj => hcell j _ (natCells_get s j (by omega))) _ hw'
    exact ⟨_, rfl, h1, h2 w (Below.refl _ _).drew⟩
end Go.Proofs.Ytmehbonjpmlmfaa

namespace Go.Proofs.Ytmehbonjpmlmfaa
open Go.RowKit

theorem mem_dec {s : List Nat} {t k : Nat} {z : Bool} (P : Place s t k) (A : Asc s) (hz : decide (t ∈ s) = z) : decide (k < s.length ∧ s.getD k 0 = t) = z := by
  rw [← hz]
  by_cases c : t ∈ s
  · rw [decide_eq_true c]; exact decide_eq_true ((mem_place P A).2 c)
  · rw [decide_eq_false c]; exact decide_eq_false fun q => c ((mem_place P A).1 q)
set_option maxRecDepth 100000 in
set_option maxHeartbeats 2000000 in
theorem with_yes {h : Nat} (h1 : 1 ≤ h) (h2 : h ≤ 32) {s : List Nat} (hs : Hid (SetOk h s)) {t : Nat} (ht : t < 2 ^ h) (hx : Hid (t ∉ s)) (hl : s.length < 1024) (A : Option Addr) (c : Nat) (w : World) (hA : Reads w A s) :
    Calls Try.prog 54 #[.int .i64 (h : Int), .slice A s.length c, .int .u64 (t : Int)] w fun e w' =>
      ∃ v, e = .returned (.tuple #[v, .int .i64 0]) ∧ w'.ownsRow w.heap.size 30 1 v (addL s t).length (natCells (addL s t)) ∧ Below w.heap.size w w' := by
  obtain ⟨k, P⟩ := place_ex' hs.out t
  have hp := mkHid P
  have hz := mkHid (mem_dec P (setOk_iff.1 hs.out).2.1 (decide_eq_false hx.out))
  have hk := P.le
  have HL : Hid ((addL s t).length = s.length + 1 ∧ ins s k t = addL s t) := mkHid ⟨addL_length hs.out hx.out, ins_addL P hx.out⟩
  have HA := mkHid hA
  have HT := mkHid ht
  have hl' : ¬ ((s.length : Int) = 1024) := by omega
  clear hA ht P
  go_enter Try.func54, Try.ntmps54
  go_wp2_with (go_at_call 61; ((with_reducible refine (find_yes h1 h2 hs HT.out hp hz _ _ _ HA.out).mono ?_); rintro e w' ⟨rfl, hw'⟩; obtain rfl := hw'.symm))
  refine (clone_any _ _ (by omega) _ HA.out).mono ?_
  rintro e w1 ⟨v, rfl, ho, hb1⟩
  have HB := mkHid hb1
  have HO := mkHid (ho.alloc (.cells #[.int .u64 (t : Int)] 30))
  have HN : Hid (∀ g, v.ownBlock = some g → w1.heap.size ≠ g) := mkHid fun g e => by have := (ho.lt g e).2; omega
  clear ho hb1
  go_wp2_with fail
  refine (insert_own w.heap.size v s k w1.heap.size t _ (by omega) hk (by have := HB.out.size; simp; omega) HO.out HN.out (heap_alloc_new w1 _)).mono ?_
  rintro e w2 ⟨v', rfl, ho, hb2⟩
  have HB2 := mkHid ((HB.out.alloc HB.out.size (.cells #[.int .u64 (t : Int)] 30)).trans hb2)
  obtain ⟨e1, e2⟩ := HL.out
  rw [e2] at ho
  have HO2 : Hid (w2.ownsRow w.heap.size 30 1 v' (addL s t).length (natCells (addL s t))) := mkHid (by rw [e1]; exact ho)
  clear ho hb2 e1 e2
  go_wp2_with fail
  go_ret2
  exact ⟨v', by simp, HO2.out, HB2.out⟩
set_option maxHeartbeats 400000 in
theorem with_there {h : Nat} (h1 : 1 ≤ h) (h2 : h ≤ 32) {s : List Nat} (hs : Hid (SetOk h s)) {t : Nat} (ht : t < 2 ^ h) (hx : Hid (t ∈ s)) (A : Option Addr) (c : Nat) (w : World) (hA : Reads w A s) :
    Calls Try.prog 54 #[.int .i64 (h : Int), .slice A s.length c, .int .u64 (t : Int)] w fun e w' => e = .returned (.tuple #[.slice none 0 0, .int .i64 5]) ∧ w' = w := by
  obtain ⟨k, P⟩ := place_ex' hs.out t
  have hp := mkHid P
  have hz := mkHid (mem_dec P (setOk_iff.1 hs.out).2.1 (decide_eq_true hx.out))
  have HA := mkHid hA
  have HT := mkHid ht
  clear hA ht P
  go_enter Try.func54, Try.ntmps54
  go_wp2_with (go_at_call 61; ((with_reducible refine (find_yes h1 h2 hs HT.out hp hz _ _ _ HA.out).mono ?_); rintro e w' ⟨rfl, hw'⟩; obtain rfl := hw'.symm))
  go_ret2
  exact ⟨by simp, rfl⟩
set_option maxHeartbeats 400000 in
theorem with_full {h : Nat} (h1 : 1 ≤ h) (h2 : h ≤ 32) {s : List Nat} (hs : Hid (SetOk h s)) {t : Nat} (ht : t < 2 ^ h) (hx : Hid (t ∉ s)) (hl : s.length = 1024) (A : Option Addr) (c : Nat) (w : World) (hA : Reads w A s) :
    Calls Try.prog 54 #[.int .i64 (h : Int), .slice A s.length c, .int .u64 (t : Int)] w fun e w' => e = .returned (.tuple #[.slice none 0 0, .int .i64 6]) ∧ w' = w := by
  obtain ⟨k, P⟩ := place_ex' hs.out t
  have hp := mkHid P
  have hz := mkHid (mem_dec P (setOk_iff.1 hs.out).2.1 (decide_eq_false hx.out))
  have HA := mkHid hA
  have HT := mkHid ht
  have hl' : ((s.length : Int) == 1024) = true := beq_iff_eq.2 (by omega)
  clear hA ht P hl
  go_enter Try.func54, Try.ntmps54
  go_wp2_with (go_at_call 61; ((with_reducible refine (find_yes h1 h2 hs HT.out hp hz _ _ _ HA.out).mono ?_); rintro e w' ⟨rfl, hw'⟩; obtain rfl := hw'.symm))
  go_ret2
  exact ⟨by simp, rfl⟩
set_option maxHeartbeats 400000 in
theorem with_no {h : Int} {s : List Nat} {t : Nat} (R : Refuses h s t) (A : Option Addr) (c : Nat) (w : World) (hA : Reads w A s) :
    Calls Try.prog 54 #[.int .i64 h, .slice A s.length c, .int .u64 (t : Int)] w fun e w' => e = .returned (.tuple #[.slice none 0 0, .int .i64 1]) ∧ w' = w := by
  have HA := mkHid hA
  have HR := mkHid R
  clear hA R
  go_enter Try.func54, Try.ntmps54
  go_wp2_with (go_at_call 61; ((with_reducible refine (find_no HR.out _ _ _ HA.out).mono ?_); rintro e w' ⟨rfl, hw'⟩; obtain rfl := hw'.symm))
  go_ret2
  exact ⟨by simp, rfl⟩
set_option maxRecDepth 100000 in
set_option maxHeartbeats 2000000 in
theorem without_yes {h : Nat} (h1 : 1 ≤ h) (h2 : h ≤ 32) {s : List Nat} (hs : Hid (SetOk h s)) {t : Nat} (ht : t < 2 ^ h) (hx : Hid (t ∈ s)) (A : Option Addr) (c : Nat) (w : World) (hA : Reads w A s) :
    Calls Try.prog 55 #[.int .i64 (h : Int), .slice A s.length c, .int .u64 (t : Int)] w fun e w' =>
      ∃ v, e = .returned (.tuple #[v, .int .i64 0]) ∧ w'.ownsRow w.heap.size 30 1 v (remL s t).length (natCells (remL s t)) ∧ Below w.heap.size w w' := by
  obtain ⟨k, P⟩ := place_ex' hs.out t
  have hp := mkHid P
  have hA' := (setOk_iff.1 hs.out).2.1
  have hz := mkHid (mem_dec P hA' (decide_eq_true hx.out))
  obtain ⟨hk, hv⟩ := (mem_place P hA').2 hx.out
  have HL : Hid ((remL s t).length = s.length - 1 ∧ del s k = remL s t) := mkHid ⟨by have := remL_length hs.out hx.out; omega, by rw [del_remL hA' hk, hv]⟩
  have hsl := hs.out.1
  have HA := mkHid hA
  have HT := mkHid ht
  clear hA ht P hv hA'
  go_enter Try.func55, Try.ntmps55
  go_wp2_with (go_at_call 61; ((with_reducible refine (find_yes h1 h2 hs HT.out hp hz _ _ _ HA.out).mono ?_); rintro e w' ⟨rfl, hw'⟩; obtain rfl := hw'.symm))
  refine (clone_any _ _ (by omega) _ HA.out).mono ?_
  rintro e w1 ⟨v, rfl, ho, hb1⟩
  have HB := mkHid hb1
  have HO := mkHid ho
  clear ho hb1
  go_wp2_with fail
  rw [show (k : Int) + 1 = ((k + 1 : Nat) : Int) by omega]
  refine (delete_own w.heap.size v s k _ hk HO.out).mono ?_
  rintro e w2 ⟨v', rfl, ho, hb2⟩
  have HB2 := mkHid (HB.out.trans hb2)
  obtain ⟨e1, e2⟩ := HL.out
  rw [e2] at ho
  have HO2 : Hid (w2.ownsRow w.heap.size 30 1 v' (remL s t).length (natCells (remL s t))) := mkHid (by rw [e1]; exact ho)
  clear ho hb2 e1 e2
  go_wp2_with fail
  go_ret2
  exact ⟨v', by simp, HO2.out, HB2.out⟩
set_option maxHeartbeats 400000 in
theorem without_none {h : Nat} (h1 : 1 ≤ h) (h2 : h ≤ 32) {s : List Nat} (hs : Hid (SetOk h s)) {t : Nat} (ht : t < 2 ^ h) (hx : Hid (t ∉ s)) (A : Option Addr) (c : Nat) (w : World) (hA : Reads w A s) :
    Calls Try.prog 55 #[.int .i64 (h : Int), .slice A s.length c, .int .u64 (t : Int)] w fun e w' => e = .returned (.tuple #[.slice none 0 0, .int .i64 4]) ∧ w' = w := by
  obtain ⟨k, P⟩ := place_ex' hs.out t
  have hp := mkHid P
  have hz := mkHid (mem_dec P (setOk_iff.1 hs.out).2.1 (decide_eq_false hx.out))
  have HA := mkHid hA
  have HT := mkHid ht
  clear hA ht P
  go_enter Try.func55, Try.ntmps55
  go_wp2_with (go_at_call 61; ((with_reducible refine (find_yes h1 h2 hs HT.out hp hz _ _ _ HA.out).mono ?_); rintro e w' ⟨rfl, hw'⟩; obtain rfl := hw'.symm))
  go_ret2
  exact ⟨by simp, rfl⟩
set_option maxHeartbeats 400000 in
theorem without_no {h : Int} {s : List Nat} {t : Nat} (R : Refuses h s t) (A : Option Addr) (c : Nat) (w : World) (hA : Reads w A s) :
    Calls Try.prog 55 #[.int .i64 h, .slice A s.length c, .int .u64 (t : Int)] w fun e w' => e = .returned (.tuple #[.slice none 0 0, .int .i64 1]) ∧ w' = w := by
  have HA := mkHid hA
  have HR := mkHid R
  clear hA R
  go_enter Try.func55, Try.ntmps55
  go_wp2_with (go_at_call 61; ((with_reducible refine (find_no HR.out _ _ _ HA.out).mono ?_); rintro e w' ⟨rfl, hw'⟩; obtain rfl := hw'.symm))
  go_ret2
  exact ⟨by simp, rfl⟩
end Go.Proofs.Ytmehbonjpmlmfaa

namespace Go.Proofs.Ytmehbonjpmlmfaa
open Go.RowKit

theorem pow33' {k : Nat} (hk : k ≤ 33) : 2 ^ k ≤ 8589934592 := pow_le (b := 33) hk
set_option maxHeartbeats 400000 in
theorem power_eq {k p : Nat} (hp : Hid (2 ^ k = p)) (hk : k ≤ 33) (w : World) :
    Calls Try.prog 74 #[.int .i64 (k : Int)] w fun e w' => e = .returned (.int .u64 (p : Int)) ∧ w' = w := by
  go_enter Try.func74, Try.ntmps74
  go_wp2_with fail
  go_loop [3, 5] (fun n i => ∃ j q : Nat, j ≤ k ∧ Hid (2 ^ j = q) ∧ i = .int .i64 (j : Int) ∧ n = .int .u64 (q : Int)) (fun _ i => k - (intOf i).toNat)
  case atStart => exact ⟨0, 1, by omega, mkHid rfl, rfl, rfl⟩
  case round =>
    obtain ⟨j, q, hj, hq, rfl, rfl⟩ := hrel
    have hb : q ≤ 8589934592 := by rw [← hq.out]; exact pow33' (by omega)
    by_cases hlt : j < k
    · go_wp2_with fail
      go_round
      case rel => exact ⟨j + 1, 2 * q, by omega, mkHid (by rw [Nat.pow_succ, hq.out]; omega), by go_num, by go_num⟩
      case measure => simp [intOf]; omega
    · obtain rfl : j = k := by omega
      obtain rfl : q = p := hq.out.symm.trans hp.out
      go_wp2_with fail
      go_ret
      exact ⟨rfl, rfl⟩


/-- power at one more -/
theorem power_next {h p : Nat} (hp : Hid (2 ^ (h + 1) = p)) (hk : h ≤ 32) (w : World) :
    Calls Try.prog 74 #[.int .i64 ((h : Int) + 1)] w fun e w' => e = .returned (.int .u64 (p : Int)) ∧ w' = w := by
  have c := power_eq hp (by omega) w
  rwa [show ((h + 1 : Nat) : Int) = (h : Int) + 1 by omega] at c

set_option maxHeartbeats 400000 in
theorem may_yes {h n : Nat} (H : Node h n) (w : World) :
    Calls Try.prog 66 #[.int .i64 (h : Int), .int .u64 (n : Int)] w fun e w' => e = .returned (.bool true) ∧ w' = w := by
  obtain ⟨p, hp⟩ : ∃ p, Hid (2 ^ (h + 1) = p) := ⟨_, mkHid rfl⟩
  have hl : n < p := by rw [← hp.out]; exact H.lt
  obtain ⟨h1, h2, h3, h4, h5⟩ := H
  have a : decide ((1 : Int) ≤ (h : Int)) = true := decide_eq_true (by omega)
  have b : decide ((h : Int) ≤ 32) = true := decide_eq_true (by omega)
  have c : decide ((1 : Int) ≤ (n : Int)) = true := decide_eq_true (by omega)
  have d : decide ((n : Int) < (p : Int)) = true := decide_eq_true (by omega)
  have d' : decide (n < p) = true := decide_eq_true (by omega)
  go_enter Try.func66, Try.ntmps66
  go_wp2_with (first | (go_at_call 74; ((with_reducible refine (power_next hp h2 _).mono ?_); rintro e w' ⟨rfl, rfl⟩)))
  go_ret
  exact ⟨by simp [*], rfl⟩

set_option maxHeartbeats 400000 in
theorem may_lo {h : Int} {n : Nat} (H : h < 1) (w : World) :
    Calls Try.prog 66 #[.int .i64 h, .int .u64 (n : Int)] w fun e w' => e = .returned (.bool false) ∧ w' = w := by
  have a : decide ((1 : Int) ≤ h) = false := decide_eq_false (by omega)
  go_enter Try.func66, Try.ntmps66
  go_wp2_with fail
  go_ret
  exact ⟨rfl, rfl⟩

set_option maxHeartbeats 400000 in
theorem may_hi {h : Int} {n : Nat} (H : 32 < h) (w : World) :
    Calls Try.prog 66 #[.int .i64 h, .int .u64 (n : Int)] w fun e w' => e = .returned (.bool false) ∧ w' = w := by
  have a : decide ((1 : Int) ≤ h) = true := decide_eq_true (by omega)
  have b : decide (h ≤ 32) = false := decide_eq_false (by omega)
  go_enter Try.func66, Try.ntmps66
  go_wp2_with fail
  go_ret
  exact ⟨rfl, rfl⟩

set_option maxHeartbeats 400000 in
theorem may_zero {h n : Nat} (h1 : 1 ≤ h) (h2 : h ≤ 32) (h3 : n = 0) (w : World) :
    Calls Try.prog 66 #[.int .i64 (h : Int), .int .u64 (n : Int)] w fun e w' => e = .returned (.bool false) ∧ w' = w := by
  have a : decide ((1 : Int) ≤ (h : Int)) = true := decide_eq_true (by omega)
  have b : decide ((h : Int) ≤ 32) = true := decide_eq_true (by omega)
  have c : decide ((1 : Int) ≤ (n : Int)) = false := decide_eq_false (by omega)
  clear h3
  go_enter Try.func66, Try.ntmps66
  go_wp2_with fail
  go_ret
  exact ⟨rfl, rfl⟩

set_option maxHeartbeats 400000 in
theorem may_deep {h n : Nat} (h1 : 1 ≤ h) (h2 : h ≤ 32) (h3 : 1 ≤ n) (h4 : 2 ^ (h + 1) ≤ n) (w : World) :
    Calls Try.prog 66 #[.int .i64 (h : Int), .int .u64 (n : Int)] w fun e w' => e = .returned (.bool false) ∧ w' = w := by
  obtain ⟨p, hp⟩ : ∃ p, Hid (2 ^ (h + 1) = p) := ⟨_, mkHid rfl⟩
  have hl : p ≤ n := by rw [← hp.out]; exact h4
  have a : decide ((1 : Int) ≤ (h : Int)) = true := decide_eq_true (by omega)
  have b : decide ((h : Int) ≤ 32) = true := decide_eq_true (by omega)
  have c : decide ((1 : Int) ≤ (n : Int)) = true := decide_eq_true (by omega)
  have d : decide ((n : Int) < (p : Int)) = false := decide_eq_false (by omega)
  have d' : decide (n < p) = false := decide_eq_false (by omega)
  clear h4
  go_enter Try.func66, Try.ntmps66
  go_wp2_with (first | (go_at_call 74; ((with_reducible refine (power_next hp h2 _).mono ?_); rintro e w' ⟨rfl, rfl⟩)))
  go_ret
  exact ⟨by simp [*], rfl⟩

theorem NoNode.out {h : Int} {n : Nat} (H : NoNode h n) (hn : n < 18446744073709551616) : h < 1 ∨ 32 < h ∨ ∃ k : Nat, h = (k : Int) ∧ 1 ≤ k ∧ k ≤ 32 ∧ (n = 0 ∨ (1 ≤ n ∧ 2 ^ (k + 1) ≤ n)) := by
  by_cases a : h < 1
  · exact .inl a
  by_cases b : 32 < h
  · exact .inr (.inl b)
  obtain ⟨k, rfl⟩ : ∃ k : Nat, h = (k : Int) := ⟨h.toNat, by omega⟩
  refine .inr (.inr ⟨k, rfl, by omega, by omega, ?_⟩)
  rcases H with H | H | H | ⟨j, e, c, d, f, g⟩
  · omega
  · omega
  · exact .inl H
  · obtain rfl : k = j := by omega
    refine .inr ⟨f, Nat.le_trans (pow_le (by omega)) (dep_lo f hn)⟩
theorem may_no {h : Int} {n : Nat} (H : NoNode h n) (hn : n < 18446744073709551616) (w : World) :
    Calls Try.prog 66 #[.int .i64 h, .int .u64 (n : Int)] w fun e w' => e = .returned (.bool false) ∧ w' = w := by
  rcases H.out hn with a | a | ⟨k, rfl, a, b, c | ⟨c, d⟩⟩
  · exact may_lo a w
  · exact may_hi a w
  · exact may_zero a b c w
  · exact may_deep a b c d w

set_option maxHeartbeats 400000 in
theorem rcheck_yes {h n : Nat} (H : Node h n) (w : World) :
    Calls Try.prog 50 #[.int .i64 (h : Int), .int .u64 (n : Int)] w fun e w' => e = .returned (.int .i64 0) ∧ w' = w := by
  have H' := mkHid H
  clear H
  go_enter Try.func50, Try.ntmps50
  go_wp2_with (first | (go_at_call 66; ((with_reducible refine (may_yes H'.out _).mono ?_); rintro e w' ⟨rfl, rfl⟩)))
  go_ret
  exact ⟨rfl, rfl⟩

set_option maxHeartbeats 400000 in
theorem rcheck_no {h : Int} {n : Nat} (H : NoNode h n) (hn : n < 18446744073709551616) (w : World) :
    Calls Try.prog 50 #[.int .i64 h, .int .u64 (n : Int)] w fun e w' => e = .returned (.int .i64 1) ∧ w' = w := by
  have H' := mkHid H
  clear H
  go_enter Try.func50, Try.ntmps50
  go_wp2_with (first | (go_at_call 66; ((with_reducible refine (may_no H'.out hn _).mono ?_); rintro e w' ⟨rfl, rfl⟩)))
  go_ret
  exact ⟨rfl, rfl⟩

set_option maxHeartbeats 400000 in
theorem rleaf_none {h i : Nat} (h1 : 1 ≤ h) (h2 : h ≤ 32) (hi : 2 ^ h ≤ i) (w : World) :
    Calls Try.prog 65 #[.int .i64 (h : Int), .int .u64 (i : Int)] w fun e w' => e = .returned (.tuple #[.int .u64 (0), .int .i64 4]) ∧ w' = w := by
  obtain ⟨p, hp⟩ : ∃ p, Hid (2 ^ h = p) := ⟨_, mkHid rfl⟩
  have hl : p ≤ i := by rw [← hp.out]; exact hi
  clear hi
  have a : decide ((h : Int) < 1) = false := decide_eq_false (by omega)
  have b : decide ((32 : Int) < (h : Int)) = false := decide_eq_false (by omega)
  have c : decide ((p : Int) ≤ (i : Int)) = true := decide_eq_true (by omega)
  have d : decide (p ≤ i) = true := decide_eq_true (by omega)
  go_enter Try.func65, Try.ntmps65
  go_wp2_with (first | (go_at_call 74; ((with_reducible refine (power_eq hp (by omega) _).mono ?_); rintro e w' ⟨rfl, rfl⟩)))
  go_ret2
  exact ⟨rfl, rfl⟩

set_option maxHeartbeats 400000 in
theorem rleaf_yes {h i r : Nat} (h1 : 1 ≤ h) (h2 : h ≤ 32) (hi : i < 2 ^ h) (hr : Hid (2 ^ h + i = r)) (w : World) :
    Calls Try.prog 65 #[.int .i64 (h : Int), .int .u64 (i : Int)] w fun e w' => e = .returned (.tuple #[.int .u64 ((r : Int)), .int .i64 0]) ∧ w' = w := by
  obtain ⟨p, hp⟩ : ∃ p, Hid (2 ^ h = p) := ⟨_, mkHid rfl⟩
  have hl : i < p := by rw [← hp.out]; exact hi
  have hb : p ≤ 8589934592 := by rw [← hp.out]; exact pow33' (by omega)
  have er : (p : Int) + (i : Int) = (r : Int) := by have := hr.out; rw [hp.out] at this; omega
  clear hi hr
  have a : decide ((h : Int) < 1) = false := decide_eq_false (by omega)
  have b : decide ((32 : Int) < (h : Int)) = false := decide_eq_false (by omega)
  have c : decide ((p : Int) ≤ (i : Int)) = false := decide_eq_false (by omega)
  have d : decide (p ≤ i) = false := decide_eq_false (by omega)
  go_enter Try.func65, Try.ntmps65
  go_wp2_with (first | (go_at_call 74; ((with_reducible refine (power_eq hp (by omega) _).mono ?_); rintro e w' ⟨rfl, rfl⟩)))
  go_ret2
  exact ⟨rfl, rfl⟩

end Go.Proofs.Ytmehbonjpmlmfaa

namespace Go.Proofs.Ytmehbonjpmlmfaa
open Go.RowKit

set_option maxHeartbeats 400000 in
theorem sis_yes {h i : Nat} (h1 : 1 ≤ h) (h2 : h ≤ 32) (hi : i < 2 ^ h) (w : World) :
    Calls Try.prog 48 #[.int .i64 (h : Int), .int .u64 (i : Int)] w fun e w' => e = .returned (.bool true) ∧ w' = w := by
  have hi' := mkHid hi
  clear hi
  go_enter Try.func48, Try.ntmps48
  go_wp2_with (go_at_call 65; ((with_reducible refine (rleaf_yes h1 h2 hi'.out (mkHid rfl) _).mono ?_); rintro e w' ⟨rfl, rfl⟩))
  go_ret
  exact ⟨rfl, rfl⟩
set_option maxHeartbeats 400000 in
theorem sis_not {h i : Nat} (h1 : 1 ≤ h) (h2 : h ≤ 32) (hi : 2 ^ h ≤ i) (w : World) :
    Calls Try.prog 48 #[.int .i64 (h : Int), .int .u64 (i : Int)] w fun e w' => e = .returned (.bool false) ∧ w' = w := by
  have hi' := mkHid hi
  clear hi
  go_enter Try.func48, Try.ntmps48
  go_wp2_with (go_at_call 65; ((with_reducible refine (rleaf_none h1 h2 hi'.out _).mono ?_); rintro e w' ⟨rfl, rfl⟩))
  go_ret
  exact ⟨rfl, rfl⟩
theorem sis_any {h i : Nat} {z : Bool} (h1 : 1 ≤ h) (h2 : h ≤ 32) (hz : Hid (decide (i < 2 ^ h) = z)) (w : World) :
    Calls Try.prog 48 #[.int .i64 (h : Int), .int .u64 (i : Int)] w fun e w' => e = .returned (.bool z) ∧ w' = w := by
  rw [← hz.out]
  by_cases c : i < 2 ^ h
  · rw [decide_eq_true c]; exact sis_yes h1 h2 c w
  · rw [decide_eq_false c]; exact sis_not h1 h2 (by omega) w
theorem rcheck_root {h : Nat} (h1 : 1 ≤ h) (h2 : h ≤ 32) (w : World) :
    Calls Try.prog 50 #[.int .i64 (h : Int), .int .u64 1] w fun e w' => e = .returned (.int .i64 0) ∧ w' = w := rcheck_yes (root_node h1 h2) w
theorem rcheck_root_no {h : Int} (H : h < 1 ∨ 32 < h) (w : World) :
    Calls Try.prog 50 #[.int .i64 h, .int .u64 1] w fun e w' => e = .returned (.int .i64 1) ∧ w' = w :=
  rcheck_no (n := 1) (by rcases H with H | H; exact .inl H; exact .inr (.inl H)) (by decide) w

set_option maxHeartbeats 400000 in
theorem scheck_bad {h : Int} (H : h < 1 ∨ 32 < h) (A : Option Addr) (n c : Nat) (w : World) :
    Calls Try.prog 51 #[.int .i64 h, .slice A n c] w fun e w' => e = .returned (.int .i64 1) ∧ w' = w := by
  have H' := mkHid H
  clear H
  go_enter Try.func51, Try.ntmps51
  go_wp2_with (go_at_call 50; ((with_reducible refine (rcheck_root_no H'.out _).mono ?_); rintro e w' ⟨rfl, rfl⟩))
  go_ret
  exact ⟨rfl, rfl⟩
set_option maxHeartbeats 400000 in
theorem scheck_long {h : Nat} (h1 : 1 ≤ h) (h2 : h ≤ 32) {n : Nat} (hn : 1024 < n) (A : Option Addr) (c : Nat) (w : World) :
    Calls Try.prog 51 #[.int .i64 (h : Int), .slice A n c] w fun e w' => e = .returned (.int .i64 1) ∧ w' = w := by
  have e1 : decide ((1024 : Int) < (n : Int)) = true := decide_eq_true (by omega)
  go_enter Try.func51, Try.ntmps51
  go_wp2_with (go_at_call 50; ((with_reducible refine (rcheck_root h1 h2 _).mono ?_); rintro e w' ⟨rfl, rfl⟩))
  go_ret
  exact ⟨rfl, rfl⟩
/-- Check, of a set or of none: r is what it answers, in a list that is not too long -/
theorem scheck_walk {h : Nat} (h1 : 1 ≤ h) (h2 : h ≤ 32) {s : List Nat} (hn : s.length ≤ 1024) {r : Int} (hr : Hid ((OkTo h s s.length ∧ r = 0) ∨ (¬ OkTo h s s.length ∧ r = 1))) (A : Option Addr) (c : Nat) (w : World) (hA : Reads w A s) :
    Calls Try.prog 51 #[.int .i64 (h : Int), .slice A s.length c] w fun e w' => e = .returned (.int .i64 r) ∧ w' = w := by
  have e1 : decide ((1024 : Int) < (s.length : Int)) = false := decide_eq_false (by omega)
  have HA := mkHid hA
  clear hA
  generalize hm : s.length = m at *
  have Hm := mkHid hm
  clear hm
  go_enter Try.func51, Try.ntmps51
  go_wp2_with (go_at_call 50; ((with_reducible refine (rcheck_root h1 h2 _).mono ?_); rintro e w' ⟨rfl, hw'⟩; obtain rfl := hw'.symm))
  go_loop [17] (fun i => ∃ k : Nat, k ≤ m ∧ i = .int .i64 (k : Int) ∧ Hid (OkTo h s k)) (fun i => m - (intOf i).toNat)
  case atStart => exact ⟨0, by omega, rfl, OkTo.zero h s⟩
  case round =>
    obtain ⟨k, hk, rfl, hok⟩ := hrel
    by_cases hlt : k < m
    · obtain ⟨ad, rfl, hc⟩ := HA.out.cell k (by rw [Hm.out]; exact hlt)
      obtain ⟨x, hx⟩ : ∃ x, Hid (s.getD k 0 = x) := ⟨_, mkHid rfl⟩
      rw [hx.out] at hc
      obtain ⟨z, hz⟩ : ∃ z, Hid (decide (x < 2 ^ h) = z) := ⟨_, mkHid rfl⟩
      have bad : (z = false ∨ (0 < k ∧ x ≤ s.getD (k - 1) 0)) → r = 1 := by
        intro hb
        rcases hr.out with ⟨a, _⟩ | ⟨_, b⟩
        · exfalso
          have q := a k hlt
          rw [hx.out] at q
          rcases hb with hb | ⟨hb1, hb2⟩
          · rw [hb] at hz
            have := of_decide_eq_false hz.out
            omega
          · have := q.2 hb1; omega
        · exact b
      have BAD := mkHid bad
      clear bad
      cases z
      · obtain rfl : r = 1 := BAD.out (.inl rfl)
        go_wp2_with (go_at_call 48; ((with_reducible refine (sis_any h1 h2 hz _).mono ?_); rintro e w' ⟨rfl, hw'⟩; obtain rfl := hw'.symm))
        go_ret
        exact ⟨rfl, rfl⟩
      · by_cases hk0 : k = 0
        · subst hk0
          have hc0 : w.cell? ad = some (.int .u64 (x : Int)) := by rw [← addr_zero ad]; exact hc
          go_wp2_with (go_at_call 48; ((with_reducible refine (sis_any h1 h2 hz _).mono ?_); rintro e w' ⟨rfl, hw'⟩; obtain rfl := hw'.symm))
          go_round
          case rel => exact ⟨1, by omega, rfl, hok.out.succ (by rw [hx.out]; exact of_decide_eq_true hz.out) (fun h => by omega)⟩
          case measure => simp [intOf]; omega
        · obtain ⟨ad', e', hc'⟩ := HA.out.cell (k - 1) (by rw [Hm.out]; omega)
          cases e'
          obtain ⟨y, hy⟩ : ∃ y, Hid (s.getD (k - 1) 0 = y) := ⟨_, mkHid rfl⟩
          rw [hy.out] at hc'
          have ek : (k : Int) - 1 = ((k - 1 : Nat) : Int) := by omega
          have hk1 : k - 1 < m := by omega
          have e0 : decide ((0 : Int) < (k : Int)) = true := decide_eq_true (by omega)
          by_cases hxy : x ≤ y
          · obtain rfl : r = 1 := BAD.out (.inr ⟨by omega, by rw [hy.out]; exact hxy⟩)
            have e2 : decide (x ≤ y) = true := decide_eq_true hxy
            generalize k - 1 = k' at *
            go_wp2_with (go_at_call 48; ((with_reducible refine (sis_any h1 h2 hz _).mono ?_); rintro e w' ⟨rfl, hw'⟩; obtain rfl := hw'.symm))
            go_ret
            exact ⟨rfl, rfl⟩
          · have e2 : decide (x ≤ y) = false := decide_eq_false hxy
            have hok' := mkHid (hok.out.succ (by rw [hx.out]; exact of_decide_eq_true hz.out) (fun _ => by rw [hx.out, hy.out]; omega))
            generalize k - 1 = k' at *
            go_wp2_with (go_at_call 48; ((with_reducible refine (sis_any h1 h2 hz _).mono ?_); rintro e w' ⟨rfl, hw'⟩; obtain rfl := hw'.symm))
            go_round
            case rel => exact ⟨k + 1, by omega, by go_num, hok'⟩
            case measure => simp [intOf]; omega
    · obtain rfl : k = m := by omega
      obtain rfl : r = 0 := by
        rcases hr.out with ⟨_, b⟩ | ⟨a, _⟩
        · exact b
        · exact absurd hok.out a
      go_wp2_with fail
      go_ret
      exact ⟨rfl, rfl⟩
theorem scheck_yes {h : Nat} (h1 : 1 ≤ h) (h2 : h ≤ 32) {s : List Nat} (hs : SetOk h s) (A : Option Addr) (c : Nat) (w : World) (hA : Reads w A s) :
    Calls Try.prog 51 #[.int .i64 (h : Int), .slice A s.length c] w fun e w' => e = .returned (.int .i64 0) ∧ w' = w :=
  scheck_walk h1 h2 hs.1 (mkHid (.inl ⟨hs.2, rfl⟩)) A c w hA
theorem scheck_no {h : Nat} (h1 : 1 ≤ h) (h2 : h ≤ 32) {s : List Nat} (hs : ¬ SetOk h s) (A : Option Addr) (c : Nat) (w : World) (hA : Reads w A s) :
    Calls Try.prog 51 #[.int .i64 (h : Int), .slice A s.length c] w fun e w' => e = .returned (.int .i64 1) ∧ w' = w := by
  by_cases hn : s.length ≤ 1024
  · exact scheck_walk h1 h2 hn (mkHid (.inr ⟨fun q => hs ⟨hn, q⟩, rfl⟩)) A c w hA
  · exact scheck_long h1 h2 (by omega) A c w

set_option maxHeartbeats 1000000 in
theorem sin_walk {s : List Nat} {x : Nat} {z : Bool} (hn : s.length ≤ 4611686018427387904) (hz : Hid (decide (x ∈ s) = z)) (A : Option Addr) (c : Nat) (w : World) (hA : Reads w A s) :
    Calls Try.prog 49 #[.slice A s.length c, .int .u64 (x : Int)] w fun e w' => e = .returned (.bool z) ∧ w' = w := by
  have HA := mkHid hA
  clear hA
  generalize hm : s.length = m at *
  have Hm := mkHid hm
  clear hm
  go_enter Try.func49, Try.ntmps49
  go_wp2_with fail
  go_loop [9] (fun i => ∃ k : Nat, k ≤ m ∧ i = .int .i64 (k : Int) ∧ Hid (∀ j, j < k → s.getD j 0 ≠ x)) (fun i => m - (intOf i).toNat)
  case atStart => exact ⟨0, by omega, rfl, fun j hj => by omega⟩
  case round =>
    obtain ⟨k, hk, rfl, hno⟩ := hrel
    by_cases hlt : k < m
    · obtain ⟨ad, rfl, hc⟩ := HA.out.cell k (by rw [Hm.out]; exact hlt)
      obtain ⟨y, hy⟩ : ∃ y, Hid (s.getD k 0 = y) := ⟨_, mkHid rfl⟩
      rw [hy.out] at hc
      by_cases e : y = x
      · subst e
        obtain rfl : z = true := by
          rw [← hz.out]
          refine decide_eq_true ?_
          have hk' : k < s.length := by rw [Hm.out]; exact hlt
          rw [← hy.out, getD_eq hk']
          exact List.getElem_mem hk'
        go_wp2_with fail
        go_ret
        exact ⟨rfl, rfl⟩
      · have e1 : ((y : Int) == (x : Int)) = false := beq_eq_false_iff_ne.2 (by omega)
        have e2 : (y == x) = false := beq_eq_false_iff_ne.2 e
        have hno' : Hid (∀ j, j < k + 1 → s.getD j 0 ≠ x) := mkHid fun j hj => by
          rcases Nat.lt_or_ge j k with c | c
          · exact hno.out j c
          · obtain rfl : j = k := by omega
            rw [hy.out]; exact e
        clear hno
        go_wp2_with fail
        go_round
        case rel => exact ⟨k + 1, by omega, by go_num, hno'⟩
        case measure => simp [intOf]; omega
    · obtain rfl : k = m := by omega
      obtain rfl : z = false := by
        rw [← hz.out]
        refine decide_eq_false fun q => ?_
        obtain ⟨j, hj, e⟩ := List.mem_iff_getElem.1 q
        exact hno.out j (by rw [← Hm.out]; exact hj) (by rw [getD_eq hj]; exact e)
      go_wp2_with fail
      go_ret
      exact ⟨rfl, rfl⟩
set_option maxHeartbeats 400000 in
theorem shas_yes {h : Nat} (h1 : 1 ≤ h) (h2 : h ≤ 32) {s : List Nat} (hs : Hid (SetOk h s)) {t : Nat} (ht : t < 2 ^ h) {z : Bool} (hz : Hid (decide (t ∈ s) = z)) (A : Option Addr) (c : Nat) (w : World) (hA : Reads w A s) :
    Calls Try.prog 64 #[.int .i64 (h : Int), .slice A s.length c, .int .u64 (t : Int)] w fun e w' => e = .returned (.tuple #[.bool z, .int .i64 0]) ∧ w' = w := by
  have hlen : s.length ≤ 4611686018427387904 := by have := hs.out.1; omega
  have HA := mkHid hA
  have HT := mkHid ht
  clear hA ht
  go_enter Try.func64, Try.ntmps64
  go_wp2_with first
    | (go_at_call 51; ((with_reducible refine (scheck_yes h1 h2 hs.out _ _ _ HA.out).mono ?_); rintro e w' ⟨rfl, hw'⟩; obtain rfl := hw'.symm))
    | (go_at_call 48; ((with_reducible refine (sis_yes h1 h2 HT.out _).mono ?_); rintro e w' ⟨rfl, hw'⟩; obtain rfl := hw'.symm))
    | (go_at_call 49; ((with_reducible refine (sin_walk hlen hz _ _ _ HA.out).mono ?_); rintro e w' ⟨rfl, hw'⟩; obtain rfl := hw'.symm))
  go_ret2
  exact ⟨by simp, rfl⟩
set_option maxHeartbeats 400000 in
theorem shas_set {h : Nat} (h1 : 1 ≤ h) (h2 : h ≤ 32) {s : List Nat} (hs : Hid (¬ SetOk h s)) (t : Nat) (A : Option Addr) (c : Nat) (w : World) (hA : Reads w A s) :
    Calls Try.prog 64 #[.int .i64 (h : Int), .slice A s.length c, .int .u64 (t : Int)] w fun e w' => e = .returned (.tuple #[.bool false, .int .i64 1]) ∧ w' = w := by
  have HA := mkHid hA
  clear hA
  go_enter Try.func64, Try.ntmps64
  go_wp2_with (go_at_call 51; ((with_reducible refine (scheck_no h1 h2 hs.out _ _ _ HA.out).mono ?_); rintro e w' ⟨rfl, hw'⟩; obtain rfl := hw'.symm))
  go_ret2
  exact ⟨by simp, rfl⟩
set_option maxHeartbeats 400000 in
theorem shas_leaf {h : Nat} (h1 : 1 ≤ h) (h2 : h ≤ 32) {s : List Nat} (hs : Hid (SetOk h s)) {t : Nat} (ht : 2 ^ h ≤ t) (A : Option Addr) (c : Nat) (w : World) (hA : Reads w A s) :
    Calls Try.prog 64 #[.int .i64 (h : Int), .slice A s.length c, .int .u64 (t : Int)] w fun e w' => e = .returned (.tuple #[.bool false, .int .i64 1]) ∧ w' = w := by
  have HA := mkHid hA
  have HT := mkHid ht
  clear hA ht
  go_enter Try.func64, Try.ntmps64
  go_wp2_with first
    | (go_at_call 51; ((with_reducible refine (scheck_yes h1 h2 hs.out _ _ _ HA.out).mono ?_); rintro e w' ⟨rfl, hw'⟩; obtain rfl := hw'.symm))
    | (go_at_call 48; ((with_reducible refine (sis_not h1 h2 HT.out _).mono ?_); rintro e w' ⟨rfl, hw'⟩; obtain rfl := hw'.symm))
  go_ret2
  exact ⟨by simp, rfl⟩
set_option maxHeartbeats 400000 in
theorem shas_bad {h : Int} (H : h < 1 ∨ 32 < h) (n t : Nat) (A : Option Addr) (c : Nat) (w : World) :
    Calls Try.prog 64 #[.int .i64 h, .slice A n c, .int .u64 (t : Int)] w fun e w' => e = .returned (.tuple #[.bool false, .int .i64 1]) ∧ w' = w := by
  have H' := mkHid H
  clear H
  go_enter Try.func64, Try.ntmps64
  go_wp2_with (go_at_call 51; ((with_reducible refine (scheck_bad H'.out _ _ _ _).mono ?_); rintro e w' ⟨rfl, hw'⟩; obtain rfl := hw'.symm))
  go_ret2
  exact ⟨by simp, rfl⟩
theorem shas_no {h : Int} {s : List Nat} {t : Nat} (R : Refuses h s t) (A : Option Addr) (c : Nat) (w : World) (hA : Reads w A s) :
    Calls Try.prog 64 #[.int .i64 h, .slice A s.length c, .int .u64 (t : Int)] w fun e w' => e = .returned (.tuple #[.bool false, .int .i64 1]) ∧ w' = w := by
  by_cases H : 1 ≤ h ∧ h ≤ 32
  · obtain ⟨n, rfl⟩ : ∃ n : Nat, h = n := ⟨h.toNat, by omega⟩
    have e : (n : Int).toNat = n := by omega
    have r := R.no
    rw [e] at r
    by_cases hs : SetOk n s
    · exact shas_leaf (by omega) (by omega) (mkHid hs) (by
        rcases Nat.lt_or_ge t (2 ^ n) with l | l
        · exact absurd ⟨H, hs, l⟩ r
        · exact l) A c w hA
    · exact shas_set (by omega) (by omega) (mkHid hs) t A c w hA
  · exact shas_bad (by omega) _ _ _ _ _
end Go.Proofs.Ytmehbonjpmlmfaa

namespace Go.Proofs.Ytmehbonjpmlmfaa
open Go.RowKit Go.Proofs.YtmehbonjpmlmfaaW.PrintWords

set_option maxHeartbeats 2000000 in
theorem ssame_any {s t : List Nat} {z : Bool} (hz : Hid (decide (s = t) = z)) (hn : s.length < 4611686018427387904) (A B : Option Addr) (a b : Nat) (w : World) (hA : Reads w A s) (hB : Reads w B t) :
    Calls Try.prog 26 #[.slice A s.length a, .slice B t.length b] w fun e w' => e = .returned (.bool z) ∧ Below w.heap.size w w' := by
  have HA := mkHid hA
  have HB := mkHid hB
  clear hA hB
  generalize hm : s.length = m at *
  generalize hl : t.length = l at *
  have Hm := mkHid hm
  have Hl := mkHid hl
  clear hm hl
  by_cases c : m = l
  · subst c
    go_enter Try.func26, Try.ntmps26
    go_wp2_with fail
    go_loopw [13] (fun i wr => ∃ k : Nat, k ≤ m ∧ i = .int .i64 (k : Int) ∧ Hid (∀ j, j < k → s.getD j 0 = t.getD j 0) ∧ Hid (Below w.heap.size w wr)) (fun i _ => m - (intOf i).toNat)
    case atStart => exact ⟨0, by omega, rfl, fun j hj => by omega, Below.refl _ _⟩
    case round =>
      obtain ⟨k, hk, rfl, hsame, hBel⟩ := hrel
      by_cases hlt : k < m
      · obtain ⟨ad, rfl, hc⟩ := (HA.out.below hBel.out).cell k (by rw [Hm.out]; exact hlt)
        obtain ⟨bd, rfl, hd⟩ := (HB.out.below hBel.out).cell k (by rw [Hl.out]; exact hlt)
        obtain ⟨x, hx⟩ : ∃ x, Hid (s.getD k 0 = x) := ⟨_, mkHid rfl⟩
        obtain ⟨y, hy⟩ : ∃ y, Hid (t.getD k 0 = y) := ⟨_, mkHid rfl⟩
        rw [hx.out] at hc
        rw [hy.out] at hd
        by_cases e : x = y
        · subst e
          have hsame' : Hid (∀ j, j < k + 1 → s.getD j 0 = t.getD j 0) := mkHid fun j hj => by
            rcases Nat.lt_or_ge j k with c | c
            · exact hsame.out j c
            · obtain rfl : j = k := by omega
              rw [hx.out, hy.out]
          clear hsame
          go_wp2_with fail
          go_quiet (fail)
          go_wp2_with fail
          go_roundw
          case rel => exact ⟨k + 1, by omega, by go_num, hsame', mkHid (below_drewN hBel.out _)⟩
          case measure => simp [intOf]; omega
        · have e1 : ((x : Int) != (y : Int)) = true := bne_iff_ne.2 (by omega)
          have e2 : (x != y) = true := bne_iff_ne.2 e
          obtain rfl : z = false := by
            rw [← hz.out]
            refine decide_eq_false fun q => e ?_
            rw [← hx.out, ← hy.out, q]
          go_wp2_with fail
          go_quiet (fail)
          go_wp2_with fail
          go_ret
          exact ⟨rfl, below_drewN hBel.out _⟩
      · obtain rfl : k = m := by omega
        obtain rfl : z = true := by
          rw [← hz.out]
          refine decide_eq_true (List.ext_getElem (by rw [Hm.out, Hl.out]) fun j h1 h2 => ?_)
          have := hsame.out j (by rw [← Hm.out]; exact h1)
          rwa [getD_eq h1, getD_eq h2] at this
        go_wp2_with fail
        go_ret
        exact ⟨rfl, hBel.out⟩
  · obtain rfl : z = false := by
      rw [← hz.out]
      refine decide_eq_false fun q => c ?_
      rw [← Hm.out, ← Hl.out, q]
    have e1 : ((m : Int) != (l : Int)) = true := bne_iff_ne.2 (by omega)
    have e2 : (m != l) = true := bne_iff_ne.2 c
    have e3 : ((m : Int) == (l : Int)) = false := beq_eq_false_iff_ne.2 (by omega)
    go_enter Try.func26, Try.ntmps26
    go_wp2_with fail
    go_ret
    exact ⟨rfl, Below.refl _ _⟩

/-- the first k, as far as a test lets them by -/
def filTo (p : Nat → Bool) (s : List Nat) (k : Nat) : List Nat := (s.take k).filter p
theorem filTo_yes {p : Nat → Bool} {s : List Nat} {k x : Nat} (hk : k < s.length) (hx : s.getD k 0 = x) (h : p x = true) : filTo p s (k + 1) = filTo p s k ++ [x] := by
  unfold filTo
  rw [List.take_succ_eq_append_getElem hk, List.filter_append]
  rw [getD_eq hk] at hx
  rw [hx, List.filter_cons_of_pos h, List.filter_nil]
theorem filTo_not {p : Nat → Bool} {s : List Nat} {k x : Nat} (hk : k < s.length) (hx : s.getD k 0 = x) (h : p x = false) : filTo p s (k + 1) = filTo p s k := by
  unfold filTo
  rw [List.take_succ_eq_append_getElem hk, List.filter_append]
  rw [getD_eq hk] at hx
  rw [hx, List.filter_cons_of_neg (by rw [h]; decide), List.filter_nil, List.append_nil]
theorem filTo_all (p : Nat → Bool) (s : List Nat) : filTo p s s.length = s.filter p := by unfold filTo; rw [List.take_length]
theorem filTo_le (p : Nat → Bool) (s : List Nat) (k : Nat) : (filTo p s k).length ≤ s.length := by
  unfold filTo
  exact Nat.le_trans (List.length_filter_le _ _) (by rw [List.length_take]; omega)
theorem Reads.one (w : World) (x : Nat) : Reads (w.alloc (.cells #[.int .u64 (x : Int)] 30)) (some ⟨w.heap.size, 0, none⟩) [x] := Reads.of_cells (by simp) fun j hj => by
  have : j = 0 := by simpa using hj
  subst this
  rw [addr_zero]
  simp
/-- a row of the call's own, as a law on appending one number asks for it -/
def RowOf (w : World) (base : Nat) (v : Value) (S : List Nat) : Prop := w.ownsRow base 30 1 v S.length (natCells S)

set_option maxRecDepth 100000 in
set_option maxHeartbeats 4000000 in
theorem swith_yes {h : Nat} (h1 : 1 ≤ h) (h2 : h ≤ 32) {s : List Nat} (hs : Hid (SetOk h s)) {t : Nat} (ht : t < 2 ^ h) (hx : Hid (t ∉ s)) (hl : s.length < 1024) (A : Option Addr) (c : Nat) (w : World) (hA : Reads w A s) :
    Calls Try.prog 46 #[.int .i64 (h : Int), .slice A s.length c, .int .u64 (t : Int)] w fun e w' =>
      ∃ v, e = .returned (.tuple #[v, .int .i64 0]) ∧ w'.ownsRow w.heap.size 30 1 v (addL s t).length (natCells (addL s t)) ∧ Below w.heap.size w w' := by
  have hz := mkHid (decide_eq_false hx.out)
  have HA := mkHid hA
  have HT := mkHid ht
  have hl' : ((s.length : Int) == 1024) = false := beq_eq_false_iff_ne.2 (by omega)
  have HF : Hid (∀ k, (filTo (fun y => decide (y < t)) s k).length ≤ s.length ∧ (filTo (fun y => decide (t < y)) s k).length ≤ s.length) := mkHid fun k => ⟨filTo_le _ _ _, filTo_le _ _ _⟩
  clear hA ht
  go_enter Try.func46, Try.ntmps46
  go_wp2_with (go_at_call 64; ((with_reducible refine (shas_yes h1 h2 hs HT.out hz _ _ _ HA.out).mono ?_); rintro e w' ⟨rfl, hw'⟩; obtain rfl := hw'.symm))
  go_loopw [10, 31] (fun v i wr => ∃ (k : Nat) (S : List Nat), k ≤ s.length ∧ i = .int .i64 (k : Int) ∧ Hid (S = filTo (fun y => decide (y < t)) s k) ∧ Hid (RowOf wr w.heap.size v S) ∧ Hid (Below w.heap.size w wr)) (fun _ i _ => s.length - (intOf i).toNat)
  case atStart => exact ⟨0, [], by omega, rfl, rfl, World.ownsRow_nil _ _ _ _, Below.refl _ _⟩
  case round =>
    obtain ⟨k, S, hk, rfl, hS, hR, hB⟩ := hrel
    have hSl : S.length ≤ s.length := by rw [hS.out]; exact (HF.out k).1
    by_cases hlt : k < s.length
    · obtain ⟨ad, rfl, hc⟩ := (HA.out.below hB.out).cell k hlt
      obtain ⟨x, hx⟩ : ∃ x, Hid (s.getD k 0 = x) := ⟨_, mkHid rfl⟩
      rw [hx.out] at hc
      by_cases e : x < t
      · have e1 : decide ((x : Int) < (t : Int)) = true := decide_eq_true (by omega)
        have e2 : decide (x < t) = true := decide_eq_true e
        have hS' : Hid (S ++ [x] = filTo (fun y => decide (y < t)) s (k + 1)) := mkHid (by rw [filTo_yes hlt hx.out e2, hS.out])
        clear hS
        go_wp2_with (at_builtin; refine wpList_append_u64 (by first | rfl | simp [Region.wanted, yielded]) _ _ rfl w.heap.size _ S rfl (hR.out.alloc _) _ _ [x] rfl (Reads.one _ _) (fun e => by cases e) (by simp; omega) (by have := hB.out.size; simp; omega) ?_; intro v2 w2 ho2 hb2)
        have HR2 : Hid (RowOf w2 w.heap.size v2 (S ++ [x])) := mkHid ho2
        have HB2 := mkHid ((hB.out.alloc hB.out.size (.cells #[.int .u64 (x : Int)] 30)).trans hb2)
        clear ho2 hb2 hR hB
        go_wp2_with fail
        go_roundw
        case rel => exact ⟨k + 1, _, by omega, by go_num, hS', HR2, HB2⟩
        case measure => simp [intOf]; omega
      · have e1 : decide ((x : Int) < (t : Int)) = false := decide_eq_false (by omega)
        have e2 : decide (x < t) = false := decide_eq_false e
        have hS' : Hid (S = filTo (fun y => decide (y < t)) s (k + 1)) := mkHid (by rw [filTo_not hlt hx.out e2, hS.out])
        clear hS
        go_wp2_with fail
        go_roundw
        case rel => exact ⟨k + 1, S, by omega, by go_num, hS', hR, hB⟩
        case measure => simp [intOf]; omega
    · obtain rfl : k = s.length := by omega
      have HS1 : Hid (S = s.filter (fun y => decide (y < t))) := mkHid (by rw [hS.out, filTo_all])
      clear hS
      go_wp2_with (at_builtin; refine wpList_append_u64 (by first | rfl | simp [Region.wanted, yielded]) _ _ rfl w.heap.size _ S rfl (hR.out.alloc _) _ _ [t] rfl (Reads.one _ _) (fun e => by cases e) (by simp; omega) (by have := hB.out.size; simp; omega) ?_; intro v2 w2 ho2 hb2)
      have HR2 : Hid (RowOf w2 w.heap.size v2 (S ++ [t])) := mkHid ho2
      have HB2 := mkHid ((hB.out.alloc hB.out.size (.cells #[.int .u64 (t : Int)] 30)).trans hb2)
      clear ho2 hb2 hR hB
      go_wp2_with fail
      go_loopw [10, 49] (fun v i wr => ∃ (k : Nat) (U : List Nat), k ≤ s.length ∧ i = .int .i64 (k : Int) ∧ Hid (U = filTo (fun y => decide (t < y)) s k) ∧ Hid (RowOf wr w.heap.size v (S ++ [t] ++ U)) ∧ Hid (Below w.heap.size w wr)) (fun _ i _ => s.length - (intOf i).toNat)
      case atStart => exact ⟨0, [], by omega, rfl, rfl, mkHid (by rw [List.append_nil]; exact HR2.out), HB2⟩
      case round =>
        clear HR2 HB2
        obtain ⟨k, U, hk, rfl, hU, hR, hB⟩ := hrel
        have hUl : U.length ≤ s.length := by rw [hU.out]; exact (HF.out k).2
        have hSUl : (S ++ [t] ++ U).length = S.length + 1 + U.length := by simp; omega
        by_cases hlt : k < s.length
        · obtain ⟨ad, rfl, hc⟩ := (HA.out.below hB.out).cell k hlt
          obtain ⟨x, hx⟩ : ∃ x, Hid (s.getD k 0 = x) := ⟨_, mkHid rfl⟩
          rw [hx.out] at hc
          by_cases e : t < x
          · have e1 : decide ((t : Int) < (x : Int)) = true := decide_eq_true (by omega)
            have e2 : decide (t < x) = true := decide_eq_true e
            have hU' : Hid (U ++ [x] = filTo (fun y => decide (t < y)) s (k + 1)) := mkHid (by rw [filTo_yes hlt hx.out e2, hU.out])
            clear hU
            generalize hSU : S ++ [t] ++ U = SU at *
            have HSU := mkHid hSU
            clear hSU
            go_wp2_with (at_builtin; refine wpList_append_u64 (by first | rfl | simp [Region.wanted, yielded]) _ _ rfl w.heap.size _ SU rfl (hR.out.alloc _) _ _ [x] rfl (Reads.one _ _) (fun e => by cases e) (by simp; omega) (by have := hB.out.size; simp; omega) ?_; intro v3 w3 ho2 hb2)
            have HR2 : Hid (RowOf w3 w.heap.size v3 (S ++ [t] ++ (U ++ [x]))) := mkHid (by rw [← List.append_assoc, HSU.out]; exact ho2)
            have HB2 := mkHid ((hB.out.alloc hB.out.size (.cells #[.int .u64 (x : Int)] 30)).trans hb2)
            clear ho2 hb2 hR hB
            go_wp2_with fail
            go_roundw
            case rel => exact ⟨k + 1, _, by omega, by go_num, hU', HR2, HB2⟩
            case measure => simp [intOf]; omega
          · have e1 : decide ((t : Int) < (x : Int)) = false := decide_eq_false (by omega)
            have e2 : decide (t < x) = false := decide_eq_false e
            have hU' : Hid (U = filTo (fun y => decide (t < y)) s (k + 1)) := mkHid (by rw [filTo_not hlt hx.out e2, hU.out])
            clear hU
            go_wp2_with fail
            go_roundw
            case rel => exact ⟨k + 1, U, by omega, by go_num, hU', hR, hB⟩
            case measure => simp [intOf]; omega
        · obtain rfl : k = s.length := by omega
          have HE : Hid (S ++ [t] ++ U = addL s t) := mkHid (by rw [hU.out, filTo_all, HS1.out]; unfold addL; rw [List.append_assoc]; rfl)
          clear hU HS1
          go_wp2_with fail
          go_ret2
          exact ⟨u10, by simp, by rw [← HE.out]; exact hR.out, hB.out⟩
set_option maxHeartbeats 400000 in
theorem swith_there {h : Nat} (h1 : 1 ≤ h) (h2 : h ≤ 32) {s : List Nat} (hs : Hid (SetOk h s)) {t : Nat} (ht : t < 2 ^ h) (hx : Hid (t ∈ s)) (A : Option Addr) (c : Nat) (w : World) (hA : Reads w A s) :
    Calls Try.prog 46 #[.int .i64 (h : Int), .slice A s.length c, .int .u64 (t : Int)] w fun e w' => e = .returned (.tuple #[.slice none 0 0, .int .i64 5]) ∧ w' = w := by
  have hz := mkHid (decide_eq_true hx.out)
  have HA := mkHid hA
  have HT := mkHid ht
  clear hA ht
  go_enter Try.func46, Try.ntmps46
  go_wp2_with (go_at_call 64; ((with_reducible refine (shas_yes h1 h2 hs HT.out hz _ _ _ HA.out).mono ?_); rintro e w' ⟨rfl, hw'⟩; obtain rfl := hw'.symm))
  go_ret2
  exact ⟨by simp, rfl⟩
set_option maxHeartbeats 400000 in
theorem swith_full {h : Nat} (h1 : 1 ≤ h) (h2 : h ≤ 32) {s : List Nat} (hs : Hid (SetOk h s)) {t : Nat} (ht : t < 2 ^ h) (hx : Hid (t ∉ s)) (hl : s.length = 1024) (A : Option Addr) (c : Nat) (w : World) (hA : Reads w A s) :
    Calls Try.prog 46 #[.int .i64 (h : Int), .slice A s.length c, .int .u64 (t : Int)] w fun e w' => e = .returned (.tuple #[.slice none 0 0, .int .i64 6]) ∧ w' = w := by
  have hz := mkHid (decide_eq_false hx.out)
  have HA := mkHid hA
  have HT := mkHid ht
  have hl' : ((s.length : Int) == 1024) = true := beq_iff_eq.2 (by omega)
  clear hA ht hl
  go_enter Try.func46, Try.ntmps46
  go_wp2_with (go_at_call 64; ((with_reducible refine (shas_yes h1 h2 hs HT.out hz _ _ _ HA.out).mono ?_); rintro e w' ⟨rfl, hw'⟩; obtain rfl := hw'.symm))
  go_ret2
  exact ⟨by simp, rfl⟩
set_option maxHeartbeats 400000 in
theorem swith_no {h : Int} {s : List Nat} {t : Nat} (R : Refuses h s t) (A : Option Addr) (c : Nat) (w : World) (hA : Reads w A s) :
    Calls Try.prog 46 #[.int .i64 h, .slice A s.length c, .int .u64 (t : Int)] w fun e w' => e = .returned (.tuple #[.slice none 0 0, .int .i64 1]) ∧ w' = w := by
  have HA := mkHid hA
  have HR := mkHid R
  clear hA R
  go_enter Try.func46, Try.ntmps46
  go_wp2_with (go_at_call 64; ((with_reducible refine (shas_no HR.out _ _ _ HA.out).mono ?_); rintro e w' ⟨rfl, hw'⟩; obtain rfl := hw'.symm))
  go_ret2
  exact ⟨by simp, rfl⟩
set_option maxRecDepth 100000 in
set_option maxHeartbeats 4000000 in
theorem swithout_yes {h : Nat} (h1 : 1 ≤ h) (h2 : h ≤ 32) {s : List Nat} (hs : Hid (SetOk h s)) {t : Nat} (ht : t < 2 ^ h) (hx : Hid (t ∈ s)) (A : Option Addr) (c : Nat) (w : World) (hA : Reads w A s) :
    Calls Try.prog 47 #[.int .i64 (h : Int), .slice A s.length c, .int .u64 (t : Int)] w fun e w' =>
      ∃ v, e = .returned (.tuple #[v, .int .i64 0]) ∧ w'.ownsRow w.heap.size 30 1 v (remL s t).length (natCells (remL s t)) ∧ Below w.heap.size w w' := by
  have hz := mkHid (decide_eq_true hx.out)
  have hl := hs.out.1
  have HA := mkHid hA
  have HT := mkHid ht
  have HF : Hid (∀ k, (filTo (fun y => decide (y ≠ t)) s k).length ≤ s.length) := mkHid fun k => filTo_le _ _ _
  clear hA ht
  go_enter Try.func47, Try.ntmps47
  go_wp2_with (go_at_call 64; ((with_reducible refine (shas_yes h1 h2 hs HT.out hz _ _ _ HA.out).mono ?_); rintro e w' ⟨rfl, hw'⟩; obtain rfl := hw'.symm))
  go_loopw [10, 27] (fun v i wr => ∃ (k : Nat) (S : List Nat), k ≤ s.length ∧ i = .int .i64 (k : Int) ∧ Hid (S = filTo (fun y => decide (y ≠ t)) s k) ∧ Hid (RowOf wr w.heap.size v S) ∧ Hid (Below w.heap.size w wr)) (fun _ i _ => s.length - (intOf i).toNat)
  case atStart => exact ⟨0, [], by omega, rfl, rfl, World.ownsRow_nil _ _ _ _, Below.refl _ _⟩
  case round =>
    obtain ⟨k, S, hk, rfl, hS, hR, hB⟩ := hrel
    have hSl : S.length ≤ s.length := by rw [hS.out]; exact HF.out k
    by_cases hlt : k < s.length
    · obtain ⟨ad, rfl, hc⟩ := (HA.out.below hB.out).cell k hlt
      obtain ⟨x, hx⟩ : ∃ x, Hid (s.getD k 0 = x) := ⟨_, mkHid rfl⟩
      rw [hx.out] at hc
      by_cases e : x = t
      · have e1 : ((x : Int) != (t : Int)) = false := by rw [e]; simp
        have e2 : decide (x ≠ t) = false := decide_eq_false (fun c => c e)
        have e3 : (x != t) = false := by rw [e]; simp
        have hS' : Hid (S = filTo (fun y => decide (y ≠ t)) s (k + 1)) := mkHid (by rw [filTo_not hlt hx.out e2, hS.out])
        clear hS e
        go_wp2_with fail
        go_roundw
        case rel => exact ⟨k + 1, S, by omega, by go_num, hS', hR, hB⟩
        case measure => simp [intOf]; omega
      · have e1 : ((x : Int) != (t : Int)) = true := bne_iff_ne.2 (by omega)
        have e2 : decide (x ≠ t) = true := decide_eq_true e
        have e3 : (x != t) = true := bne_iff_ne.2 e
        have hS' : Hid (S ++ [x] = filTo (fun y => decide (y ≠ t)) s (k + 1)) := mkHid (by rw [filTo_yes hlt hx.out e2, hS.out])
        clear hS
        go_wp2_with (at_builtin; refine wpList_append_u64 (by first | rfl | simp [Region.wanted, yielded]) _ _ rfl w.heap.size _ S rfl (hR.out.alloc _) _ _ [x] rfl (Reads.one _ _) (fun e => by cases e) (by simp; omega) (by have := hB.out.size; simp; omega) ?_; intro v2 w2 ho2 hb2)
        have HR2 : Hid (RowOf w2 w.heap.size v2 (S ++ [x])) := mkHid ho2
        have HB2 := mkHid ((hB.out.alloc hB.out.size (.cells #[.int .u64 (x : Int)] 30)).trans hb2)
        clear ho2 hb2 hR hB
        go_wp2_with fail
        go_roundw
        case rel => exact ⟨k + 1, _, by omega, by go_num, hS', HR2, HB2⟩
        case measure => simp [intOf]; omega
    · obtain rfl : k = s.length := by omega
      have HE : Hid (S = remL s t) := mkHid (by rw [hS.out, filTo_all]; rfl)
      clear hS
      go_wp2_with fail
      go_ret2
      exact ⟨u10, by simp, by rw [← HE.out]; exact hR.out, hB.out⟩
set_option maxHeartbeats 400000 in
theorem swithout_none {h : Nat} (h1 : 1 ≤ h) (h2 : h ≤ 32) {s : List Nat} (hs : Hid (SetOk h s)) {t : Nat} (ht : t < 2 ^ h) (hx : Hid (t ∉ s)) (A : Option Addr) (c : Nat) (w : World) (hA : Reads w A s) :
    Calls Try.prog 47 #[.int .i64 (h : Int), .slice A s.length c, .int .u64 (t : Int)] w fun e w' => e = .returned (.tuple #[.slice none 0 0, .int .i64 4]) ∧ w' = w := by
  have hz := mkHid (decide_eq_false hx.out)
  have HA := mkHid hA
  have HT := mkHid ht
  clear hA ht
  go_enter Try.func47, Try.ntmps47
  go_wp2_with (go_at_call 64; ((with_reducible refine (shas_yes h1 h2 hs HT.out hz _ _ _ HA.out).mono ?_); rintro e w' ⟨rfl, hw'⟩; obtain rfl := hw'.symm))
  go_ret2
  exact ⟨by simp, rfl⟩
set_option maxHeartbeats 400000 in
theorem swithout_no {h : Int} {s : List Nat} {t : Nat} (R : Refuses h s t) (A : Option Addr) (c : Nat) (w : World) (hA : Reads w A s) :
    Calls Try.prog 47 #[.int .i64 h, .slice A s.length c, .int .u64 (t : Int)] w fun e w' => e = .returned (.tuple #[.slice none 0 0, .int .i64 1]) ∧ w' = w := by
  have HA := mkHid hA
  have HR := mkHid R
  clear hA R
  go_enter Try.func47, Try.ntmps47
  go_wp2_with (go_at_call 64; ((with_reducible refine (shas_no HR.out _ _ _ HA.out).mono ?_); rintro e w' ⟨rfl, hw'⟩; obtain rfl := hw'.symm))
  go_ret2
  exact ⟨by simp, rfl⟩
end Go.Proofs.Ytmehbonjpmlmfaa

namespace Go.Proofs.Ytmehbonjpmlmfaa
open Go.RowKit

/-- a list of the call's own, and an error's number -/
def WPost (L : List Nat) (r : Int) (w : World) (e : Ending) (w' : World) : Prop := ∃ v, e = .returned (.tuple #[v, .int .i64 r]) ∧ RowOf w' w.heap.size v L ∧ Below w.heap.size w w'
theorem WPost.none {f : FuncId} {a : Array Value} {r : Int} {w : World} (k : Calls Try.prog f a w fun e w' => e = .returned (.tuple #[.slice none 0 0, .int .i64 r]) ∧ w' = w) : Calls Try.prog f a w (WPost [] r w) :=
  k.mono fun _ w' ⟨h1, h2⟩ => ⟨_, h1, by subst h2; exact World.ownsRow_nil _ _ _ _, by subst h2; exact Below.refl _ _⟩
theorem refuses_or (h : Int) (s : List Nat) (t : Nat) : Refuses h s t ∨ ∃ k : Nat, h = (k : Int) ∧ 1 ≤ k ∧ k ≤ 32 ∧ SetOk k s ∧ t < 2 ^ k := by
  by_cases c : (1 ≤ h ∧ h ≤ 32) ∧ SetOk h.toNat s ∧ t < 2 ^ h.toNat
  · exact .inr ⟨h.toNat, by omega, by omega, by omega, c.2.1, c.2.2⟩
  · exact .inl ⟨c⟩
instance (h : Nat) (s : List Nat) (k : Nat) : Decidable (OkTo h s k) := by unfold OkTo; infer_instance
instance (h : Nat) (s : List Nat) : Decidable (SetOk h s) := by unfold SetOk; infer_instance
/-- what With answers -/
def withAns (s : List Nat) (t : Nat) : List Nat × Int := if t ∈ s then ([], 5) else if s.length = 1024 then ([], 6) else (addL s t, 0)
def withoutAns (s : List Nat) (t : Nat) : List Nat × Int := if t ∈ s then (remL s t, 0) else ([], 4)
def withAll (h : Int) (s : List Nat) (t : Nat) : List Nat × Int := if (1 ≤ h ∧ h ≤ 32) ∧ SetOk h.toNat s ∧ t < 2 ^ h.toNat then withAns s t else ([], 1)
def withoutAll (h : Int) (s : List Nat) (t : Nat) : List Nat × Int := if (1 ≤ h ∧ h ≤ 32) ∧ SetOk h.toNat s ∧ t < 2 ^ h.toNat then withoutAns s t else ([], 1)
def hasAll (h : Int) (s : List Nat) (t : Nat) : Bool × Int := if (1 ≤ h ∧ h ≤ 32) ∧ SetOk h.toNat s ∧ t < 2 ^ h.toNat then (decide (t ∈ s), 0) else (false, 1)
def checkAll (h : Int) (s : List Nat) : Int := if (1 ≤ h ∧ h ≤ 32) ∧ SetOk h.toNat s then 0 else 1
theorem with_all (h : Int) (s : List Nat) (t : Nat) {L : List Nat} {r : Int} (e : Hid (withAll h s t = (L, r))) (A : Option Addr) (c : Nat) (w : World) (hA : Reads w A s) :
    Calls Try.prog 54 #[.int .i64 h, .slice A s.length c, .int .u64 (t : Int)] w (WPost L r w) := by
  have e' := e.out
  unfold withAll at e'
  split at e'
  · rename_i c0
    obtain ⟨n, rfl⟩ : ∃ n : Nat, h = n := ⟨h.toNat, by omega⟩
    rw [Int.toNat_natCast] at c0
    obtain ⟨⟨h1, h2⟩, hs, ht⟩ := c0
    unfold withAns at e'
    split at e'
    · rename_i hx; cases e'; exact WPost.none (with_there (by omega) (by omega) (mkHid hs) ht (mkHid hx) A c w hA)
    · rename_i hx
      split at e'
      · rename_i hl; cases e'; exact WPost.none (with_full (by omega) (by omega) (mkHid hs) ht (mkHid hx) hl A c w hA)
      · rename_i hl; cases e'; exact with_yes (by omega) (by omega) (mkHid hs) ht (mkHid hx) (by have := hs.1; omega) A c w hA
  · rename_i c0; cases e'; exact WPost.none (with_no ⟨c0⟩ A c w hA)
theorem swith_all (h : Int) (s : List Nat) (t : Nat) {L : List Nat} {r : Int} (e : Hid (withAll h s t = (L, r))) (A : Option Addr) (c : Nat) (w : World) (hA : Reads w A s) :
    Calls Try.prog 46 #[.int .i64 h, .slice A s.length c, .int .u64 (t : Int)] w (WPost L r w) := by
  have e' := e.out
  unfold withAll at e'
  split at e'
  · rename_i c0
    obtain ⟨n, rfl⟩ : ∃ n : Nat, h = n := ⟨h.toNat, by omega⟩
    rw [Int.toNat_natCast] at c0
    obtain ⟨⟨h1, h2⟩, hs, ht⟩ := c0
    unfold withAns at e'
    split at e'
    · rename_i hx; cases e'; exact WPost.none (swith_there (by omega) (by omega) (mkHid hs) ht (mkHid hx) A c w hA)
    · rename_i hx
      split at e'
      · rename_i hl; cases e'; exact WPost.none (swith_full (by omega) (by omega) (mkHid hs) ht (mkHid hx) hl A c w hA)
      · rename_i hl; cases e'; exact swith_yes (by omega) (by omega) (mkHid hs) ht (mkHid hx) (by have := hs.1; omega) A c w hA
  · rename_i c0; cases e'; exact WPost.none (swith_no ⟨c0⟩ A c w hA)
theorem without_all (h : Int) (s : List Nat) (t : Nat) {L : List Nat} {r : Int} (e : Hid (withoutAll h s t = (L, r))) (A : Option Addr) (c : Nat) (w : World) (hA : Reads w A s) :
    Calls Try.prog 55 #[.int .i64 h, .slice A s.length c, .int .u64 (t : Int)] w (WPost L r w) := by
  have e' := e.out
  unfold withoutAll at e'
  split at e'
  · rename_i c0
    obtain ⟨n, rfl⟩ : ∃ n : Nat, h = n := ⟨h.toNat, by omega⟩
    rw [Int.toNat_natCast] at c0
    obtain ⟨⟨h1, h2⟩, hs, ht⟩ := c0
    unfold withoutAns at e'
    split at e'
    · rename_i hx; cases e'; exact without_yes (by omega) (by omega) (mkHid hs) ht (mkHid hx) A c w hA
    · rename_i hx; cases e'; exact WPost.none (without_none (by omega) (by omega) (mkHid hs) ht (mkHid hx) A c w hA)
  · rename_i c0; cases e'; exact WPost.none (without_no ⟨c0⟩ A c w hA)
theorem swithout_all (h : Int) (s : List Nat) (t : Nat) {L : List Nat} {r : Int} (e : Hid (withoutAll h s t = (L, r))) (A : Option Addr) (c : Nat) (w : World) (hA : Reads w A s) :
    Calls Try.prog 47 #[.int .i64 h, .slice A s.length c, .int .u64 (t : Int)] w (WPost L r w) := by
  have e' := e.out
  unfold withoutAll at e'
  split at e'
  · rename_i c0
    obtain ⟨n, rfl⟩ : ∃ n : Nat, h = n := ⟨h.toNat, by omega⟩
    rw [Int.toNat_natCast] at c0
    obtain ⟨⟨h1, h2⟩, hs, ht⟩ := c0
    unfold withoutAns at e'
    split at e'
    · rename_i hx; cases e'; exact swithout_yes (by omega) (by omega) (mkHid hs) ht (mkHid hx) A c w hA
    · rename_i hx; cases e'; exact WPost.none (swithout_none (by omega) (by omega) (mkHid hs) ht (mkHid hx) A c w hA)
  · rename_i c0; cases e'; exact WPost.none (swithout_no ⟨c0⟩ A c w hA)
theorem has_all (h : Int) (s : List Nat) (t : Nat) {z : Bool} {r : Int} (e : Hid (hasAll h s t = (z, r))) (A : Option Addr) (c : Nat) (w : World) (hA : Reads w A s) :
    Calls Try.prog 43 #[.int .i64 h, .slice A s.length c, .int .u64 (t : Int)] w fun e w' => e = .returned (.tuple #[.bool z, .int .i64 r]) ∧ w' = w := by
  have e' := e.out
  unfold hasAll at e'
  split at e'
  · rename_i c0
    obtain ⟨n, rfl⟩ : ∃ n : Nat, h = n := ⟨h.toNat, by omega⟩
    rw [Int.toNat_natCast] at c0
    obtain ⟨⟨h1, h2⟩, hs, ht⟩ := c0
    cases e'
    exact has_yes (by omega) (by omega) (mkHid hs) ht (mkHid rfl) A c w hA
  · rename_i c0; cases e'; exact has_no ⟨c0⟩ A c w hA
theorem check_all (h : Int) (s : List Nat) {r : Int} (e : Hid (checkAll h s = r)) (A : Option Addr) (c : Nat) (w : World) (hA : Reads w A s) :
    Calls Try.prog 44 #[.int .i64 h, .slice A s.length c] w fun e w' => e = .returned (.int .i64 r) ∧ w' = w := by
  have e' := e.out
  unfold checkAll at e'
  by_cases H : 1 ≤ h ∧ h ≤ 32
  · obtain ⟨n, rfl⟩ : ∃ n : Nat, h = n := ⟨h.toNat, by omega⟩
    rw [Int.toNat_natCast] at e'
    split at e'
    · rename_i c0; cases e'; exact lcheck_yes (by omega) (by omega) c0.2 A c w hA
    · rename_i c0; cases e'; exact lcheck_no (by omega) (by omega) (fun q => c0 ⟨H, q⟩) A c w hA
  · rw [if_neg (fun q => H q.1)] at e'
    cases e'
    exact lcheck_bad (by omega) A _ c w
theorem scheck_all (h : Int) (s : List Nat) {r : Int} (e : Hid (checkAll h s = r)) (A : Option Addr) (c : Nat) (w : World) (hA : Reads w A s) :
    Calls Try.prog 51 #[.int .i64 h, .slice A s.length c] w fun e w' => e = .returned (.int .i64 r) ∧ w' = w := by
  have e' := e.out
  unfold checkAll at e'
  by_cases H : 1 ≤ h ∧ h ≤ 32
  · obtain ⟨n, rfl⟩ : ∃ n : Nat, h = n := ⟨h.toNat, by omega⟩
    rw [Int.toNat_natCast] at e'
    split at e'
    · rename_i c0; cases e'; exact scheck_yes (by omega) (by omega) c0.2 A c w hA
    · rename_i c0; cases e'; exact scheck_no (by omega) (by omega) (fun q => c0 ⟨H, q⟩) A c w hA
  · rw [if_neg (fun q => H q.1)] at e'
    cases e'
    exact scheck_bad (by omega) A _ c w
end Go.Proofs.Ytmehbonjpmlmfaa

namespace Go.Proofs.Ytmehbonjpmlmfaa
open Go.RowKit


theorem withAll_mk {n : Nat} {s : List Nat} {t : Nat} (h1 : 1 ≤ n) (h2 : n ≤ 32) (hs : SetOk n s) (ht : t < 2 ^ n) (hx : t ∉ s) (hl : s.length ≠ 1024) : withAll (n : Int) s t = (addL s t, 0) := by
  unfold withAll withAns
  rw [if_pos ⟨⟨by omega, by omega⟩, by rw [Int.toNat_natCast]; exact hs, by rw [Int.toNat_natCast]; exact ht⟩, if_neg hx, if_neg hl]
theorem withoutAll_mk {n : Nat} {s : List Nat} {t : Nat} (h1 : 1 ≤ n) (h2 : n ≤ 32) (hs : SetOk n s) (ht : t < 2 ^ n) (hx : t ∈ s) : withoutAll (n : Int) s t = (remL s t, 0) := by
  unfold withoutAll withoutAns
  rw [if_pos ⟨⟨by omega, by omega⟩, by rw [Int.toNat_natCast]; exact hs, by rw [Int.toNat_natCast]; exact ht⟩, if_pos hx]
theorem checkAll_mk {n : Nat} {s : List Nat} (h1 : 1 ≤ n) (h2 : n ≤ 32) (hs : SetOk n s) : checkAll (n : Int) s = 0 := by
  unfold checkAll
  rw [if_pos ⟨⟨by omega, by omega⟩, by rw [Int.toNat_natCast]; exact hs⟩]
end Go.Proofs.Ytmehbonjpmlmfaa

namespace Go.Proofs.Ytmehbonjpmlmfaa
open Go.RowKit Go.Proofs.YtmehbonjpmlmfaaW.PrintWords

set_option maxHeartbeats 2000000 in
theorem seq_any {s t : List Nat} {z : Bool} (hz : Hid (decide (s = t) = z)) (hn : s.length < 4611686018427387904) (A B : Option Addr) (a b : Nat) (w : World) (hA : Reads w A s) (hB : Reads w B t) :
    Calls Try.prog 45 #[.slice A s.length a, .slice B t.length b] w fun e w' => e = .returned (.bool z) ∧ Below w.heap.size w w' := by
  have HA := mkHid hA
  have HB := mkHid hB
  clear hA hB
  generalize hm : s.length = m at *
  generalize hl : t.length = l at *
  have Hm := mkHid hm
  have Hl := mkHid hl
  clear hm hl
  by_cases c : m = l
  · subst c
    go_enter Try.func45, Try.ntmps45
    go_wp2_with fail
    go_loopw [13] (fun i wr => ∃ k : Nat, k ≤ m ∧ i = .int .i64 (k : Int) ∧ Hid (∀ j, j < k → s.getD j 0 = t.getD j 0) ∧ Hid (Below w.heap.size w wr)) (fun i _ => m - (intOf i).toNat)
    case atStart => exact ⟨0, by omega, rfl, fun j hj => by omega, Below.refl _ _⟩
    case round =>
      obtain ⟨k, hk, rfl, hsame, hBel⟩ := hrel
      by_cases hlt : k < m
      · obtain ⟨ad, rfl, hc⟩ := (HA.out.below hBel.out).cell k (by rw [Hm.out]; exact hlt)
        obtain ⟨bd, rfl, hd⟩ := (HB.out.below hBel.out).cell k (by rw [Hl.out]; exact hlt)
        obtain ⟨x, hx⟩ : ∃ x, Hid (s.getD k 0 = x) := ⟨_, mkHid rfl⟩
        obtain ⟨y, hy⟩ : ∃ y, Hid (t.getD k 0 = y) := ⟨_, mkHid rfl⟩
        rw [hx.out] at hc
        rw [hy.out] at hd
        by_cases e : x = y
        · subst e
          have hsame' : Hid (∀ j, j < k + 1 → s.getD j 0 = t.getD j 0) := mkHid fun j hj => by
            rcases Nat.lt_or_ge j k with c | c
            · exact hsame.out j c
            · obtain rfl : j = k := by omega
              rw [hx.out, hy.out]
          clear hsame
          go_wp2_with fail
          go_quiet (fail)
          go_wp2_with fail
          go_roundw
          case rel => exact ⟨k + 1, by omega, by go_num, hsame', mkHid (below_drewN hBel.out _)⟩
          case measure => simp [intOf]; omega
        · have e1 : ((x : Int) != (y : Int)) = true := bne_iff_ne.2 (by omega)
          have e2 : (x != y) = true := bne_iff_ne.2 e
          obtain rfl : z = false := by
            rw [← hz.out]
            refine decide_eq_false fun q => e ?_
            rw [← hx.out, ← hy.out, q]
          go_wp2_with fail
          go_quiet (fail)
          go_wp2_with fail
          go_ret
          exact ⟨rfl, below_drewN hBel.out _⟩
      · obtain rfl : k = m := by omega
        obtain rfl : z = true := by
          rw [← hz.out]
          refine decide_eq_true (List.ext_getElem (by rw [Hm.out, Hl.out]) fun j h1 h2 => ?_)
          have := hsame.out j (by rw [← Hm.out]; exact h1)
          rwa [getD_eq h1, getD_eq h2] at this
        go_wp2_with fail
        go_ret
        exact ⟨rfl, hBel.out⟩
  · obtain rfl : z = false := by
      rw [← hz.out]
      refine decide_eq_false fun q => c ?_
      rw [← Hm.out, ← Hl.out, q]
    have e1 : ((m : Int) != (l : Int)) = true := bne_iff_ne.2 (by omega)
    have e2 : (m != l) = true := bne_iff_ne.2 c
    have e3 : ((m : Int) == (l : Int)) = false := beq_eq_false_iff_ne.2 (by omega)
    go_enter Try.func45, Try.ntmps45
    go_wp2_with fail
    go_ret
    exact ⟨rfl, Below.refl _ _⟩


/-- a roll, in plain -/
structure RollA where
  h : Int
  room : Int
  s : List Nat
  n : Int
def rollBad (room : Int) (s : List Nat) (n : Int) : Prop := room < (s.length : Int) ∨ 1024 < room ∨ n < 0 ∨ 1099511627776 < n
instance (room : Int) (s : List Nat) (n : Int) : Decidable (rollBad room s n) := by unfold rollBad; infer_instance
def rollCheck (h room : Int) (s : List Nat) (n : Int) : Int := if rollBad room s n then 1 else checkAll h s
theorem checkAll_or (h : Int) (s : List Nat) : checkAll h s = 0 ∨ checkAll h s = 1 := by unfold checkAll; split <;> simp
end Go.Proofs.Ytmehbonjpmlmfaa

namespace Go.Proofs.Ytmehbonjpmlmfaa
open Go.RowKit Go.Proofs.YtmehbonjpmlmfaaW.PrintWords

theorem rollCheck_ok {h room n : Int} {s : List Nat} (e : rollCheck h room s n = 0) : ∃ k : Nat, h = (k : Int) ∧ 1 ≤ k ∧ k ≤ 32 ∧ SetOk k s ∧ (s.length : Int) ≤ room ∧ room ≤ 1024 ∧ 0 ≤ n ∧ n ≤ 1099511627776 := by
  unfold rollCheck at e
  by_cases hb : rollBad room s n
  · rw [if_pos hb] at e; cases e
  · rw [if_neg hb] at e
    unfold rollBad at hb
    unfold checkAll at e
    split at e
    · rename_i c0
      exact ⟨h.toNat, by omega, by omega, by omega, c0.2, by omega, by omega, by omega, by omega⟩
    · cases e
theorem RowOf.rebase {w : World} {a b : Nat} {v : Value} {S : List Nat} (h : RowOf w b v S) (hb : a ≤ b) : RowOf w a v S := World.ownsRow.base h hb
theorem RowOf.len {w : World} {b : Nat} {v : Value} {S : List Nat} (h : RowOf w b v S) : ∃ A c, v = .slice A S.length c := by
  obtain ⟨A, c, e, _⟩ := Reads.of_row h
  exact ⟨A, c, e⟩
end Go.Proofs.Ytmehbonjpmlmfaa

namespace Go.Proofs.Ytmehbonjpmlmfaa
open Go.RowKit Go.Proofs.YtmehbonjpmlmfaaW.PrintWords

theorem RowOf.past {w : World} {base g : Nat} {v : Value} {S : List Nat} (h : RowOf w base v S) (hg : g < base) (j : Nat) (u : Value) : RowOf (w.setCell ⟨g, j, none⟩ u) base v S :=
  World.ownsRow.kept (row := some g) h ⟨rfl, rfl, rfl, by simp, fun k _ hk => heap_setCell_other w ⟨g, j, none⟩ k u (fun e => hk (by simp [e]))⟩ (.inr fun e => by have := (World.ownsRow.lt h g e).1; omega)
theorem RowOf.below {w w1 : World} {base : Nat} {v : Value} {S : List Nat} (h : RowOf w base v S) (hb : Below w.heap.size w w1) : RowOf w1 base v S :=
  World.ownsRow.kept (row := none) h ⟨hb.os, hb.tape, hb.output, hb.size, fun k hk _ => hb.block k hk⟩ (by cases v.ownBlock <;> simp)
theorem RowOf.nil (w : World) (base : Nat) : RowOf w base (.slice none 0 0) [] := World.ownsRow_nil _ _ _ _
end Go.Proofs.Ytmehbonjpmlmfaa

namespace Go.Proofs.Ytmehbonjpmlmfaa
open Go.RowKit Go.Proofs.YtmehbonjpmlmfaaW.PrintWords

/-- what Revoke and Reinstate answer -/
def rollAdd (h room : Int) (s : List Nat) (n : Int) (t : Nat) : RollA × Int :=
  if rollCheck h room s n = 0 ∧ (hasAll h s t).2 = 0 then
    if t ∈ s then (⟨0, 0, [], 0⟩, 5) else if (s.length : Int) = room then (⟨0, 0, [], 0⟩, 6) else if n = 1099511627776 then (⟨0, 0, [], 0⟩, 9) else (⟨h, room, addL s t, n + 1⟩, 0)
  else (⟨0, 0, [], 0⟩, 1)
def rollDel (h room : Int) (s : List Nat) (n : Int) (t : Nat) : RollA × Int :=
  if rollCheck h room s n = 0 ∧ (hasAll h s t).2 = 0 then
    if t ∉ s then (⟨0, 0, [], 0⟩, 4) else if n = 1099511627776 then (⟨0, 0, [], 0⟩, 9) else (⟨h, room, remL s t, n + 1⟩, 0)
  else (⟨0, 0, [], 0⟩, 1)
theorem hasAll_or (h : Int) (s : List Nat) (t : Nat) : hasAll h s t = (false, 1) ∨ ∃ k : Nat, h = (k : Int) ∧ 1 ≤ k ∧ k ≤ 32 ∧ SetOk k s ∧ t < 2 ^ k ∧ hasAll h s t = (decide (t ∈ s), 0) := by
  by_cases c : (1 ≤ h ∧ h ≤ 32) ∧ SetOk h.toNat s ∧ t < 2 ^ h.toNat
  · refine .inr ⟨h.toNat, by omega, by omega, by omega, c.2.1, c.2.2, ?_⟩
    unfold hasAll; rw [if_pos c]
  · refine .inl ?_
    unfold hasAll; rw [if_neg c]
theorem hasAll_no {h : Int} {s : List Nat} {t : Nat} (e : hasAll h s t = (false, 1)) : withAll h s t = ([], 1) ∧ withoutAll h s t = ([], 1) := by
  unfold hasAll at e
  unfold withAll withoutAll
  split at e
  · exact absurd (show (0 : Int) = 1 from congrArg Prod.snd e) (by decide)
  · rename_i c; rw [if_neg c, if_neg c]; exact ⟨rfl, rfl⟩
theorem withAll_there {n : Nat} {s : List Nat} {t : Nat} (h1 : 1 ≤ n) (h2 : n ≤ 32) (hs : SetOk n s) (ht : t < 2 ^ n) (hx : t ∈ s) : withAll (n : Int) s t = ([], 5) := by
  unfold withAll withAns
  rw [if_pos ⟨⟨by omega, by omega⟩, by rw [Int.toNat_natCast]; exact hs, by rw [Int.toNat_natCast]; exact ht⟩, if_pos hx]
theorem withAll_full {n : Nat} {s : List Nat} {t : Nat} (h1 : 1 ≤ n) (h2 : n ≤ 32) (hs : SetOk n s) (ht : t < 2 ^ n) (hx : t ∉ s) (hl : s.length = 1024) : withAll (n : Int) s t = ([], 6) := by
  unfold withAll withAns
  rw [if_pos ⟨⟨by omega, by omega⟩, by rw [Int.toNat_natCast]; exact hs, by rw [Int.toNat_natCast]; exact ht⟩, if_neg hx, if_pos hl]
theorem withoutAll_none {n : Nat} {s : List Nat} {t : Nat} (h1 : 1 ≤ n) (h2 : n ≤ 32) (hs : SetOk n s) (ht : t < 2 ^ n) (hx : t ∉ s) : withoutAll (n : Int) s t = ([], 4) := by
  unfold withoutAll withoutAns
  rw [if_pos ⟨⟨by omega, by omega⟩, by rw [Int.toNat_natCast]; exact hs, by rw [Int.toNat_natCast]; exact ht⟩, if_neg hx]
end Go.Proofs.Ytmehbonjpmlmfaa

namespace Go.Proofs.Ytmehbonjpmlmfaa
open Go.RowKit

structure SentD where
  out : List Nat
  draw : Int
  p : BitVec 64 × BitVec 64
structure ModD where
  h : Int
  cap : Int
  l : List Nat
  n : Int
  draws : Int
  sent : List SentD
def SentAt (w : World) (b off : Nat) (i : Nat) (s : SentD) : Prop :=
  ∃ A c, w.cell? ⟨b, off + i * 4, none⟩ = some (.slice A s.out.length c) ∧ s.out.length ≤ c ∧ c ≤ maxLen ∧ Reads w A s.out ∧ (A = none → c = 0) ∧
    w.cell? ⟨b, off + i * 4 + 1, none⟩ = some (.int .i64 (s.draw : Int)) ∧ w.cell? ⟨b, off + i * 4 + 2, none⟩ = some (.int .u64 (s.p.1.toNat : Int)) ∧ w.cell? ⟨b, off + i * 4 + 3, none⟩ = some (.int .u64 (s.p.2.toNat : Int))
theorem SentAt.below {w w1 : World} {b off : Nat} {i : Nat} {s : SentD} (h : SentAt w b off i s) (hb : Below w.heap.size w w1) : SentAt w1 b off i s := by
  obtain ⟨A, c, h0, h1, h2, h3, h4, h5, h6, h7⟩ := h
  have k : ∀ {p : Addr} {v : Value}, w.cell? p = some v → w1.cell? p = some v := fun {p v} h => (hb.cell (World.block_lt_of_cell? w p h)).trans h
  exact ⟨A, c, k h0, h1, h2, h3.below hb, h4, k h5, k h6, k h7⟩
def SentIn (w : World) (A : Option Addr) (S : List SentD) : Prop := ∀ i (hi : i < S.length), ∃ b off, A = some ⟨b, off, none⟩ ∧ SentAt w b off i S[i]
theorem SentIn.below {w w1 : World} {A : Option Addr} {S : List SentD} (h : SentIn w A S) (hb : Below w.heap.size w w1) : SentIn w1 A S := fun i hi => by
  obtain ⟨b, off, e, h⟩ := h i hi
  exact ⟨b, off, e, h.below hb⟩
theorem SentIn.nil (w : World) (A : Option Addr) : SentIn w A [] := fun i hi => by simp at hi
end Go.Proofs.Ytmehbonjpmlmfaa

namespace Go.Proofs.Ytmehbonjpmlmfaa
open Go.RowKit

set_option maxRecDepth 100000 in
set_option maxHeartbeats 1000000 in
theorem mset_long {h cap n dr : Int} {s : List Nat} (h0 : ¬ ((s.length : Int) ≤ cap)) (la sa : Option Addr) (ln lc sn sc : Nat) (A : Option Addr) (c : Nat) (w : World) (hA : Reads w A s) :
    Calls Try.prog 58 #[.agg #[.int .i64 h, .int .i64 cap, .slice la ln lc, .int .i64 n, .int .i64 dr, .slice sa sn sc], .slice A s.length c] w fun e w' => e = .returned (.bool false) ∧ Below w.heap.size w w' := by
  have _HA := mkHid (hA.below ((Below.refl _ _).alloc (Nat.le_refl _) (.cells #[.int .i64 h, .int .i64 cap, .slice la ln lc, .int .i64 n, .int .i64 dr, .slice sa sn sc] 45)))
  clear hA
  have t0 : decide ((s.length : Int) ≤ cap) = false := decide_eq_false (by omega)
  go_enter Try.func58, Try.ntmps58
  go_wp2_with fail
  go_ret
  exact ⟨rfl, (Below.refl _ _).alloc (Nat.le_refl _) _⟩
set_option maxRecDepth 100000 in
set_option maxHeartbeats 1000000 in
theorem mset_no {h cap n dr : Int} {s : List Nat} (h0 : (s.length : Int) ≤ cap) (e : Hid (checkAll h s = 1)) (la sa : Option Addr) (ln lc sn sc : Nat) (A : Option Addr) (c : Nat) (w : World) (hA : Reads w A s) :
    Calls Try.prog 58 #[.agg #[.int .i64 h, .int .i64 cap, .slice la ln lc, .int .i64 n, .int .i64 dr, .slice sa sn sc], .slice A s.length c] w fun e w' => e = .returned (.bool false) ∧ Below w.heap.size w w' := by
  have HA := mkHid (hA.below ((Below.refl _ _).alloc (Nat.le_refl _) (.cells #[.int .i64 h, .int .i64 cap, .slice la ln lc, .int .i64 n, .int .i64 dr, .slice sa sn sc] 45)))
  clear hA
  have t0 : decide ((s.length : Int) ≤ cap) = true := decide_eq_true (by omega)
  go_enter Try.func58, Try.ntmps58
  go_wp2_with (go_at_call 44; ((with_reducible refine (check_all h s e _ _ _ HA.out).mono ?_); rintro e w' ⟨rfl, hw'⟩; obtain rfl := hw'.symm))
  go_ret
  exact ⟨rfl, (Below.refl _ _).alloc (Nat.le_refl _) _⟩
set_option maxRecDepth 100000 in
set_option maxHeartbeats 1000000 in
theorem mset_yes {h cap n dr : Int} {s : List Nat} (h0 : (s.length : Int) ≤ cap) (e : Hid (checkAll h s = 0)) (la sa : Option Addr) (ln lc sn sc : Nat) (A : Option Addr) (c : Nat) (w : World) (hA : Reads w A s) :
    Calls Try.prog 58 #[.agg #[.int .i64 h, .int .i64 cap, .slice la ln lc, .int .i64 n, .int .i64 dr, .slice sa sn sc], .slice A s.length c] w fun e w' => e = .returned (.bool true) ∧ Below w.heap.size w w' := by
  have HA := mkHid (hA.below ((Below.refl _ _).alloc (Nat.le_refl _) (.cells #[.int .i64 h, .int .i64 cap, .slice la ln lc, .int .i64 n, .int .i64 dr, .slice sa sn sc] 45)))
  clear hA
  have t0 : decide ((s.length : Int) ≤ cap) = true := decide_eq_true (by omega)
  go_enter Try.func58, Try.ntmps58
  go_wp2_with (go_at_call 44; ((with_reducible refine (check_all h s e _ _ _ HA.out).mono ?_); rintro e w' ⟨rfl, hw'⟩; obtain rfl := hw'.symm))
  go_ret
  exact ⟨rfl, (Below.refl _ _).alloc (Nat.le_refl _) _⟩
def inRoom (h cap : Int) (s : List Nat) : Bool := decide ((s.length : Int) ≤ cap) && checkAll h s == 0
theorem mset {h cap n dr : Int} {s : List Nat} {z : Bool} (hz : Hid (inRoom h cap s = z)) (la sa : Option Addr) (ln lc sn sc : Nat) (A : Option Addr) (c : Nat) (w : World) (hA : Reads w A s) :
    Calls Try.prog 58 #[.agg #[.int .i64 h, .int .i64 cap, .slice la ln lc, .int .i64 n, .int .i64 dr, .slice sa sn sc], .slice A s.length c] w fun e w' => e = .returned (.bool z) ∧ Below w.heap.size w w' := by
  have e := hz.out
  unfold inRoom at e
  by_cases h0 : (s.length : Int) ≤ cap
  · rw [decide_eq_true h0, Bool.true_and] at e
    rcases checkAll_or h s with h1 | h1
    · rw [h1] at e
      subst e
      exact mset_yes h0 (mkHid h1) la sa ln lc sn sc A c w hA
    · rw [h1] at e
      subst e
      exact mset_no h0 (mkHid h1) la sa ln lc sn sc A c w hA
  · rw [decide_eq_false h0, Bool.false_and] at e
    subst e
    exact mset_long h0 la sa ln lc sn sc A c w hA
end Go.Proofs.Ytmehbonjpmlmfaa

namespace Go.Proofs.Ytmehbonjpmlmfaa
open Go.RowKit

def sentOk (h cap : Int) (S : List SentD) (k : Nat) : Bool := (List.range k).all fun i => match S[i]? with
  | some s => inRoom h cap s.out && decide (s.draw = (i : Int) + 1)
  | none => true
theorem sentOk_succ {h cap : Int} {S : List SentD} {k : Nat} (hk : k < S.length) : sentOk h cap S (k + 1) = (sentOk h cap S k && (inRoom h cap S[k].out && decide (S[k].draw = (k : Int) + 1))) := by
  unfold sentOk
  rw [List.range_succ, List.all_append]
  simp [List.getElem?_eq_getElem hk]
end Go.Proofs.Ytmehbonjpmlmfaa

namespace Go.Proofs.Ytmehbonjpmlmfaa
open Go.RowKit
set_option maxRecDepth 100000 in
set_option maxHeartbeats 1000000 in
theorem mchk_good {h cap n dr : Int} {l : List Nat} {S : List SentD} {r : Int} (hr : Hid ((if sentOk h cap S S.length = true then (0 : Int) else 1) = r)) (hz : Hid (inRoom h cap l = true)) (la sa : Option Addr) (lc sc : Nat) (w : World) (hA : Reads w la l) (hS : SentIn w sa S) (h0 : cap ≤ 1024) (h1 : 0 ≤ n) (h2 : n ≤ 1099511627776) (h3 : dr ≤ 4096) (h4 : (S.length : Int) < dr) :
    Calls Try.prog 37 #[.agg #[.int .i64 h, .int .i64 cap, .slice la l.length lc, .int .i64 n, .int .i64 dr, .slice sa S.length sc]] w fun e w' => e = .returned (.int .i64 r) ∧ Below w.heap.size w w' := by
  have t0 : decide (cap ≤ (1024 : Int)) = true := decide_eq_true h0
  have t1 : decide ((0 : Int) ≤ n) = true := decide_eq_true h1
  have t2 : decide (n ≤ (1099511627776 : Int)) = true := decide_eq_true h2
  have t3 : decide (dr ≤ (4096 : Int)) = true := decide_eq_true h3
  have t4 : decide ((S.length : Int) < dr) = true := decide_eq_true h4
  have ZM : Hid (Blk (w.alloc (.cells #[.int .i64 h, .int .i64 cap, .slice la l.length lc, .int .i64 n, .int .i64 dr, .slice sa S.length sc] 45)) w.heap.size 45 #[.int .i64 h, .int .i64 cap, .slice la l.length lc, .int .i64 n, .int .i64 dr, .slice sa S.length sc]) := mkHid (Blk.new _ _ _)
  have HS := mkHid hS
  clear hS
  go_enter Try.func37, Try.ntmps37
  go_wp2_with fail
  refine (mset hz _ _ _ _ _ _ _ _ _ (hA.below ((Below.refl _ _).alloc (Nat.le_refl _) _))).mono ?_
  rintro e w1 ⟨rfl, hb1⟩
  replace ZM := mkHid (ZM.out.keep hb1)
  have HB1 := mkHid (((Below.refl w.heap.size w).alloc (Nat.le_refl _) _).step hb1)
  clear hb1
  have c0 := ZM.out.cell 0
  have c1 := ZM.out.cell 1
  have c2 := ZM.out.cell 2
  have c3 := ZM.out.cell 3
  have c4 := ZM.out.cell 4
  have c5 := ZM.out.cell 5
  go_wp2_with fail
  clear c0 c1 c2 c3 c4 c5
  go_loopw [3, 41] (fun ok j wr => ∃ (i : Nat) (z : Bool), i ≤ S.length ∧ j = .int .i64 (i : Int) ∧ ok = .bool z ∧ Hid (sentOk h cap S i = z) ∧ Hid (Blk wr w.heap.size 45 #[.int .i64 h, .int .i64 cap, .slice la l.length lc, .int .i64 n, .int .i64 dr, .slice sa S.length sc]) ∧ Hid (Below w.heap.size w wr)) (fun _ j _ => S.length - (intOf j).toNat)
  case atStart => exact ⟨0, true, by omega, rfl, rfl, mkHid (by simp [sentOk]), ZM, HB1⟩
  case round =>
    clear ZM HB1
    obtain ⟨i, z, hi, rfl, rfl, hk, ZM, HB⟩ := hrel
    by_cases hlt : i < S.length
    · obtain ⟨b, off, rfl, A, c, e0, _, _, hR, _, e1, e2, e3⟩ := (HS.out.below HB.out) i hlt
      have HR := mkHid hR
      clear hR
      have lM := ZM.out.lt
      have cM0 : wr.cell? ⟨w.heap.size, 0, none⟩ = some (.int .i64 h) := ZM.out.cell 0
      have cM1 : wr.cell? ⟨w.heap.size, 1, none⟩ = some (.int .i64 cap) := ZM.out.cell 1
      have cM2 : wr.cell? ⟨w.heap.size, 2, none⟩ = some (.slice la l.length lc) := ZM.out.cell 2
      have cM3 : wr.cell? ⟨w.heap.size, 3, none⟩ = some (.int .i64 n) := ZM.out.cell 3
      have cM4 : wr.cell? ⟨w.heap.size, 4, none⟩ = some (.int .i64 dr) := ZM.out.cell 4
      have cM5 : wr.cell? ⟨w.heap.size, 5, none⟩ = some (.slice (some ⟨b, off, none⟩) S.length sc) := ZM.out.cell 5
      obtain ⟨q, hq⟩ : ∃ q, inRoom h cap S[i].out = q := ⟨_, rfl⟩
      have HQ := mkHid hq
      clear hq
      cases z
      · go_wp2_with fail
        go_roundw
        case rel => exact ⟨i + 1, false, by omega, by go_num, rfl, mkHid (by rw [sentOk_succ hlt, hk.out]; rfl), mkHid (ZM.out.alloc _), mkHid (HB.out.alloc HB.out.size _)⟩
        case measure => simp [intOf]; omega
      · go_wp2_with fail
        refine (mset HQ _ _ _ _ _ _ _ _ _ (HR.out.below ((Below.refl _ _).alloc (Nat.le_refl _) _))).mono ?_
        rintro e w2 ⟨rfl, hb2⟩
        have ZS := mkHid ((Blk.new wr 66 #[.slice A S[i].out.length c, .int .i64 (S[i].draw : Int), .int .u64 (S[i].p.1.toNat : Int), .int .u64 (S[i].p.2.toNat : Int)]).keep hb2)
        have ZM2 := mkHid ((ZM.out.alloc _).keep hb2)
        have HB2 := mkHid ((HB.out.alloc HB.out.size _).step hb2)
        have cS1 : w2.cell? ⟨wr.heap.size, 1, none⟩ = some (.int .i64 (S[i].draw : Int)) := ZS.out.cell 1
        clear hb2 ZS cM0 cM1 cM2 cM3 cM4 cM5 lM ZM HB e0 e1 e2 e3
        have hsk := mkHid (sentOk_succ (h := h) (cap := cap) hlt)
        cases q
        · go_wp2_with fail
          go_roundw
          case rel => exact ⟨i + 1, false, by omega, by go_num, rfl, mkHid (by rw [hsk.out, hk.out, HQ.out]; rfl), ZM2, HB2⟩
          case measure => simp [intOf]; omega
        · by_cases hd : S[i].draw = (i : Int) + 1
          · have td : ((S[i].draw : Int) == (i : Int) + 1) = true := beq_iff_eq.2 (by omega)
            have hsk2 : Hid (sentOk h cap S (i + 1) = true) := mkHid (by rw [hsk.out, hk.out, HQ.out, decide_eq_true hd]; rfl)
            clear hd
            generalize S[i].draw = dd at *
            go_wp2_with fail
            go_roundw
            case rel => exact ⟨i + 1, true, by omega, by go_num, rfl, hsk2, ZM2, HB2⟩
            case measure => simp [intOf]; omega
          · have td : ((S[i].draw : Int) == (i : Int) + 1) = false := beq_eq_false_iff_ne.2 (by omega)
            have hsk2 : Hid (sentOk h cap S (i + 1) = false) := mkHid (by rw [hsk.out, hk.out, HQ.out, decide_eq_false hd]; rfl)
            clear hd
            generalize S[i].draw = dd at *
            go_wp2_with fail
            go_roundw
            case rel => exact ⟨i + 1, false, by omega, by go_num, rfl, hsk2, ZM2, HB2⟩
            case measure => simp [intOf]; omega
    · have hi2 : i = S.length := by omega
      subst hi2
      cases z
      · have e : r = 1 := by rw [← hr.out, hk.out]; rfl
        subst e
        go_wp2_with fail
        go_ret
        exact ⟨rfl, HB.out⟩
      · have e : r = 0 := by rw [← hr.out, hk.out]; rfl
        subst e
        go_wp2_with fail
        go_ret
        exact ⟨rfl, HB.out⟩
end Go.Proofs.Ytmehbonjpmlmfaa

namespace Go.Proofs.Ytmehbonjpmlmfaa
open Go.RowKit

set_option maxRecDepth 100000 in
set_option maxHeartbeats 1000000 in
theorem mchk_bad0 {h cap n dr : Int} {l : List Nat} {S : List SentD} (la sa : Option Addr) (lc sc : Nat) (w : World) (_hA : Reads w la l) (hS : SentIn w sa S) (hn : S.length < 4611686018427387904) (h0 : ¬ (cap ≤ (1024 : Int))) :
    Calls Try.prog 37 #[.agg #[.int .i64 h, .int .i64 cap, .slice la l.length lc, .int .i64 n, .int .i64 dr, .slice sa S.length sc]] w fun e w' => e = .returned (.int .i64 1) ∧ Below w.heap.size w w' := by
  have ZM : Hid (Blk (w.alloc (.cells #[.int .i64 h, .int .i64 cap, .slice la l.length lc, .int .i64 n, .int .i64 dr, .slice sa S.length sc] 45)) w.heap.size 45 #[.int .i64 h, .int .i64 cap, .slice la l.length lc, .int .i64 n, .int .i64 dr, .slice sa S.length sc]) := mkHid (Blk.new _ _ _)
  have HB1 : Hid (Below w.heap.size w (w.alloc (.cells #[.int .i64 h, .int .i64 cap, .slice la l.length lc, .int .i64 n, .int .i64 dr, .slice sa S.length sc] 45))) := mkHid ((Below.refl w.heap.size w).alloc (Nat.le_refl _) _)
  have HS := mkHid hS
  clear hS
  have t0 : decide (cap ≤ (1024 : Int)) = false := decide_eq_false h0
  go_enter Try.func37, Try.ntmps37
  go_wp2_with fail
  go_loopw [3, 41] (fun ok j wr => ∃ (i : Nat), i ≤ S.length ∧ j = .int .i64 (i : Int) ∧ ok = .bool false ∧ Hid (Blk wr w.heap.size 45 #[.int .i64 h, .int .i64 cap, .slice la l.length lc, .int .i64 n, .int .i64 dr, .slice sa S.length sc]) ∧ Hid (Below w.heap.size w wr)) (fun _ j _ => S.length - (intOf j).toNat)
  case atStart => exact ⟨0, by omega, rfl, rfl, ZM, HB1⟩
  case round =>
    clear ZM HB1
    obtain ⟨i, hi, rfl, rfl, ZM, HB⟩ := hrel
    by_cases hlt : i < S.length
    · obtain ⟨b, off, rfl, A, c, e0, _, _, _, _, e1, e2, e3⟩ := (HS.out.below HB.out) i hlt
      have lM := ZM.out.lt
      have cM0 : wr.cell? ⟨w.heap.size, 0, none⟩ = some (.int .i64 h) := ZM.out.cell 0
      have cM1 : wr.cell? ⟨w.heap.size, 1, none⟩ = some (.int .i64 cap) := ZM.out.cell 1
      have cM2 : wr.cell? ⟨w.heap.size, 2, none⟩ = some (.slice la l.length lc) := ZM.out.cell 2
      have cM3 : wr.cell? ⟨w.heap.size, 3, none⟩ = some (.int .i64 n) := ZM.out.cell 3
      have cM4 : wr.cell? ⟨w.heap.size, 4, none⟩ = some (.int .i64 dr) := ZM.out.cell 4
      have cM5 : wr.cell? ⟨w.heap.size, 5, none⟩ = some (.slice (some ⟨b, off, none⟩) S.length sc) := ZM.out.cell 5
      go_wp2_with fail
      go_roundw
      case rel => exact ⟨i + 1, by omega, by go_num, rfl, mkHid (ZM.out.alloc _), mkHid (HB.out.alloc HB.out.size _)⟩
      case measure => simp [intOf]; omega
    · have hi2 : i = S.length := by omega
      subst hi2
      go_wp2_with fail
      go_ret
      exact ⟨rfl, HB.out⟩

set_option maxRecDepth 100000 in
set_option maxHeartbeats 1000000 in
theorem mchk_bad1 {h cap n dr : Int} {l : List Nat} {S : List SentD} (hz : Hid (inRoom h cap l = false)) (la sa : Option Addr) (lc sc : Nat) (w : World) (hA : Reads w la l) (hS : SentIn w sa S) (hn : S.length < 4611686018427387904) (h0 : (cap ≤ (1024 : Int))) :
    Calls Try.prog 37 #[.agg #[.int .i64 h, .int .i64 cap, .slice la l.length lc, .int .i64 n, .int .i64 dr, .slice sa S.length sc]] w fun e w' => e = .returned (.int .i64 1) ∧ Below w.heap.size w w' := by
  have ZM : Hid (Blk (w.alloc (.cells #[.int .i64 h, .int .i64 cap, .slice la l.length lc, .int .i64 n, .int .i64 dr, .slice sa S.length sc] 45)) w.heap.size 45 #[.int .i64 h, .int .i64 cap, .slice la l.length lc, .int .i64 n, .int .i64 dr, .slice sa S.length sc]) := mkHid (Blk.new _ _ _)
  have HB1 : Hid (Below w.heap.size w (w.alloc (.cells #[.int .i64 h, .int .i64 cap, .slice la l.length lc, .int .i64 n, .int .i64 dr, .slice sa S.length sc] 45))) := mkHid ((Below.refl w.heap.size w).alloc (Nat.le_refl _) _)
  have HS := mkHid hS
  clear hS
  have t0 : decide (cap ≤ (1024 : Int)) = true := decide_eq_true h0
  go_enter Try.func37, Try.ntmps37
  go_wp2_with fail
  refine (mset hz _ _ _ _ _ _ _ _ _ (hA.below ((Below.refl _ _).alloc (Nat.le_refl _) _))).mono ?_
  rintro e w1 ⟨rfl, hb1⟩
  replace ZM := mkHid (ZM.out.keep hb1)
  replace HB1 := mkHid (HB1.out.step hb1)
  clear hb1
  have c0 := ZM.out.cell 0
  have c1 := ZM.out.cell 1
  have c2 := ZM.out.cell 2
  have c3 := ZM.out.cell 3
  have c4 := ZM.out.cell 4
  have c5 := ZM.out.cell 5
  go_wp2_with fail
  clear c0 c1 c2 c3 c4 c5
  go_loopw [3, 41] (fun ok j wr => ∃ (i : Nat), i ≤ S.length ∧ j = .int .i64 (i : Int) ∧ ok = .bool false ∧ Hid (Blk wr w.heap.size 45 #[.int .i64 h, .int .i64 cap, .slice la l.length lc, .int .i64 n, .int .i64 dr, .slice sa S.length sc]) ∧ Hid (Below w.heap.size w wr)) (fun _ j _ => S.length - (intOf j).toNat)
  case atStart => exact ⟨0, by omega, rfl, rfl, ZM, HB1⟩
  case round =>
    clear ZM HB1
    obtain ⟨i, hi, rfl, rfl, ZM, HB⟩ := hrel
    by_cases hlt : i < S.length
    · obtain ⟨b, off, rfl, A, c, e0, _, _, _, _, e1, e2, e3⟩ := (HS.out.below HB.out) i hlt
      have lM := ZM.out.lt
      have cM0 : wr.cell? ⟨w.heap.size, 0, none⟩ = some (.int .i64 h) := ZM.out.cell 0
      have cM1 : wr.cell? ⟨w.heap.size, 1, none⟩ = some (.int .i64 cap) := ZM.out.cell 1
      have cM2 : wr.cell? ⟨w.heap.size, 2, none⟩ = some (.slice la l.length lc) := ZM.out.cell 2
      have cM3 : wr.cell? ⟨w.heap.size, 3, none⟩ = some (.int .i64 n) := ZM.out.cell 3
      have cM4 : wr.cell? ⟨w.heap.size, 4, none⟩ = some (.int .i64 dr) := ZM.out.cell 4
      have cM5 : wr.cell? ⟨w.heap.size, 5, none⟩ = some (.slice (some ⟨b, off, none⟩) S.length sc) := ZM.out.cell 5
      go_wp2_with fail
      go_roundw
      case rel => exact ⟨i + 1, by omega, by go_num, rfl, mkHid (ZM.out.alloc _), mkHid (HB.out.alloc HB.out.size _)⟩
      case measure => simp [intOf]; omega
    · have hi2 : i = S.length := by omega
      subst hi2
      go_wp2_with fail
      go_ret
      exact ⟨rfl, HB.out⟩

set_option maxRecDepth 100000 in
set_option maxHeartbeats 1000000 in
theorem mchk_bad2 {h cap n dr : Int} {l : List Nat} {S : List SentD} (hz : Hid (inRoom h cap l = true)) (la sa : Option Addr) (lc sc : Nat) (w : World) (hA : Reads w la l) (hS : SentIn w sa S) (hn : S.length < 4611686018427387904) (h0 : (cap ≤ (1024 : Int))) (h2 : ¬ ((0 : Int) ≤ n)) :
    Calls Try.prog 37 #[.agg #[.int .i64 h, .int .i64 cap, .slice la l.length lc, .int .i64 n, .int .i64 dr, .slice sa S.length sc]] w fun e w' => e = .returned (.int .i64 1) ∧ Below w.heap.size w w' := by
  have ZM : Hid (Blk (w.alloc (.cells #[.int .i64 h, .int .i64 cap, .slice la l.length lc, .int .i64 n, .int .i64 dr, .slice sa S.length sc] 45)) w.heap.size 45 #[.int .i64 h, .int .i64 cap, .slice la l.length lc, .int .i64 n, .int .i64 dr, .slice sa S.length sc]) := mkHid (Blk.new _ _ _)
  have HB1 : Hid (Below w.heap.size w (w.alloc (.cells #[.int .i64 h, .int .i64 cap, .slice la l.length lc, .int .i64 n, .int .i64 dr, .slice sa S.length sc] 45))) := mkHid ((Below.refl w.heap.size w).alloc (Nat.le_refl _) _)
  have HS := mkHid hS
  clear hS
  have t0 : decide (cap ≤ (1024 : Int)) = true := decide_eq_true h0
  have t1 : decide ((0 : Int) ≤ n) = false := decide_eq_false h2
  go_enter Try.func37, Try.ntmps37
  go_wp2_with fail
  refine (mset hz _ _ _ _ _ _ _ _ _ (hA.below ((Below.refl _ _).alloc (Nat.le_refl _) _))).mono ?_
  rintro e w1 ⟨rfl, hb1⟩
  replace ZM := mkHid (ZM.out.keep hb1)
  replace HB1 := mkHid (HB1.out.step hb1)
  clear hb1
  have c0 := ZM.out.cell 0
  have c1 := ZM.out.cell 1
  have c2 := ZM.out.cell 2
  have c3 := ZM.out.cell 3
  have c4 := ZM.out.cell 4
  have c5 := ZM.out.cell 5
  go_wp2_with fail
  clear c0 c1 c2 c3 c4 c5
  go_loopw [3, 41] (fun ok j wr => ∃ (i : Nat), i ≤ S.length ∧ j = .int .i64 (i : Int) ∧ ok = .bool false ∧ Hid (Blk wr w.heap.size 45 #[.int .i64 h, .int .i64 cap, .slice la l.length lc, .int .i64 n, .int .i64 dr, .slice sa S.length sc]) ∧ Hid (Below w.heap.size w wr)) (fun _ j _ => S.length - (intOf j).toNat)
  case atStart => exact ⟨0, by omega, rfl, rfl, ZM, HB1⟩
  case round =>
    clear ZM HB1
    obtain ⟨i, hi, rfl, rfl, ZM, HB⟩ := hrel
    by_cases hlt : i < S.length
    · obtain ⟨b, off, rfl, A, c, e0, _, _, _, _, e1, e2, e3⟩ := (HS.out.below HB.out) i hlt
      have lM := ZM.out.lt
      have cM0 : wr.cell? ⟨w.heap.size, 0, none⟩ = some (.int .i64 h) := ZM.out.cell 0
      have cM1 : wr.cell? ⟨w.heap.size, 1, none⟩ = some (.int .i64 cap) := ZM.out.cell 1
      have cM2 : wr.cell? ⟨w.heap.size, 2, none⟩ = some (.slice la l.length lc) := ZM.out.cell 2
      have cM3 : wr.cell? ⟨w.heap.size, 3, none⟩ = some (.int .i64 n) := ZM.out.cell 3
      have cM4 : wr.cell? ⟨w.heap.size, 4, none⟩ = some (.int .i64 dr) := ZM.out.cell 4
      have cM5 : wr.cell? ⟨w.heap.size, 5, none⟩ = some (.slice (some ⟨b, off, none⟩) S.length sc) := ZM.out.cell 5
      go_wp2_with fail
      go_roundw
      case rel => exact ⟨i + 1, by omega, by go_num, rfl, mkHid (ZM.out.alloc _), mkHid (HB.out.alloc HB.out.size _)⟩
      case measure => simp [intOf]; omega
    · have hi2 : i = S.length := by omega
      subst hi2
      go_wp2_with fail
      go_ret
      exact ⟨rfl, HB.out⟩

set_option maxRecDepth 100000 in
set_option maxHeartbeats 1000000 in
theorem mchk_bad3 {h cap n dr : Int} {l : List Nat} {S : List SentD} (hz : Hid (inRoom h cap l = true)) (la sa : Option Addr) (lc sc : Nat) (w : World) (hA : Reads w la l) (hS : SentIn w sa S) (hn : S.length < 4611686018427387904) (h0 : (cap ≤ (1024 : Int))) (h2 : ((0 : Int) ≤ n)) (h3 : ¬ (n ≤ (1099511627776 : Int))) :
    Calls Try.prog 37 #[.agg #[.int .i64 h, .int .i64 cap, .slice la l.length lc, .int .i64 n, .int .i64 dr, .slice sa S.length sc]] w fun e w' => e = .returned (.int .i64 1) ∧ Below w.heap.size w w' := by
  have ZM : Hid (Blk (w.alloc (.cells #[.int .i64 h, .int .i64 cap, .slice la l.length lc, .int .i64 n, .int .i64 dr, .slice sa S.length sc] 45)) w.heap.size 45 #[.int .i64 h, .int .i64 cap, .slice la l.length lc, .int .i64 n, .int .i64 dr, .slice sa S.length sc]) := mkHid (Blk.new _ _ _)
  have HB1 : Hid (Below w.heap.size w (w.alloc (.cells #[.int .i64 h, .int .i64 cap, .slice la l.length lc, .int .i64 n, .int .i64 dr, .slice sa S.length sc] 45))) := mkHid ((Below.refl w.heap.size w).alloc (Nat.le_refl _) _)
  have HS := mkHid hS
  clear hS
  have t0 : decide (cap ≤ (1024 : Int)) = true := decide_eq_true h0
  have t1 : decide ((0 : Int) ≤ n) = true := decide_eq_true h2
  have t2 : decide (n ≤ (1099511627776 : Int)) = false := decide_eq_false h3
  go_enter Try.func37, Try.ntmps37
  go_wp2_with fail
  refine (mset hz _ _ _ _ _ _ _ _ _ (hA.below ((Below.refl _ _).alloc (Nat.le_refl _) _))).mono ?_
  rintro e w1 ⟨rfl, hb1⟩
  replace ZM := mkHid (ZM.out.keep hb1)
  replace HB1 := mkHid (HB1.out.step hb1)
  clear hb1
  have c0 := ZM.out.cell 0
  have c1 := ZM.out.cell 1
  have c2 := ZM.out.cell 2
  have c3 := ZM.out.cell 3
  have c4 := ZM.out.cell 4
  have c5 := ZM.out.cell 5
  go_wp2_with fail
  clear c0 c1 c2 c3 c4 c5
  go_loopw [3, 41] (fun ok j wr => ∃ (i : Nat), i ≤ S.length ∧ j = .int .i64 (i : Int) ∧ ok = .bool false ∧ Hid (Blk wr w.heap.size 45 #[.int .i64 h, .int .i64 cap, .slice la l.length lc, .int .i64 n, .int .i64 dr, .slice sa S.length sc]) ∧ Hid (Below w.heap.size w wr)) (fun _ j _ => S.length - (intOf j).toNat)
  case atStart => exact ⟨0, by omega, rfl, rfl, ZM, HB1⟩
  case round =>
    clear ZM HB1
    obtain ⟨i, hi, rfl, rfl, ZM, HB⟩ := hrel
    by_cases hlt : i < S.length
    · obtain ⟨b, off, rfl, A, c, e0, _, _, _, _, e1, e2, e3⟩ := (HS.out.below HB.out) i hlt
      have lM := ZM.out.lt
      have cM0 : wr.cell? ⟨w.heap.size, 0, none⟩ = some (.int .i64 h) := ZM.out.cell 0
      have cM1 : wr.cell? ⟨w.heap.size, 1, none⟩ = some (.int .i64 cap) := ZM.out.cell 1
      have cM2 : wr.cell? ⟨w.heap.size, 2, none⟩ = some (.slice la l.length lc) := ZM.out.cell 2
      have cM3 : wr.cell? ⟨w.heap.size, 3, none⟩ = some (.int .i64 n) := ZM.out.cell 3
      have cM4 : wr.cell? ⟨w.heap.size, 4, none⟩ = some (.int .i64 dr) := ZM.out.cell 4
      have cM5 : wr.cell? ⟨w.heap.size, 5, none⟩ = some (.slice (some ⟨b, off, none⟩) S.length sc) := ZM.out.cell 5
      go_wp2_with fail
      go_roundw
      case rel => exact ⟨i + 1, by omega, by go_num, rfl, mkHid (ZM.out.alloc _), mkHid (HB.out.alloc HB.out.size _)⟩
      case measure => simp [intOf]; omega
    · have hi2 : i = S.length := by omega
      subst hi2
      go_wp2_with fail
      go_ret
      exact ⟨rfl, HB.out⟩

set_option maxRecDepth 100000 in
set_option maxHeartbeats 1000000 in
theorem mchk_bad4 {h cap n dr : Int} {l : List Nat} {S : List SentD} (hz : Hid (inRoom h cap l = true)) (la sa : Option Addr) (lc sc : Nat) (w : World) (hA : Reads w la l) (hS : SentIn w sa S) (hn : S.length < 4611686018427387904) (h0 : (cap ≤ (1024 : Int))) (h2 : ((0 : Int) ≤ n)) (h3 : (n ≤ (1099511627776 : Int))) (h4 : ¬ (dr ≤ (4096 : Int))) :
    Calls Try.prog 37 #[.agg #[.int .i64 h, .int .i64 cap, .slice la l.length lc, .int .i64 n, .int .i64 dr, .slice sa S.length sc]] w fun e w' => e = .returned (.int .i64 1) ∧ Below w.heap.size w w' := by
  have ZM : Hid (Blk (w.alloc (.cells #[.int .i64 h, .int .i64 cap, .slice la l.length lc, .int .i64 n, .int .i64 dr, .slice sa S.length sc] 45)) w.heap.size 45 #[.int .i64 h, .int .i64 cap, .slice la l.length lc, .int .i64 n, .int .i64 dr, .slice sa S.length sc]) := mkHid (Blk.new _ _ _)
  have HB1 : Hid (Below w.heap.size w (w.alloc (.cells #[.int .i64 h, .int .i64 cap, .slice la l.length lc, .int .i64 n, .int .i64 dr, .slice sa S.length sc] 45))) := mkHid ((Below.refl w.heap.size w).alloc (Nat.le_refl _) _)
  have HS := mkHid hS
  clear hS
  have t0 : decide (cap ≤ (1024 : Int)) = true := decide_eq_true h0
  have t1 : decide ((0 : Int) ≤ n) = true := decide_eq_true h2
  have t2 : decide (n ≤ (1099511627776 : Int)) = true := decide_eq_true h3
  have t3 : decide (dr ≤ (4096 : Int)) = false := decide_eq_false h4
  go_enter Try.func37, Try.ntmps37
  go_wp2_with fail
  refine (mset hz _ _ _ _ _ _ _ _ _ (hA.below ((Below.refl _ _).alloc (Nat.le_refl _) _))).mono ?_
  rintro e w1 ⟨rfl, hb1⟩
  replace ZM := mkHid (ZM.out.keep hb1)
  replace HB1 := mkHid (HB1.out.step hb1)
  clear hb1
  have c0 := ZM.out.cell 0
  have c1 := ZM.out.cell 1
  have c2 := ZM.out.cell 2
  have c3 := ZM.out.cell 3
  have c4 := ZM.out.cell 4
  have c5 := ZM.out.cell 5
  go_wp2_with fail
  clear c0 c1 c2 c3 c4 c5
  go_loopw [3, 41] (fun ok j wr => ∃ (i : Nat), i ≤ S.length ∧ j = .int .i64 (i : Int) ∧ ok = .bool false ∧ Hid (Blk wr w.heap.size 45 #[.int .i64 h, .int .i64 cap, .slice la l.length lc, .int .i64 n, .int .i64 dr, .slice sa S.length sc]) ∧ Hid (Below w.heap.size w wr)) (fun _ j _ => S.length - (intOf j).toNat)
  case atStart => exact ⟨0, by omega, rfl, rfl, ZM, HB1⟩
  case round =>
    clear ZM HB1
    obtain ⟨i, hi, rfl, rfl, ZM, HB⟩ := hrel
    by_cases hlt : i < S.length
    · obtain ⟨b, off, rfl, A, c, e0, _, _, _, _, e1, e2, e3⟩ := (HS.out.below HB.out) i hlt
      have lM := ZM.out.lt
      have cM0 : wr.cell? ⟨w.heap.size, 0, none⟩ = some (.int .i64 h) := ZM.out.cell 0
      have cM1 : wr.cell? ⟨w.heap.size, 1, none⟩ = some (.int .i64 cap) := ZM.out.cell 1
      have cM2 : wr.cell? ⟨w.heap.size, 2, none⟩ = some (.slice la l.length lc) := ZM.out.cell 2
      have cM3 : wr.cell? ⟨w.heap.size, 3, none⟩ = some (.int .i64 n) := ZM.out.cell 3
      have cM4 : wr.cell? ⟨w.heap.size, 4, none⟩ = some (.int .i64 dr) := ZM.out.cell 4
      have cM5 : wr.cell? ⟨w.heap.size, 5, none⟩ = some (.slice (some ⟨b, off, none⟩) S.length sc) := ZM.out.cell 5
      go_wp2_with fail
      go_roundw
      case rel => exact ⟨i + 1, by omega, by go_num, rfl, mkHid (ZM.out.alloc _), mkHid (HB.out.alloc HB.out.size _)⟩
      case measure => simp [intOf]; omega
    · have hi2 : i = S.length := by omega
      subst hi2
      go_wp2_with fail
      go_ret
      exact ⟨rfl, HB.out⟩

set_option maxRecDepth 100000 in
set_option maxHeartbeats 1000000 in
theorem mchk_bad5 {h cap n dr : Int} {l : List Nat} {S : List SentD} (hz : Hid (inRoom h cap l = true)) (la sa : Option Addr) (lc sc : Nat) (w : World) (hA : Reads w la l) (hS : SentIn w sa S) (hn : S.length < 4611686018427387904) (h0 : (cap ≤ (1024 : Int))) (h2 : ((0 : Int) ≤ n)) (h3 : (n ≤ (1099511627776 : Int))) (h4 : (dr ≤ (4096 : Int))) (h5 : ¬ ((S.length : Int) < dr)) :
    Calls Try.prog 37 #[.agg #[.int .i64 h, .int .i64 cap, .slice la l.length lc, .int .i64 n, .int .i64 dr, .slice sa S.length sc]] w fun e w' => e = .returned (.int .i64 1) ∧ Below w.heap.size w w' := by
  have ZM : Hid (Blk (w.alloc (.cells #[.int .i64 h, .int .i64 cap, .slice la l.length lc, .int .i64 n, .int .i64 dr, .slice sa S.length sc] 45)) w.heap.size 45 #[.int .i64 h, .int .i64 cap, .slice la l.length lc, .int .i64 n, .int .i64 dr, .slice sa S.length sc]) := mkHid (Blk.new _ _ _)
  have HB1 : Hid (Below w.heap.size w (w.alloc (.cells #[.int .i64 h, .int .i64 cap, .slice la l.length lc, .int .i64 n, .int .i64 dr, .slice sa S.length sc] 45))) := mkHid ((Below.refl w.heap.size w).alloc (Nat.le_refl _) _)
  have HS := mkHid hS
  clear hS
  have t0 : decide (cap ≤ (1024 : Int)) = true := decide_eq_true h0
  have t1 : decide ((0 : Int) ≤ n) = true := decide_eq_true h2
  have t2 : decide (n ≤ (1099511627776 : Int)) = true := decide_eq_true h3
  have t3 : decide (dr ≤ (4096 : Int)) = true := decide_eq_true h4
  have t4 : decide ((S.length : Int) < dr) = false := decide_eq_false h5
  go_enter Try.func37, Try.ntmps37
  go_wp2_with fail
  refine (mset hz _ _ _ _ _ _ _ _ _ (hA.below ((Below.refl _ _).alloc (Nat.le_refl _) _))).mono ?_
  rintro e w1 ⟨rfl, hb1⟩
  replace ZM := mkHid (ZM.out.keep hb1)
  replace HB1 := mkHid (HB1.out.step hb1)
  clear hb1
  have c0 := ZM.out.cell 0
  have c1 := ZM.out.cell 1
  have c2 := ZM.out.cell 2
  have c3 := ZM.out.cell 3
  have c4 := ZM.out.cell 4
  have c5 := ZM.out.cell 5
  go_wp2_with fail
  clear c0 c1 c2 c3 c4 c5
  go_loopw [3, 41] (fun ok j wr => ∃ (i : Nat), i ≤ S.length ∧ j = .int .i64 (i : Int) ∧ ok = .bool false ∧ Hid (Blk wr w.heap.size 45 #[.int .i64 h, .int .i64 cap, .slice la l.length lc, .int .i64 n, .int .i64 dr, .slice sa S.length sc]) ∧ Hid (Below w.heap.size w wr)) (fun _ j _ => S.length - (intOf j).toNat)
  case atStart => exact ⟨0, by omega, rfl, rfl, ZM, HB1⟩
  case round =>
    clear ZM HB1
    obtain ⟨i, hi, rfl, rfl, ZM, HB⟩ := hrel
    by_cases hlt : i < S.length
    · obtain ⟨b, off, rfl, A, c, e0, _, _, _, _, e1, e2, e3⟩ := (HS.out.below HB.out) i hlt
      have lM := ZM.out.lt
      have cM0 : wr.cell? ⟨w.heap.size, 0, none⟩ = some (.int .i64 h) := ZM.out.cell 0
      have cM1 : wr.cell? ⟨w.heap.size, 1, none⟩ = some (.int .i64 cap) := ZM.out.cell 1
      have cM2 : wr.cell? ⟨w.heap.size, 2, none⟩ = some (.slice la l.length lc) := ZM.out.cell 2
      have cM3 : wr.cell? ⟨w.heap.size, 3, none⟩ = some (.int .i64 n) := ZM.out.cell 3
      have cM4 : wr.cell? ⟨w.heap.size, 4, none⟩ = some (.int .i64 dr) := ZM.out.cell 4
      have cM5 : wr.cell? ⟨w.heap.size, 5, none⟩ = some (.slice (some ⟨b, off, none⟩) S.length sc) := ZM.out.cell 5
      go_wp2_with fail
      go_roundw
      case rel => exact ⟨i + 1, by omega, by go_num, rfl, mkHid (ZM.out.alloc _), mkHid (HB.out.alloc HB.out.size _)⟩
      case measure => simp [intOf]; omega
    · have hi2 : i = S.length := by omega
      subst hi2
      go_wp2_with fail
      go_ret
      exact ⟨rfl, HB.out⟩
end Go.Proofs.Ytmehbonjpmlmfaa

namespace Go.Proofs.Ytmehbonjpmlmfaa
open Go.RowKit

/-- a model may be -/
def okM (m : ModD) : Bool := decide (m.cap ≤ 1024) && inRoom m.h m.cap m.l && decide (0 ≤ m.n) && decide (m.n ≤ 1099511627776) && decide (m.draws ≤ 4096) && decide ((m.sent.length : Int) < m.draws) && sentOk m.h m.cap m.sent m.sent.length
/-- what lies behind a model's value -/
structure MemM (w : World) (A : Option Addr) (c : Nat) (B : Option Addr) (d : Nat) (m : ModD) : Prop where
  l1 : m.l.length ≤ c
  l2 : c ≤ maxLen
  reads : Reads w A m.l
  lnil : A = none → c = 0
  s1 : m.sent.length ≤ d
  s2 : d ≤ maxLen
  sents : SentIn w B m.sent
  snil : B = none → d = 0
  short : m.sent.length < 4611686018427387904 ∧ m.l.length < 4611686018427387904
theorem MemM.below {w w1 : World} {A B : Option Addr} {c d : Nat} {m : ModD} (h : MemM w A c B d m) (hb : Below w.heap.size w w1) : MemM w1 A c B d m := ⟨h.l1, h.l2, h.reads.below hb, h.lnil, h.s1, h.s2, h.sents.below hb, h.snil, h.short⟩
theorem mchk {m : ModD} {r : Int} (e : Hid ((if okM m then (0 : Int) else 1) = r)) (A : Option Addr) (c : Nat) (B : Option Addr) (d : Nat) (w : World) (hM : MemM w A c B d m) :
    Calls Try.prog 37 #[.agg #[.int .i64 m.h, .int .i64 m.cap, .slice A m.l.length c, .int .i64 m.n, .int .i64 m.draws, .slice B m.sent.length d]] w fun e w' => e = .returned (.int .i64 r) ∧ Below w.heap.size w w' := by
  obtain ⟨h, cap, l, n, dr, S⟩ := m
  have e' := e.out
  obtain ⟨hn, _⟩ := hM.short
  have hA := hM.reads
  have hS := hM.sents
  unfold okM at e'
  dsimp only at *
  by_cases h0 : cap ≤ (1024 : Int)
  · cases hz : inRoom h cap l
    · rw [hz, Bool.and_false] at e'
      simp only [Bool.false_and] at e'
      obtain rfl : (1 : Int) = r := by simpa using e'
      exact mchk_bad1 (mkHid hz) A B c d w hA hS hn h0
    · by_cases h1 : (0 : Int) ≤ n
      · by_cases h2 : n ≤ (1099511627776 : Int)
        · by_cases h3 : dr ≤ (4096 : Int)
          · by_cases h4 : (S.length : Int) < dr
            · rw [decide_eq_true h0, hz, decide_eq_true h1, decide_eq_true h2, decide_eq_true h3, decide_eq_true h4] at e'
              simp only [Bool.true_and] at e'
              exact mchk_good (mkHid e') (mkHid hz) A B c d w hA hS h0 h1 h2 h3 h4
            · rw [decide_eq_false h4] at e'
              obtain rfl : (1 : Int) = r := by simpa using e'
              exact mchk_bad5 (mkHid hz) A B c d w hA hS hn h0 h1 h2 h3 h4
          · rw [decide_eq_false h3] at e'
            obtain rfl : (1 : Int) = r := by simpa using e'
            exact mchk_bad4 (mkHid hz) A B c d w hA hS hn h0 h1 h2 h3
        · rw [decide_eq_false h2] at e'
          obtain rfl : (1 : Int) = r := by simpa using e'
          exact mchk_bad3 (mkHid hz) A B c d w hA hS hn h0 h1 h2
      · rw [decide_eq_false h1] at e'
        obtain rfl : (1 : Int) = r := by simpa using e'
        exact mchk_bad2 (mkHid hz) A B c d w hA hS hn h0 h1
  · rw [decide_eq_false h0] at e'
    obtain rfl : (1 : Int) = r := by simpa using e'
    exact mchk_bad0 A B c d w hA hS hn h0
end Go.Proofs.Ytmehbonjpmlmfaa

namespace Go.Proofs.Ytmehbonjpmlmfaa
open Go.RowKit

theorem Blk.fill6 {w : World} {n : Nat} {t : TypeId} {a0 a1 a2 a3 a4 a5 b0 b1 b2 b3 b4 b5 : Value} (h : Blk w n t #[a0, a1, a2, a3, a4, a5]) :
    Blk ((((((w.setCell ⟨n, 0, none⟩ b0).setCell ⟨n, 1, none⟩ b1).setCell ⟨n, 2, none⟩ b2).setCell ⟨n, 3, none⟩ b3).setCell ⟨n, 4, none⟩ b4).setCell ⟨n, 5, none⟩ b5) n t #[b0, b1, b2, b3, b4, b5] := (((((h.set 0 b0).set 1 b1).set 2 b2).set 3 b3).set 4 b4).set 5 b5
theorem Blk.six {w : World} {n : Nat} {t : TypeId} {a b c d e f : Value} (h : Blk w n t #[a, b, c, d, e, f]) :
    w.cell? ⟨n, 0, none⟩ = some a ∧ w.cell? ⟨n, 1, none⟩ = some b ∧ w.cell? ⟨n, 2, none⟩ = some c ∧ w.cell? ⟨n, 3, none⟩ = some d ∧ w.cell? ⟨n, 4, none⟩ = some e ∧ w.cell? ⟨n, 5, none⟩ = some f := ⟨h.cell 0, h.cell 1, h.cell 2, h.cell 3, h.cell 4, h.cell 5⟩
theorem below_six {w w1 : World} {b g : Nat} (h : Below b w w1) (hg : b ≤ g) (x0 x1 x2 x3 x4 x5 : Value) : Below b w ((((((w1.setCell ⟨g, 0, none⟩ x0).setCell ⟨g, 1, none⟩ x1).setCell ⟨g, 2, none⟩ x2).setCell ⟨g, 3, none⟩ x3).setCell ⟨g, 4, none⟩ x4).setCell ⟨g, 5, none⟩ x5) :=
  (((((h.setCell (p := ⟨g, 0, none⟩) hg _).setCell (p := ⟨g, 1, none⟩) hg _).setCell (p := ⟨g, 2, none⟩) hg _).setCell (p := ⟨g, 3, none⟩) hg _).setCell (p := ⟨g, 4, none⟩) hg _).setCell (p := ⟨g, 5, none⟩) hg _
def zeroM : ModD := ⟨0, 0, [], 0, 0, []⟩
def freshM (h room draws : Int) : ModD := ⟨h, room, [], 0, draws, []⟩
theorem MemM.fresh (w : World) (h room draws : Int) : MemM w none 0 none 0 (freshM h room draws) := ⟨Nat.le_refl _, Nat.zero_le _, Reads.nil _, fun _ => rfl, Nat.le_refl _, Nat.zero_le _, SentIn.nil _ _, fun _ => rfl, ⟨(by decide : (0 : Nat) < 4611686018427387904), (by decide : (0 : Nat) < 4611686018427387904)⟩⟩
/-- what New answers -/
def newM (h room draws : Int) : ModD × Int := if draws = 0 then (zeroM, 10) else if okM (freshM h room draws) then (freshM h room draws, 0) else (zeroM, 1)

set_option maxRecDepth 100000 in
set_option maxHeartbeats 4000000 in
theorem mnew_zero {h room draws : Int} (h0 : draws = 0) (w : World) :
    Calls Try.prog 28 #[.int .i64 h, .int .i64 room, .int .i64 draws] w fun e w' => e = .returned (.tuple #[.agg #[.int .i64 0, .int .i64 0, .slice none 0 0, .int .i64 0, .int .i64 0, .slice none 0 0], .int .i64 10]) ∧ Below w.heap.size w w' := by
  have t0 : (draws == (0 : Int)) = true := beq_iff_eq.2 h0
  clear h0
  have ZZ : Hid (Blk ((w.alloc (.cells #[.int .i64 0, .int .i64 0, .slice none 0 0, .int .i64 0, .int .i64 0, .slice none 0 0] 45)).alloc (.cells #[.int .i64 h, .int .i64 room, .slice none 0 0, .int .i64 0, .int .i64 draws, .slice none 0 0] 45)) w.heap.size 45 #[.int .i64 0, .int .i64 0, .slice none 0 0, .int .i64 0, .int .i64 0, .slice none 0 0]) := mkHid ((Blk.new _ _ _).alloc _)
  have ZX : Hid (Blk ((w.alloc (.cells #[.int .i64 0, .int .i64 0, .slice none 0 0, .int .i64 0, .int .i64 0, .slice none 0 0] 45)).alloc (.cells #[.int .i64 h, .int .i64 room, .slice none 0 0, .int .i64 0, .int .i64 draws, .slice none 0 0] 45)) (w.heap.size + 1) 45 #[.int .i64 h, .int .i64 room, .slice none 0 0, .int .i64 0, .int .i64 draws, .slice none 0 0]) := mkHid (Blk.at _ _ _ (by simp))
  have KB : Hid (Below w.heap.size w ((w.alloc (.cells #[.int .i64 0, .int .i64 0, .slice none 0 0, .int .i64 0, .int .i64 0, .slice none 0 0] 45)).alloc (.cells #[.int .i64 h, .int .i64 room, .slice none 0 0, .int .i64 0, .int .i64 draws, .slice none 0 0] 45))) := mkHid (((Below.refl _ _).alloc (Nat.le_refl _) _).alloc (by simp) _)
  have cZZ := ZZ.out.six
  have fZZ0 := ZZ.out.frozen 0
  have fZZ1 := ZZ.out.frozen 1
  have fZZ2 := ZZ.out.frozen 2
  have fZZ3 := ZZ.out.frozen 3
  have fZZ4 := ZZ.out.frozen 4
  have fZZ5 := ZZ.out.frozen 5
  have lZZ := ZZ.out.lt
  have cZX := ZX.out.six
  have lZX := ZX.out.lt
  go_enter Try.func28, Try.ntmps28
  go_wp2_with fail
  have qR := ZZ.out.six
  refine bodyPost_ret (v := .tuple #[.agg #[.int .i64 0, .int .i64 0, .slice none 0 0, .int .i64 0, .int .i64 0, .slice none 0 0], .int .i64 10]) (by simp [results, Try.results28, go_sem, qR]) rfl ⟨rfl, ?_⟩
  exact KB.out

set_option maxRecDepth 100000 in
set_option maxHeartbeats 4000000 in
theorem mnew_yes {h room draws : Int} (h0 : draws ≠ 0) (e : Hid ((if okM (freshM h room draws) then (0 : Int) else 1) = 0)) (w : World) :
    Calls Try.prog 28 #[.int .i64 h, .int .i64 room, .int .i64 draws] w fun e w' => e = .returned (.tuple #[.agg #[.int .i64 h, .int .i64 room, .slice none 0 0, .int .i64 0, .int .i64 draws, .slice none 0 0], .int .i64 0]) ∧ Below w.heap.size w w' := by
  have t0 : (draws == (0 : Int)) = false := beq_eq_false_iff_ne.2 h0
  have ZZ : Hid (Blk ((w.alloc (.cells #[.int .i64 0, .int .i64 0, .slice none 0 0, .int .i64 0, .int .i64 0, .slice none 0 0] 45)).alloc (.cells #[.int .i64 h, .int .i64 room, .slice none 0 0, .int .i64 0, .int .i64 draws, .slice none 0 0] 45)) w.heap.size 45 #[.int .i64 0, .int .i64 0, .slice none 0 0, .int .i64 0, .int .i64 0, .slice none 0 0]) := mkHid ((Blk.new _ _ _).alloc _)
  have ZX : Hid (Blk ((w.alloc (.cells #[.int .i64 0, .int .i64 0, .slice none 0 0, .int .i64 0, .int .i64 0, .slice none 0 0] 45)).alloc (.cells #[.int .i64 h, .int .i64 room, .slice none 0 0, .int .i64 0, .int .i64 draws, .slice none 0 0] 45)) (w.heap.size + 1) 45 #[.int .i64 h, .int .i64 room, .slice none 0 0, .int .i64 0, .int .i64 draws, .slice none 0 0]) := mkHid (Blk.at _ _ _ (by simp))
  have KB : Hid (Below w.heap.size w ((w.alloc (.cells #[.int .i64 0, .int .i64 0, .slice none 0 0, .int .i64 0, .int .i64 0, .slice none 0 0] 45)).alloc (.cells #[.int .i64 h, .int .i64 room, .slice none 0 0, .int .i64 0, .int .i64 draws, .slice none 0 0] 45))) := mkHid (((Below.refl _ _).alloc (Nat.le_refl _) _).alloc (by simp) _)
  have cZZ := ZZ.out.six
  have fZZ0 := ZZ.out.frozen 0
  have fZZ1 := ZZ.out.frozen 1
  have fZZ2 := ZZ.out.frozen 2
  have fZZ3 := ZZ.out.frozen 3
  have fZZ4 := ZZ.out.frozen 4
  have fZZ5 := ZZ.out.frozen 5
  have lZZ := ZZ.out.lt
  have cZX := ZX.out.six
  have lZX := ZX.out.lt
  go_enter Try.func28, Try.ntmps28
  go_wp2_with fail
  refine (mchk e none 0 none 0 _ (MemM.fresh _ _ _ _)).mono ?_
  rintro e w1 ⟨rfl, hb1⟩
  replace ZZ := mkHid (ZZ.out.keep hb1)
  replace ZX := mkHid (ZX.out.keep hb1)
  replace KB := mkHid (KB.out.step hb1)
  clear cZZ fZZ0 fZZ1 fZZ2 fZZ3 fZZ4 fZZ5 lZZ
  have cZZ := ZZ.out.six
  have fZZ0 := ZZ.out.frozen 0
  have fZZ1 := ZZ.out.frozen 1
  have fZZ2 := ZZ.out.frozen 2
  have fZZ3 := ZZ.out.frozen 3
  have fZZ4 := ZZ.out.frozen 4
  have fZZ5 := ZZ.out.frozen 5
  have lZZ := ZZ.out.lt
  clear cZX lZX
  have cZX := ZX.out.six
  have lZX := ZX.out.lt
  clear hb1
  go_wp2_with fail
  have qR := (ZZ.out.fill6 (b0 := .int .i64 h) (b1 := .int .i64 room) (b2 := .slice none 0 0) (b3 := .int .i64 0) (b4 := .int .i64 draws) (b5 := .slice none 0 0)).six
  refine bodyPost_ret (v := .tuple #[.agg #[.int .i64 h, .int .i64 room, .slice none 0 0, .int .i64 0, .int .i64 draws, .slice none 0 0], .int .i64 0]) (by simp [results, Try.results28, go_sem, qR]) rfl ⟨rfl, ?_⟩
  exact below_six KB.out (Nat.le_refl _) _ _ _ _ _ _

set_option maxRecDepth 100000 in
set_option maxHeartbeats 4000000 in
theorem mnew_no {h room draws : Int} (h0 : draws ≠ 0) (e : Hid ((if okM (freshM h room draws) then (0 : Int) else 1) = 1)) (w : World) :
    Calls Try.prog 28 #[.int .i64 h, .int .i64 room, .int .i64 draws] w fun e w' => e = .returned (.tuple #[.agg #[.int .i64 0, .int .i64 0, .slice none 0 0, .int .i64 0, .int .i64 0, .slice none 0 0], .int .i64 1]) ∧ Below w.heap.size w w' := by
  have t0 : (draws == (0 : Int)) = false := beq_eq_false_iff_ne.2 h0
  have ZZ : Hid (Blk ((w.alloc (.cells #[.int .i64 0, .int .i64 0, .slice none 0 0, .int .i64 0, .int .i64 0, .slice none 0 0] 45)).alloc (.cells #[.int .i64 h, .int .i64 room, .slice none 0 0, .int .i64 0, .int .i64 draws, .slice none 0 0] 45)) w.heap.size 45 #[.int .i64 0, .int .i64 0, .slice none 0 0, .int .i64 0, .int .i64 0, .slice none 0 0]) := mkHid ((Blk.new _ _ _).alloc _)
  have ZX : Hid (Blk ((w.alloc (.cells #[.int .i64 0, .int .i64 0, .slice none 0 0, .int .i64 0, .int .i64 0, .slice none 0 0] 45)).alloc (.cells #[.int .i64 h, .int .i64 room, .slice none 0 0, .int .i64 0, .int .i64 draws, .slice none 0 0] 45)) (w.heap.size + 1) 45 #[.int .i64 h, .int .i64 room, .slice none 0 0, .int .i64 0, .int .i64 draws, .slice none 0 0]) := mkHid (Blk.at _ _ _ (by simp))
  have KB : Hid (Below w.heap.size w ((w.alloc (.cells #[.int .i64 0, .int .i64 0, .slice none 0 0, .int .i64 0, .int .i64 0, .slice none 0 0] 45)).alloc (.cells #[.int .i64 h, .int .i64 room, .slice none 0 0, .int .i64 0, .int .i64 draws, .slice none 0 0] 45))) := mkHid (((Below.refl _ _).alloc (Nat.le_refl _) _).alloc (by simp) _)
  have cZZ := ZZ.out.six
  have fZZ0 := ZZ.out.frozen 0
  have fZZ1 := ZZ.out.frozen 1
  have fZZ2 := ZZ.out.frozen 2
  have fZZ3 := ZZ.out.frozen 3
  have fZZ4 := ZZ.out.frozen 4
  have fZZ5 := ZZ.out.frozen 5
  have lZZ := ZZ.out.lt
  have cZX := ZX.out.six
  have lZX := ZX.out.lt
  go_enter Try.func28, Try.ntmps28
  go_wp2_with fail
  refine (mchk e none 0 none 0 _ (MemM.fresh _ _ _ _)).mono ?_
  rintro e w1 ⟨rfl, hb1⟩
  replace ZZ := mkHid (ZZ.out.keep hb1)
  replace ZX := mkHid (ZX.out.keep hb1)
  replace KB := mkHid (KB.out.step hb1)
  clear cZZ fZZ0 fZZ1 fZZ2 fZZ3 fZZ4 fZZ5 lZZ
  have cZZ := ZZ.out.six
  have fZZ0 := ZZ.out.frozen 0
  have fZZ1 := ZZ.out.frozen 1
  have fZZ2 := ZZ.out.frozen 2
  have fZZ3 := ZZ.out.frozen 3
  have fZZ4 := ZZ.out.frozen 4
  have fZZ5 := ZZ.out.frozen 5
  have lZZ := ZZ.out.lt
  clear cZX lZX
  have cZX := ZX.out.six
  have lZX := ZX.out.lt
  clear hb1
  go_wp2_with fail
  have qR := (ZZ.out.fill6 (b0 := .int .i64 0) (b1 := .int .i64 0) (b2 := .slice none 0 0) (b3 := .int .i64 0) (b4 := .int .i64 0) (b5 := .slice none 0 0)).six
  refine bodyPost_ret (v := .tuple #[.agg #[.int .i64 0, .int .i64 0, .slice none 0 0, .int .i64 0, .int .i64 0, .slice none 0 0], .int .i64 1]) (by simp [results, Try.results28, go_sem, qR]) rfl ⟨rfl, ?_⟩
  exact below_six KB.out (Nat.le_refl _) _ _ _ _ _ _

theorem mnew {h room draws : Int} {m : ModD} {r : Int} (e : Hid (newM h room draws = (m, r))) (w : World) :
    Calls Try.prog 28 #[.int .i64 h, .int .i64 room, .int .i64 draws] w fun e w' => e = .returned (.tuple #[.agg #[.int .i64 m.h, .int .i64 m.cap, .slice none 0 0, .int .i64 m.n, .int .i64 m.draws, .slice none 0 0], .int .i64 r]) ∧ Below w.heap.size w w' := by
  have e' := e.out
  unfold newM at e'
  by_cases h0 : draws = 0
  · rw [if_pos h0] at e'; cases e'
    exact mnew_zero h0 w
  · rw [if_neg h0] at e'
    cases hk : okM (freshM h room draws)
    · rw [hk] at e'; cases e'
      exact mnew_no h0 (mkHid (by rw [hk]; rfl)) w
    · rw [hk, if_pos rfl] at e'; cases e'
      exact mnew_yes h0 (mkHid (by rw [hk]; rfl)) w

set_option maxRecDepth 100000 in
set_option maxHeartbeats 4000000 in
theorem mmay_bad {m : ModD} {i : Nat} {n : Int} (e : Hid ((if okM m then (0 : Int) else 1) = 1)) (A : Option Addr) (c : Nat) (B : Option Addr) (d : Nat) (w : World) (hM : MemM w A c B d m) :
    Calls Try.prog 30 #[.agg #[.int .i64 m.h, .int .i64 m.cap, .slice A m.l.length c, .int .i64 m.n, .int .i64 m.draws, .slice B m.sent.length d], .int .u64 (i : Int), .int .i64 n] w fun e w' => e = .returned (.tuple #[.bool false, .int .i64 1]) ∧ Below w.heap.size w w' := by
  skip
  have ZX : Hid (Blk (w.alloc (.cells #[.int .i64 m.h, .int .i64 m.cap, .slice A m.l.length c, .int .i64 m.n, .int .i64 m.draws, .slice B m.sent.length d] 45)) w.heap.size 45 #[.int .i64 m.h, .int .i64 m.cap, .slice A m.l.length c, .int .i64 m.n, .int .i64 m.draws, .slice B m.sent.length d]) := mkHid (Blk.new _ _ _)
  have KB : Hid (Below w.heap.size w (w.alloc (.cells #[.int .i64 m.h, .int .i64 m.cap, .slice A m.l.length c, .int .i64 m.n, .int .i64 m.draws, .slice B m.sent.length d] 45))) := mkHid ((Below.refl _ _).alloc (Nat.le_refl _) _)
  have HM := mkHid (hM.below ((Below.refl _ _).alloc (Nat.le_refl _) (.cells #[.int .i64 m.h, .int .i64 m.cap, .slice A m.l.length c, .int .i64 m.n, .int .i64 m.draws, .slice B m.sent.length d] 45)))
  clear hM
  have cZX := ZX.out.six
  have lZX := ZX.out.lt
  go_enter Try.func30, Try.ntmps30
  go_wp2_with fail
  refine (mchk e _ _ _ _ _ HM.out).mono ?_
  rintro e w1 ⟨rfl, hb1⟩
  replace ZX := mkHid (ZX.out.keep hb1)
  replace KB := mkHid (KB.out.step hb1)
  replace HM := mkHid (HM.out.below hb1)
  clear cZX lZX
  have cZX := ZX.out.six
  have lZX := ZX.out.lt
  clear hb1
  go_wp2_with fail
  go_ret2
  exact ⟨by simp, KB.out⟩

set_option maxRecDepth 100000 in
set_option maxHeartbeats 4000000 in
theorem mmay_low {m : ModD} {i : Nat} {n : Int} (e : Hid ((if okM m then (0 : Int) else 1) = 0)) (h0 : n < 1) (A : Option Addr) (c : Nat) (B : Option Addr) (d : Nat) (w : World) (hM : MemM w A c B d m) :
    Calls Try.prog 30 #[.agg #[.int .i64 m.h, .int .i64 m.cap, .slice A m.l.length c, .int .i64 m.n, .int .i64 m.draws, .slice B m.sent.length d], .int .u64 (i : Int), .int .i64 n] w fun e w' => e = .returned (.tuple #[.bool false, .int .i64 1]) ∧ Below w.heap.size w w' := by
  have t0 : decide (n < (1 : Int)) = true := decide_eq_true h0
  have ZX : Hid (Blk (w.alloc (.cells #[.int .i64 m.h, .int .i64 m.cap, .slice A m.l.length c, .int .i64 m.n, .int .i64 m.draws, .slice B m.sent.length d] 45)) w.heap.size 45 #[.int .i64 m.h, .int .i64 m.cap, .slice A m.l.length c, .int .i64 m.n, .int .i64 m.draws, .slice B m.sent.length d]) := mkHid (Blk.new _ _ _)
  have KB : Hid (Below w.heap.size w (w.alloc (.cells #[.int .i64 m.h, .int .i64 m.cap, .slice A m.l.length c, .int .i64 m.n, .int .i64 m.draws, .slice B m.sent.length d] 45))) := mkHid ((Below.refl _ _).alloc (Nat.le_refl _) _)
  have HM := mkHid (hM.below ((Below.refl _ _).alloc (Nat.le_refl _) (.cells #[.int .i64 m.h, .int .i64 m.cap, .slice A m.l.length c, .int .i64 m.n, .int .i64 m.draws, .slice B m.sent.length d] 45)))
  clear hM
  have cZX := ZX.out.six
  have lZX := ZX.out.lt
  go_enter Try.func30, Try.ntmps30
  go_wp2_with fail
  refine (mchk e _ _ _ _ _ HM.out).mono ?_
  rintro e w1 ⟨rfl, hb1⟩
  replace ZX := mkHid (ZX.out.keep hb1)
  replace KB := mkHid (KB.out.step hb1)
  replace HM := mkHid (HM.out.below hb1)
  clear cZX lZX
  have cZX := ZX.out.six
  have lZX := ZX.out.lt
  clear hb1
  go_wp2_with fail
  go_ret2
  exact ⟨by simp, KB.out⟩

set_option maxRecDepth 100000 in
set_option maxHeartbeats 4000000 in
theorem mmay_high {m : ModD} {i : Nat} {n : Int} (e : Hid ((if okM m then (0 : Int) else 1) = 0)) (h0 : ¬ n < 1) (h1 : (m.sent.length : Int) < n) (A : Option Addr) (c : Nat) (B : Option Addr) (d : Nat) (w : World) (hM : MemM w A c B d m) :
    Calls Try.prog 30 #[.agg #[.int .i64 m.h, .int .i64 m.cap, .slice A m.l.length c, .int .i64 m.n, .int .i64 m.draws, .slice B m.sent.length d], .int .u64 (i : Int), .int .i64 n] w fun e w' => e = .returned (.tuple #[.bool false, .int .i64 1]) ∧ Below w.heap.size w w' := by
  have t0 : decide (n < (1 : Int)) = false := decide_eq_false h0
  have t1 : decide ((m.sent.length : Int) < n) = true := decide_eq_true h1
  have ZX : Hid (Blk (w.alloc (.cells #[.int .i64 m.h, .int .i64 m.cap, .slice A m.l.length c, .int .i64 m.n, .int .i64 m.draws, .slice B m.sent.length d] 45)) w.heap.size 45 #[.int .i64 m.h, .int .i64 m.cap, .slice A m.l.length c, .int .i64 m.n, .int .i64 m.draws, .slice B m.sent.length d]) := mkHid (Blk.new _ _ _)
  have KB : Hid (Below w.heap.size w (w.alloc (.cells #[.int .i64 m.h, .int .i64 m.cap, .slice A m.l.length c, .int .i64 m.n, .int .i64 m.draws, .slice B m.sent.length d] 45))) := mkHid ((Below.refl _ _).alloc (Nat.le_refl _) _)
  have HM := mkHid (hM.below ((Below.refl _ _).alloc (Nat.le_refl _) (.cells #[.int .i64 m.h, .int .i64 m.cap, .slice A m.l.length c, .int .i64 m.n, .int .i64 m.draws, .slice B m.sent.length d] 45)))
  clear hM
  have cZX := ZX.out.six
  have lZX := ZX.out.lt
  go_enter Try.func30, Try.ntmps30
  go_wp2_with fail
  refine (mchk e _ _ _ _ _ HM.out).mono ?_
  rintro e w1 ⟨rfl, hb1⟩
  replace ZX := mkHid (ZX.out.keep hb1)
  replace KB := mkHid (KB.out.step hb1)
  replace HM := mkHid (HM.out.below hb1)
  clear cZX lZX
  have cZX := ZX.out.six
  have lZX := ZX.out.lt
  clear hb1
  go_wp2_with fail
  go_ret2
  exact ⟨by simp, KB.out⟩

set_option linter.unusedSimpArgs false in
set_option maxRecDepth 100000 in
set_option maxHeartbeats 4000000 in
theorem mmay_yes {m : ModD} {i j : Nat} (hj : j < m.sent.length) {z : Bool} (e : Hid ((if okM m then (0 : Int) else 1) = 0)) (f : Hid (hasAll m.h m.sent[j].out i = (z, 0))) (A : Option Addr) (c : Nat) (B : Option Addr) (d : Nat) (w : World) (hM : MemM w A c B d m) :
    Calls Try.prog 30 #[.agg #[.int .i64 m.h, .int .i64 m.cap, .slice A m.l.length c, .int .i64 m.n, .int .i64 m.draws, .slice B m.sent.length d], .int .u64 (i : Int), .int .i64 ((j : Int) + 1)] w fun e w' => e = .returned (.tuple #[.bool (!z), .int .i64 0]) ∧ Below w.heap.size w w' := by
  have t0 : decide ((j : Int) + 1 < (1 : Int)) = false := decide_eq_false (by omega)
  have t1 : decide ((m.sent.length : Int) < (j : Int) + 1) = false := decide_eq_false (by omega)
  obtain ⟨S, hS⟩ : ∃ S, m.sent[j] = S := ⟨_, rfl⟩
  rw [hS] at f
  have HS := mkHid hS
  clear hS
  have hwj : IntKind.i64.wrap (j : Int) = (j : Int) := by rw [IntKind.wrap_i64]; have := hM.short.1; omega
  have ZX : Hid (Blk (w.alloc (.cells #[.int .i64 m.h, .int .i64 m.cap, .slice A m.l.length c, .int .i64 m.n, .int .i64 m.draws, .slice B m.sent.length d] 45)) w.heap.size 45 #[.int .i64 m.h, .int .i64 m.cap, .slice A m.l.length c, .int .i64 m.n, .int .i64 m.draws, .slice B m.sent.length d]) := mkHid (Blk.new _ _ _)
  have KB : Hid (Below w.heap.size w (w.alloc (.cells #[.int .i64 m.h, .int .i64 m.cap, .slice A m.l.length c, .int .i64 m.n, .int .i64 m.draws, .slice B m.sent.length d] 45))) := mkHid ((Below.refl _ _).alloc (Nat.le_refl _) _)
  have HM := mkHid (hM.below ((Below.refl _ _).alloc (Nat.le_refl _) (.cells #[.int .i64 m.h, .int .i64 m.cap, .slice A m.l.length c, .int .i64 m.n, .int .i64 m.draws, .slice B m.sent.length d] 45)))
  clear hM
  have cZX := ZX.out.six
  have lZX := ZX.out.lt
  go_enter Try.func30, Try.ntmps30
  go_wp2_with fail
  refine (mchk e _ _ _ _ _ HM.out).mono ?_
  rintro e w1 ⟨rfl, hb1⟩
  replace ZX := mkHid (ZX.out.keep hb1)
  replace KB := mkHid (KB.out.step hb1)
  replace HM := mkHid (HM.out.below hb1)
  clear cZX lZX
  have cZX := ZX.out.six
  have lZX := ZX.out.lt
  clear hb1
  go_wp2_with fail
  obtain ⟨b, off, eB, A2, c2, e0, _, _, hR, _⟩ := HM.out.sents j hj
  rw [HS.out] at e0 hR
  subst eB
  have HR := mkHid hR
  clear hR
  have k0 := cZX.1
  have k5 := cZX.2.2.2.2.2
  clear cZX
  have HR' := HR.out.below (Below.drew (Below.refl _ w1))
  have KB' := KB.out.drew
  clear HR KB HM
  refine wp_region_held_drew (S := fun w' => Reads w' A2 S.out ∧ Below w.heap.size w w' ∧ w'.cell? ⟨w.heap.size, 0, none⟩ = some (.int .i64 m.h) ∧ w'.cell? ⟨w.heap.size, 5, none⟩ = some (.slice (some ⟨b, off, none⟩) m.sent.length d) ∧ w'.cell? ⟨b, off + j * 4, none⟩ = some (.slice A2 S.out.length c2)) (by kernel_rfl) ?_ (fun hHeld => ?_)
  · ((try dsimp only); (try go_split_ands); refine ⟨?_, ?_, ?_, ?_, ?_⟩ <;> assumption)
  refine wpAnyH_take (i := 0) (v := ?_) rfl (by kernel_rfl) (by kernel_rfl) (by kernel_rfl) (fun _ _ _ h => h) (Or.inl ⟨by rfl, ?_⟩) hHeld ?_
  rotate_left
  · intro w hSw
    (try dsimp only at hSw)
    go_simp
    all_goals with_reducible rfl
  try simp only [List.getElem_toArray, List.getElem_cons_succ, List.getElem_cons_zero, Act.put, List.setIfInBounds_toArray, List.set_cons_zero, List.set_cons_succ]
  refine wpAnyH_take (i := 1) (v := ?_) rfl (by kernel_rfl) (by kernel_rfl) (by kernel_rfl) (fun _ _ _ h => h) (Or.inl ⟨by rfl, ?_⟩) hHeld ?_
  rotate_left
  · intro w hSw
    (try dsimp only at hSw)
    go_simp
    all_goals with_reducible rfl
  try simp only [List.getElem_toArray, List.getElem_cons_succ, List.getElem_cons_zero, Act.put, List.setIfInBounds_toArray, List.set_cons_zero, List.set_cons_succ]
  refine wpAnyH_take (i := 2) (v := ?_) rfl (by kernel_rfl) (by kernel_rfl) (by kernel_rfl) (fun _ _ _ h => h) (Or.inl ⟨by rfl, ?_⟩) hHeld ?_
  rotate_left
  · intro w hSw
    (try dsimp only at hSw)
    go_simp
    all_goals with_reducible rfl
  try simp only [List.getElem_toArray, List.getElem_cons_succ, List.getElem_cons_zero, Act.put, List.setIfInBounds_toArray, List.set_cons_zero, List.set_cons_succ]
  refine wpAnyH_take (i := 3) (v := ?_) rfl (by kernel_rfl) (by kernel_rfl) (by kernel_rfl) (fun _ _ _ h => h) (Or.inl ⟨by rfl, ?_⟩) hHeld ?_
  rotate_left
  · intro w hSw
    (try dsimp only at hSw)
    go_simp
    all_goals with_reducible rfl
  try simp only [List.getElem_toArray, List.getElem_cons_succ, List.getElem_cons_zero, Act.put, List.setIfInBounds_toArray, List.set_cons_zero, List.set_cons_succ]
  refine wpAnyH_take (i := 4) (v := ?_) rfl (by kernel_rfl) (by kernel_rfl) (by kernel_rfl) (fun _ _ _ h => h) (Or.inl ⟨by rfl, ?_⟩) hHeld ?_
  rotate_left
  · intro w hSw
    (try dsimp only at hSw)
    go_simp
    all_goals with_reducible rfl
  try simp only [List.getElem_toArray, List.getElem_cons_succ, List.getElem_cons_zero, Act.put, List.setIfInBounds_toArray, List.set_cons_zero, List.set_cons_succ]
  refine wpAnyH_take (i := 5) (v := ?_) rfl (by kernel_rfl) (by kernel_rfl) (by kernel_rfl) (fun _ _ _ h => h) (Or.inl ⟨by rfl, ?_⟩) hHeld ?_
  rotate_left
  · intro w hSw
    (try dsimp only at hSw)
    go_simp
    all_goals with_reducible rfl
  try simp only [List.getElem_toArray, List.getElem_cons_succ, List.getElem_cons_zero, Act.put, List.setIfInBounds_toArray, List.set_cons_zero, List.set_cons_succ]
  refine wpAnyH_take (i := 6) (v := ?_) rfl (by kernel_rfl) (by kernel_rfl) (by kernel_rfl) (fun _ _ _ h => h) (Or.inl ⟨by rfl, ?_⟩) hHeld ?_
  rotate_left
  · intro w hSw
    (try dsimp only at hSw)
    go_simp
    all_goals with_reducible rfl
  try simp only [List.getElem_toArray, List.getElem_cons_succ, List.getElem_cons_zero, Act.put, List.setIfInBounds_toArray, List.set_cons_zero, List.set_cons_succ]
  refine wpAnyH_take (i := 7) (v := ?_) rfl (by kernel_rfl) (by kernel_rfl) (by kernel_rfl) (fun _ _ _ h => h) (Or.inl ⟨by rfl, ?_⟩) hHeld ?_
  rotate_left
  · intro w hSw
    (try dsimp only at hSw)
    go_simp
    all_goals with_reducible rfl
  try simp only [List.getElem_toArray, List.getElem_cons_succ, List.getElem_cons_zero, Act.put, List.setIfInBounds_toArray, List.set_cons_zero, List.set_cons_succ]
  refine wpAnyH_take (i := 8) (v := ?_) rfl (by kernel_rfl) (by kernel_rfl) (by kernel_rfl) (fun _ _ _ h => h) (Or.inl ⟨by rfl, ?_⟩) hHeld ?_
  rotate_left
  · intro w hSw
    (try dsimp only at hSw)
    go_simp
    all_goals with_reducible rfl
  try simp only [List.getElem_toArray, List.getElem_cons_succ, List.getElem_cons_zero, Act.put, List.setIfInBounds_toArray, List.set_cons_zero, List.set_cons_succ]
  refine wpAnyH_take (i := 9) (v := ?_) rfl (by kernel_rfl) (by kernel_rfl) (by kernel_rfl) (fun _ _ _ h => h) (Or.inl ⟨by rfl, ?_⟩) hHeld ?_
  rotate_left
  · intro w hSw
    (try dsimp only at hSw)
    go_simp
    all_goals with_reducible rfl
  try simp only [List.getElem_toArray, List.getElem_cons_succ, List.getElem_cons_zero, Act.put, List.setIfInBounds_toArray, List.set_cons_zero, List.set_cons_succ]
  refine wpAnyH_ready (rs := [10]) (by kernel_rfl) (by simp) ?_
  refine AllReadyH.cons rfl (fun K hK => ?_) AllReadyH.nil
  go_simp
  go_at_call 43
  (try go_split_ands)
  with_reducible refine (has_all m.h S.out i f _ _ _ (by assumption)).mono ?_
  rintro e w' ⟨rfl, hw'⟩
  obtain rfl := hw'.symm
  clear hw'
  go_wp2_with fail
  refine hK.out _ _ ?_ (fun hHeld => ?_)
  · ((try dsimp only); (try go_split_ands); refine ⟨?_, ?_, ?_, ?_, ?_⟩ <;> assumption)
  clear hK K
  try simp only [List.getElem_toArray, List.getElem_cons_succ, List.getElem_cons_zero, Act.put, List.setIfInBounds_toArray, List.set_cons_zero, List.set_cons_succ]
  refine wpAnyH_take (i := 11) (v := ?_) rfl (by kernel_rfl) (by kernel_rfl) (by kernel_rfl) (fun _ _ _ h => h) (Or.inl ⟨by rfl, ?_⟩) hHeld ?_
  rotate_left
  · intro w hSw
    (try dsimp only at hSw)
    go_simp
    all_goals with_reducible rfl
  try simp only [List.getElem_toArray, List.getElem_cons_succ, List.getElem_cons_zero, Act.put, List.setIfInBounds_toArray, List.set_cons_zero, List.set_cons_succ]
  refine wpAnyH_take (i := 12) (v := ?_) rfl (by kernel_rfl) (by kernel_rfl) (by kernel_rfl) (fun _ _ _ h => h) (Or.inl ⟨by rfl, ?_⟩) hHeld ?_
  rotate_left
  · intro w hSw
    (try dsimp only at hSw)
    go_simp
    all_goals with_reducible rfl
  try simp only [List.getElem_toArray, List.getElem_cons_succ, List.getElem_cons_zero, Act.put, List.setIfInBounds_toArray, List.set_cons_zero, List.set_cons_succ]
  refine wpAnyH_take (i := 13) (v := ?_) rfl (by kernel_rfl) (by kernel_rfl) (by kernel_rfl) (fun _ _ _ h => h) (Or.inl ⟨by rfl, ?_⟩) hHeld ?_
  rotate_left
  · intro w hSw
    (try dsimp only at hSw)
    go_simp
    all_goals with_reducible rfl
  try simp only [List.getElem_toArray, List.getElem_cons_succ, List.getElem_cons_zero, Act.put, List.setIfInBounds_toArray, List.set_cons_zero, List.set_cons_succ]
  refine wpAnyH_take (i := 14) (v := ?_) rfl (by kernel_rfl) (by kernel_rfl) (by kernel_rfl) (fun _ _ _ h => h) (Or.inl ⟨by rfl, ?_⟩) hHeld ?_
  rotate_left
  · intro w hSw
    (try dsimp only at hSw)
    go_simp
    all_goals with_reducible rfl
  try simp only [List.getElem_toArray, List.getElem_cons_succ, List.getElem_cons_zero, Act.put, List.setIfInBounds_toArray, List.set_cons_zero, List.set_cons_succ]
  refine wpAnyH_take (i := 15) (v := ?_) rfl (by kernel_rfl) (by kernel_rfl) (by kernel_rfl) (fun _ _ _ h => h) (Or.inl ⟨by rfl, ?_⟩) hHeld ?_
  rotate_left
  · intro w hSw
    (try dsimp only at hSw)
    go_simp
    all_goals with_reducible rfl
  try simp only [List.getElem_toArray, List.getElem_cons_succ, List.getElem_cons_zero, Act.put, List.setIfInBounds_toArray, List.set_cons_zero, List.set_cons_succ]
  refine wpAnyH_done (by kernel_rfl) ?_ _
  go_wp2_with fail
  go_ret2
  exact ⟨by simp, by assumption⟩

set_option linter.unusedSimpArgs false in
set_option maxRecDepth 100000 in
set_option maxHeartbeats 4000000 in
theorem mmay_no {m : ModD} {i j : Nat} (hj : j < m.sent.length) (e : Hid ((if okM m then (0 : Int) else 1) = 0)) (f : Hid (hasAll m.h m.sent[j].out i = (false, 1))) (A : Option Addr) (c : Nat) (B : Option Addr) (d : Nat) (w : World) (hM : MemM w A c B d m) :
    Calls Try.prog 30 #[.agg #[.int .i64 m.h, .int .i64 m.cap, .slice A m.l.length c, .int .i64 m.n, .int .i64 m.draws, .slice B m.sent.length d], .int .u64 (i : Int), .int .i64 ((j : Int) + 1)] w fun e w' => e = .returned (.tuple #[.bool false, .int .i64 1]) ∧ Below w.heap.size w w' := by
  have t0 : decide ((j : Int) + 1 < (1 : Int)) = false := decide_eq_false (by omega)
  have t1 : decide ((m.sent.length : Int) < (j : Int) + 1) = false := decide_eq_false (by omega)
  obtain ⟨S, hS⟩ : ∃ S, m.sent[j] = S := ⟨_, rfl⟩
  rw [hS] at f
  have HS := mkHid hS
  clear hS
  have hwj : IntKind.i64.wrap (j : Int) = (j : Int) := by rw [IntKind.wrap_i64]; have := hM.short.1; omega
  have ZX : Hid (Blk (w.alloc (.cells #[.int .i64 m.h, .int .i64 m.cap, .slice A m.l.length c, .int .i64 m.n, .int .i64 m.draws, .slice B m.sent.length d] 45)) w.heap.size 45 #[.int .i64 m.h, .int .i64 m.cap, .slice A m.l.length c, .int .i64 m.n, .int .i64 m.draws, .slice B m.sent.length d]) := mkHid (Blk.new _ _ _)
  have KB : Hid (Below w.heap.size w (w.alloc (.cells #[.int .i64 m.h, .int .i64 m.cap, .slice A m.l.length c, .int .i64 m.n, .int .i64 m.draws, .slice B m.sent.length d] 45))) := mkHid ((Below.refl _ _).alloc (Nat.le_refl _) _)
  have HM := mkHid (hM.below ((Below.refl _ _).alloc (Nat.le_refl _) (.cells #[.int .i64 m.h, .int .i64 m.cap, .slice A m.l.length c, .int .i64 m.n, .int .i64 m.draws, .slice B m.sent.length d] 45)))
  clear hM
  have cZX := ZX.out.six
  have lZX := ZX.out.lt
  go_enter Try.func30, Try.ntmps30
  go_wp2_with fail
  refine (mchk e _ _ _ _ _ HM.out).mono ?_
  rintro e w1 ⟨rfl, hb1⟩
  replace ZX := mkHid (ZX.out.keep hb1)
  replace KB := mkHid (KB.out.step hb1)
  replace HM := mkHid (HM.out.below hb1)
  clear cZX lZX
  have cZX := ZX.out.six
  have lZX := ZX.out.lt
  clear hb1
  go_wp2_with fail
  obtain ⟨b, off, eB, A2, c2, e0, _, _, hR, _⟩ := HM.out.sents j hj
  rw [HS.out] at e0 hR
  subst eB
  have HR := mkHid hR
  clear hR
  have k0 := cZX.1
  have k5 := cZX.2.2.2.2.2
  clear cZX
  have HR' := HR.out.below (Below.drew (Below.refl _ w1))
  have KB' := KB.out.drew
  clear HR KB HM
  refine wp_region_held_drew (S := fun w' => Reads w' A2 S.out ∧ Below w.heap.size w w' ∧ w'.cell? ⟨w.heap.size, 0, none⟩ = some (.int .i64 m.h) ∧ w'.cell? ⟨w.heap.size, 5, none⟩ = some (.slice (some ⟨b, off, none⟩) m.sent.length d) ∧ w'.cell? ⟨b, off + j * 4, none⟩ = some (.slice A2 S.out.length c2)) (by kernel_rfl) ?_ (fun hHeld => ?_)
  · ((try dsimp only); (try go_split_ands); refine ⟨?_, ?_, ?_, ?_, ?_⟩ <;> assumption)
  refine wpAnyH_take (i := 0) (v := ?_) rfl (by kernel_rfl) (by kernel_rfl) (by kernel_rfl) (fun _ _ _ h => h) (Or.inl ⟨by rfl, ?_⟩) hHeld ?_
  rotate_left
  · intro w hSw
    (try dsimp only at hSw)
    go_simp
    all_goals with_reducible rfl
  try simp only [List.getElem_toArray, List.getElem_cons_succ, List.getElem_cons_zero, Act.put, List.setIfInBounds_toArray, List.set_cons_zero, List.set_cons_succ]
  refine wpAnyH_take (i := 1) (v := ?_) rfl (by kernel_rfl) (by kernel_rfl) (by kernel_rfl) (fun _ _ _ h => h) (Or.inl ⟨by rfl, ?_⟩) hHeld ?_
  rotate_left
  · intro w hSw
    (try dsimp only at hSw)
    go_simp
    all_goals with_reducible rfl
  try simp only [List.getElem_toArray, List.getElem_cons_succ, List.getElem_cons_zero, Act.put, List.setIfInBounds_toArray, List.set_cons_zero, List.set_cons_succ]
  refine wpAnyH_take (i := 2) (v := ?_) rfl (by kernel_rfl) (by kernel_rfl) (by kernel_rfl) (fun _ _ _ h => h) (Or.inl ⟨by rfl, ?_⟩) hHeld ?_
  rotate_left
  · intro w hSw
    (try dsimp only at hSw)
    go_simp
    all_goals with_reducible rfl
  try simp only [List.getElem_toArray, List.getElem_cons_succ, List.getElem_cons_zero, Act.put, List.setIfInBounds_toArray, List.set_cons_zero, List.set_cons_succ]
  refine wpAnyH_take (i := 3) (v := ?_) rfl (by kernel_rfl) (by kernel_rfl) (by kernel_rfl) (fun _ _ _ h => h) (Or.inl ⟨by rfl, ?_⟩) hHeld ?_
  rotate_left
  · intro w hSw
    (try dsimp only at hSw)
    go_simp
    all_goals with_reducible rfl
  try simp only [List.getElem_toArray, List.getElem_cons_succ, List.getElem_cons_zero, Act.put, List.setIfInBounds_toArray, List.set_cons_zero, List.set_cons_succ]
  refine wpAnyH_take (i := 4) (v := ?_) rfl (by kernel_rfl) (by kernel_rfl) (by kernel_rfl) (fun _ _ _ h => h) (Or.inl ⟨by rfl, ?_⟩) hHeld ?_
  rotate_left
  · intro w hSw
    (try dsimp only at hSw)
    go_simp
    all_goals with_reducible rfl
  try simp only [List.getElem_toArray, List.getElem_cons_succ, List.getElem_cons_zero, Act.put, List.setIfInBounds_toArray, List.set_cons_zero, List.set_cons_succ]
  refine wpAnyH_take (i := 5) (v := ?_) rfl (by kernel_rfl) (by kernel_rfl) (by kernel_rfl) (fun _ _ _ h => h) (Or.inl ⟨by rfl, ?_⟩) hHeld ?_
  rotate_left
  · intro w hSw
    (try dsimp only at hSw)
    go_simp
    all_goals with_reducible rfl
  try simp only [List.getElem_toArray, List.getElem_cons_succ, List.getElem_cons_zero, Act.put, List.setIfInBounds_toArray, List.set_cons_zero, List.set_cons_succ]
  refine wpAnyH_take (i := 6) (v := ?_) rfl (by kernel_rfl) (by kernel_rfl) (by kernel_rfl) (fun _ _ _ h => h) (Or.inl ⟨by rfl, ?_⟩) hHeld ?_
  rotate_left
  · intro w hSw
    (try dsimp only at hSw)
    go_simp
    all_goals with_reducible rfl
  try simp only [List.getElem_toArray, List.getElem_cons_succ, List.getElem_cons_zero, Act.put, List.setIfInBounds_toArray, List.set_cons_zero, List.set_cons_succ]
  refine wpAnyH_take (i := 7) (v := ?_) rfl (by kernel_rfl) (by kernel_rfl) (by kernel_rfl) (fun _ _ _ h => h) (Or.inl ⟨by rfl, ?_⟩) hHeld ?_
  rotate_left
  · intro w hSw
    (try dsimp only at hSw)
    go_simp
    all_goals with_reducible rfl
  try simp only [List.getElem_toArray, List.getElem_cons_succ, List.getElem_cons_zero, Act.put, List.setIfInBounds_toArray, List.set_cons_zero, List.set_cons_succ]
  refine wpAnyH_take (i := 8) (v := ?_) rfl (by kernel_rfl) (by kernel_rfl) (by kernel_rfl) (fun _ _ _ h => h) (Or.inl ⟨by rfl, ?_⟩) hHeld ?_
  rotate_left
  · intro w hSw
    (try dsimp only at hSw)
    go_simp
    all_goals with_reducible rfl
  try simp only [List.getElem_toArray, List.getElem_cons_succ, List.getElem_cons_zero, Act.put, List.setIfInBounds_toArray, List.set_cons_zero, List.set_cons_succ]
  refine wpAnyH_take (i := 9) (v := ?_) rfl (by kernel_rfl) (by kernel_rfl) (by kernel_rfl) (fun _ _ _ h => h) (Or.inl ⟨by rfl, ?_⟩) hHeld ?_
  rotate_left
  · intro w hSw
    (try dsimp only at hSw)
    go_simp
    all_goals with_reducible rfl
  try simp only [List.getElem_toArray, List.getElem_cons_succ, List.getElem_cons_zero, Act.put, List.setIfInBounds_toArray, List.set_cons_zero, List.set_cons_succ]
  refine wpAnyH_ready (rs := [10]) (by kernel_rfl) (by simp) ?_
  refine AllReadyH.cons rfl (fun K hK => ?_) AllReadyH.nil
  go_simp
  go_at_call 43
  (try go_split_ands)
  with_reducible refine (has_all m.h S.out i f _ _ _ (by assumption)).mono ?_
  rintro e w' ⟨rfl, hw'⟩
  obtain rfl := hw'.symm
  clear hw'
  go_wp2_with fail
  refine hK.out _ _ ?_ (fun hHeld => ?_)
  · ((try dsimp only); (try go_split_ands); refine ⟨?_, ?_, ?_, ?_, ?_⟩ <;> assumption)
  clear hK K
  try simp only [List.getElem_toArray, List.getElem_cons_succ, List.getElem_cons_zero, Act.put, List.setIfInBounds_toArray, List.set_cons_zero, List.set_cons_succ]
  refine wpAnyH_take (i := 11) (v := ?_) rfl (by kernel_rfl) (by kernel_rfl) (by kernel_rfl) (fun _ _ _ h => h) (Or.inl ⟨by rfl, ?_⟩) hHeld ?_
  rotate_left
  · intro w hSw
    (try dsimp only at hSw)
    go_simp
    all_goals with_reducible rfl
  try simp only [List.getElem_toArray, List.getElem_cons_succ, List.getElem_cons_zero, Act.put, List.setIfInBounds_toArray, List.set_cons_zero, List.set_cons_succ]
  refine wpAnyH_take (i := 12) (v := ?_) rfl (by kernel_rfl) (by kernel_rfl) (by kernel_rfl) (fun _ _ _ h => h) (Or.inl ⟨by rfl, ?_⟩) hHeld ?_
  rotate_left
  · intro w hSw
    (try dsimp only at hSw)
    go_simp
    all_goals with_reducible rfl
  try simp only [List.getElem_toArray, List.getElem_cons_succ, List.getElem_cons_zero, Act.put, List.setIfInBounds_toArray, List.set_cons_zero, List.set_cons_succ]
  refine wpAnyH_take (i := 13) (v := ?_) rfl (by kernel_rfl) (by kernel_rfl) (by kernel_rfl) (fun _ _ _ h => h) (Or.inl ⟨by rfl, ?_⟩) hHeld ?_
  rotate_left
  · intro w hSw
    (try dsimp only at hSw)
    go_simp
    all_goals with_reducible rfl
  try simp only [List.getElem_toArray, List.getElem_cons_succ, List.getElem_cons_zero, Act.put, List.setIfInBounds_toArray, List.set_cons_zero, List.set_cons_succ]
  refine wpAnyH_take (i := 14) (v := ?_) rfl (by kernel_rfl) (by kernel_rfl) (by kernel_rfl) (fun _ _ _ h => h) (Or.inl ⟨by rfl, ?_⟩) hHeld ?_
  rotate_left
  · intro w hSw
    (try dsimp only at hSw)
    go_simp
    all_goals with_reducible rfl
  try simp only [List.getElem_toArray, List.getElem_cons_succ, List.getElem_cons_zero, Act.put, List.setIfInBounds_toArray, List.set_cons_zero, List.set_cons_succ]
  refine wpAnyH_take (i := 15) (v := ?_) rfl (by kernel_rfl) (by kernel_rfl) (by kernel_rfl) (fun _ _ _ h => h) (Or.inl ⟨by rfl, ?_⟩) hHeld ?_
  rotate_left
  · intro w hSw
    (try dsimp only at hSw)
    go_simp
    all_goals with_reducible rfl
  try simp only [List.getElem_toArray, List.getElem_cons_succ, List.getElem_cons_zero, Act.put, List.setIfInBounds_toArray, List.set_cons_zero, List.set_cons_succ]
  refine wpAnyH_done (by kernel_rfl) ?_ _
  go_wp2_with fail
  go_ret2
  exact ⟨by simp, by assumption⟩

/-- what May answers -/
def mayM (m : ModD) (i : Nat) (n : Int) : Bool × Int :=
  if okM m ∧ 1 ≤ n then match m.sent[(n - 1).toNat]? with
    | some s => (decide ((hasAll m.h s.out i).2 = 0) && !(hasAll m.h s.out i).1, (hasAll m.h s.out i).2)
    | none => (false, 1)
  else (false, 1)
theorem okM_or (m : ModD) : (if okM m then (0 : Int) else 1) = 0 ∨ (if okM m then (0 : Int) else 1) = 1 := by cases okM m <;> simp
theorem mmay {m : ModD} {i : Nat} {n : Int} {z : Bool} {r : Int} (e : Hid (mayM m i n = (z, r))) (A : Option Addr) (c : Nat) (B : Option Addr) (d : Nat) (w : World) (hM : MemM w A c B d m) :
    Calls Try.prog 30 #[.agg #[.int .i64 m.h, .int .i64 m.cap, .slice A m.l.length c, .int .i64 m.n, .int .i64 m.draws, .slice B m.sent.length d], .int .u64 (i : Int), .int .i64 n] w fun e w' => e = .returned (.tuple #[.bool z, .int .i64 r]) ∧ Below w.heap.size w w' := by
  have e' := e.out
  unfold mayM at e'
  cases hk : okM m
  · rw [hk, if_neg (by simp)] at e'
    cases e'
    exact mmay_bad (mkHid (by rw [hk]; rfl)) A c B d w hM
  · rw [hk] at e'
    have hk' : Hid ((if okM m then (0 : Int) else 1) = 0) := mkHid (by rw [hk]; rfl)
    by_cases h0 : n < 1
    · rw [if_neg (by omega)] at e'
      cases e'
      exact mmay_low hk' h0 A c B d w hM
    · rw [if_pos ⟨rfl, by omega⟩] at e'
      by_cases h1 : (m.sent.length : Int) < n
      · rw [List.getElem?_eq_none (by omega)] at e'
        cases e'
        exact mmay_high hk' h0 h1 A c B d w hM
      · obtain ⟨j, rfl⟩ : ∃ j : Nat, n = (j : Int) + 1 := ⟨(n - 1).toNat, by omega⟩
        have hj : j < m.sent.length := by omega
        rw [show ((j : Int) + 1 - 1).toNat = j by omega, List.getElem?_eq_getElem hj] at e'
        dsimp only at e'
        rcases hasAll_or m.h m.sent[j].out i with ha | ⟨k, _, _, _, _, _, ha⟩
        · rw [ha] at e'
          cases e'
          exact mmay_no hj hk' (mkHid ha) A c B d w hM
        · rw [ha] at e'
          cases e'
          exact mmay_yes hj hk' (mkHid ha) A c B d w hM
end Go.Proofs.Ytmehbonjpmlmfaa

namespace Go.Proofs.Ytmehbonjpmlmfaa
open Go.RowKit

/-- at the address there are these cells, one behind the other -/
def RowAt (w : World) (A : Option Addr) (cs : List Value) : Prop := ∀ j u, cs[j]? = some u → ∃ ad, A = some ad ∧ w.cell? (ad.add j) = some u
theorem RowAt.below {w w1 : World} {A : Option Addr} {cs : List Value} (h : RowAt w A cs) (hb : Below w.heap.size w w1) : RowAt w1 A cs := fun j u hj => by
  obtain ⟨ad, e, c⟩ := h j u hj
  exact ⟨ad, e, keeps hb c⟩
theorem RowAt.some {w : World} {ad : Addr} {cs : List Value} (h : RowAt w (some ad) cs) : ∀ j u, cs[j]? = Option.some u → w.cell? (ad.add j) = Option.some u := fun j u hj => by
  obtain ⟨ad', e, c⟩ := h j u hj
  cases e
  exact c
theorem RowAt.none_nil {w : World} {cs : List Value} (h : RowAt w none cs) : cs = [] := by
  cases cs with
  | nil => rfl
  | cons x l =>
    obtain ⟨ad, e, _⟩ := h 0 x rfl
    cases e
theorem RowAt.nil (w : World) (A : Option Addr) : RowAt w A [] := fun j u hj => by simp at hj
theorem RowAt.of_own {w : World} {base : Nat} {e : TypeId} {size n : Nat} {v : Value} {cs : List Value} (h : w.ownsRow base e size v n cs) : ∃ A c, v = .slice A n c ∧ n ≤ c ∧ c ≤ maxLen ∧ RowAt w A cs ∧ (A = none → c = 0) ∧ (∀ g, A = Option.some g → ∃ b, g = ⟨b, 0, none⟩ ∧ base ≤ b ∧ b < w.heap.size) := by
  rcases h.2 with ⟨rfl, h0⟩ | ⟨g, cap, cur, rfl, hb, hg, h1, h2, _⟩
  · subst h0
    have hl := h.1
    obtain rfl : cs = [] := List.length_eq_zero_iff.1 (by omega)
    exact ⟨none, 0, rfl, Nat.le_refl _, Nat.zero_le _, RowAt.nil _ _, fun _ => rfl, fun _ e => by cases e⟩
  · exact ⟨_, cap, rfl, h1, h2, fun j u hj => ⟨_, rfl, h.cells (g := g) rfl j u hj⟩, fun e => (by cases e), fun g' e => by cases e; exact ⟨g, rfl, hb, (Array.getElem?_eq_some_iff.1 hg).1⟩⟩
end Go.Proofs.Ytmehbonjpmlmfaa

namespace Go.Proofs.Ytmehbonjpmlmfaa
open Go.RowKit

/-- what was sent, with where its list lies -/
structure SX where
  a : Option Addr
  c : Nat
  s : SentD
def sxCells (x : SX) : List Value := [.slice x.a x.s.out.length x.c, .int .i64 (x.s.draw : Int), .int .u64 (x.s.p.1.toNat : Int), .int .u64 (x.s.p.2.toNat : Int)]
def sentCells (X : List SX) : List Value := X.flatMap sxCells
theorem sentCells_length (X : List SX) : (sentCells X).length = X.length * 4 := by
  induction X with
  | nil => rfl
  | cons x X ih =>
    have e : sentCells (x :: X) = sxCells x ++ sentCells X := rfl
    rw [e, List.length_append, ih, List.length_cons]
    have : (sxCells x).length = 4 := rfl
    omega
theorem sentCells_append (X Y : List SX) : sentCells (X ++ Y) = sentCells X ++ sentCells Y := by simp [sentCells]
theorem sentCells_one (X : List SX) : ∀ u ∈ sentCells X, u.oneCell' = true := by
  intro u hu
  obtain ⟨x, _, h⟩ := List.mem_flatMap.1 hu
  simp only [sxCells, List.mem_cons, List.not_mem_nil, or_false] at h
  rcases h with rfl | rfl | rfl | rfl <;> rfl
theorem sentCells_get (X : List SX) : ∀ i (hi : i < X.length) (k : Nat), k < 4 → (sentCells X)[i * 4 + k]? = (sxCells X[i])[k]? := by
  induction X with
  | nil => intro i hi; simp at hi
  | cons x X ih =>
    intro i hi k hk
    have e : sentCells (x :: X) = sxCells x ++ sentCells X := rfl
    have l : (sxCells x).length = 4 := rfl
    rw [e]
    cases i with
    | zero => rw [List.getElem?_append_left (by omega)]; simp
    | succ i =>
      rw [List.getElem?_append_right (by omega), l, show (i + 1) * 4 + k - 4 = i * 4 + k by omega]
      simpa using ih i (by simpa using hi) k hk
/-- what is known of the lists behind -/
structure SXok (w : World) (x : SX) : Prop where
  l1 : x.s.out.length ≤ x.c
  l2 : x.c ≤ maxLen
  reads : Reads w x.a x.s.out
  nil : x.a = none → x.c = 0
theorem addr_add (b off j : Nat) : (⟨b, off, none⟩ : Addr).add j = ⟨b, off + j, none⟩ := by unfold Addr.add; split <;> simp_all
/-- rows out of what is known of each -/
theorem SentIn.rows {w : World} : ∀ {S : List SentD} {b off : Nat}, (∀ i (hi : i < S.length), SentAt w b off i S[i]) → ∃ X : List SX, X.map (·.s) = S ∧ (∀ x ∈ X, SXok w x) ∧ ∀ j u, (sentCells X)[j]? = some u → w.cell? ⟨b, off + j, none⟩ = some u
  | [], b, off, _ => ⟨[], rfl, fun x hx => by simp at hx, fun j u hj => by simp [sentCells] at hj⟩
  | s :: S, b, off, h => by
    obtain ⟨X, e, hX, hc⟩ := SentIn.rows (w := w) (S := S) (b := b) (off := off + 4) fun i hi => by
      have := h (i + 1) (by simpa using hi)
      simp only [List.getElem_cons_succ] at this
      obtain ⟨A, c, h0, h1, h2, h3, h4, h5, h6, h7⟩ := this
      refine ⟨A, c, ?_, h1, h2, h3, h4, ?_, ?_, ?_⟩
      · rw [show off + 4 + i * 4 = off + (i + 1) * 4 by omega]; exact h0
      · rw [show off + 4 + i * 4 = off + (i + 1) * 4 by omega]; exact h5
      · rw [show off + 4 + i * 4 = off + (i + 1) * 4 by omega]; exact h6
      · rw [show off + 4 + i * 4 = off + (i + 1) * 4 by omega]; exact h7
    obtain ⟨A, c, h0, h1, h2, h3, h4, h5, h6, h7⟩ := h 0 (by simp)
    simp only [List.getElem_cons_zero, Nat.zero_mul, Nat.add_zero] at h0 h1 h3 h5 h6 h7
    refine ⟨⟨A, c, s⟩ :: X, by rw [List.map_cons, e], ?_, ?_⟩
    · intro x hx
      rcases List.mem_cons.1 hx with rfl | hx
      · exact ⟨h1, h2, h3, h4⟩
      · exact hX x hx
    · intro j u hj
      have e2 : sentCells (⟨A, c, s⟩ :: X) = sxCells ⟨A, c, s⟩ ++ sentCells X := rfl
      have l : (sxCells ⟨A, c, s⟩).length = 4 := rfl
      rw [e2] at hj
      by_cases hj4 : j < 4
      · rw [List.getElem?_append_left (by omega)] at hj
        match j, hj4, hj with
        | 0, _, hj => simp only [sxCells, List.getElem?_cons_zero, Option.some.injEq] at hj; rw [← hj]; exact h0
        | 1, _, hj => simp only [sxCells, List.getElem?_cons_succ, List.getElem?_cons_zero, Option.some.injEq] at hj; rw [← hj]; exact h5
        | 2, _, hj => simp only [sxCells, List.getElem?_cons_succ, List.getElem?_cons_zero, Option.some.injEq] at hj; rw [← hj]; exact h6
        | 3, _, hj => simp only [sxCells, List.getElem?_cons_succ, List.getElem?_cons_zero, Option.some.injEq] at hj; rw [← hj]; exact h7
      · rw [List.getElem?_append_right (by omega), l] at hj
        have := hc _ _ hj
        rw [show off + 4 + (j - 4) = off + j by omega] at this
        exact this
theorem SentIn.toRows {w : World} {B : Option Addr} {S : List SentD} (h : SentIn w B S) : ∃ X : List SX, X.map (·.s) = S ∧ (∀ x ∈ X, SXok w x) ∧ RowAt w B (sentCells X) := by
  cases S with
  | nil => exact ⟨[], rfl, fun x hx => by simp at hx, RowAt.nil _ _⟩
  | cons s S =>
    obtain ⟨b, off, rfl, _⟩ := h 0 (by simp)
    obtain ⟨X, e, hX, hc⟩ := SentIn.rows (w := w) (S := s :: S) (b := b) (off := off) fun i hi => by
      obtain ⟨b', off', e, h'⟩ := h i hi
      cases e
      exact h'
    exact ⟨X, e, hX, fun j u hj => ⟨_, rfl, by rw [addr_add]; exact hc j u hj⟩⟩
/-- and back -/
theorem SentIn.ofRows {w : World} {X : List SX} {A : Option Addr} (hr : RowAt w A (sentCells X)) (hA : ∀ g, A = some g → g.spot = none) (hX : ∀ x ∈ X, SXok w x) : SentIn w A (X.map (·.s)) := fun i hi => by
  rw [List.length_map] at hi
  have g0 := sentCells_get X i hi 0 (by omega)
  have g1 := sentCells_get X i hi 1 (by omega)
  have g2 := sentCells_get X i hi 2 (by omega)
  have g3 := sentCells_get X i hi 3 (by omega)
  simp only [sxCells, List.getElem?_cons_succ, List.getElem?_cons_zero, Nat.add_zero] at g0 g1 g2 g3
  obtain ⟨ad, rfl, c0⟩ := hr _ _ g0
  have c1 := hr.some _ _ g1
  have c2 := hr.some _ _ g2
  have c3 := hr.some _ _ g3
  obtain ⟨b, off, sp⟩ := ad
  have : sp = none := hA _ rfl
  subst this
  rw [addr_add] at c0 c1 c2 c3
  have k := hX X[i] (List.getElem_mem hi)
  refine ⟨b, off, rfl, X[i].a, X[i].c, ?_, ?_, k.l2, ?_, k.nil, ?_, ?_, ?_⟩ <;> rw [List.getElem_map]
  · exact c0
  · exact k.l1
  · exact k.reads
  · exact c1
  · exact c2
  · exact c3

theorem info_csent : (Try.prog.info? 66).map (fun i => (i.zero, i.size, i.bytes)) = some (some (.agg #[.slice none 0 0, .int .i64 0, .int .u64 0, .int .u64 0]), 4, 48) := by kernel_rfl
set_option maxRecDepth 100000 in
set_option maxHeartbeats 2000000 in
theorem csent_some (ad : Addr) (n c : Nat) (cs : List Value) (hl : cs.length = n * 4) (hn : n ≤ 1048576) (h1 : ∀ u ∈ cs, u.oneCell' = true) (w : World) (hA : RowAt w (some ad) cs) :
    Calls Try.prog 67 #[.slice (some ad) n c] w fun e w' => ∃ v, e = .returned v ∧ w'.ownsRow w.heap.size 66 4 v n cs ∧ Below w.heap.size w w' := by
  obtain ⟨i0, hi, hz0, hz1, hz2⟩ := info_parts info_csent
  have HN := mkHid (fun wc hb => (hA.below (w1 := wc) hb).some)
  clear hA
  have q22 : ∀ (w : World) (a : Option Addr) (n c n' c' : Nat), (binOp .eql 43 (.slice a n c) (.slice none n' c')).run Try.prog w = .ok (.bool a.isNone) w := fun w a n c n' c' => Lib.run_eql_slice_nil w _ _ a n c n' c' Try.underlying43
  go_enter Try.func67, Try.ntmps67
  go_wp2_with (at_builtin; refine wpList_append_own _ rfl _ _ 43 rfl w.heap.size 66 i0 (.agg #[.slice none 0 0, .int .i64 0, .int .u64 0, .int .u64 0]) 4 48 Try.underlying43 hi hz0 hz1 hz2 rfl (by decide) _ _ _ rfl (World.ownsRow_made w #[] 0 (Nat.le_refl _) (Nat.zero_le _) rfl) ad n c cs rfl ?qc1 ?qc2 ?qc3 ?qc4 ?qc5 ?qc6 ?_)
  case qc1 => omega
  case qc2 => exact HN.out _ ((Below.refl _ w).alloc (Nat.le_refl _) _)
  case qc3 => exact h1
  case qc4 => unfold maxLen; omega
  case qc5 => omega
  case qc6 => simp
  intro v' w1 hown hgrow hnil
  go_wp2
  go_ret
  refine ⟨v', rfl, by simpa using hown, ?_⟩
  exact ((Below.refl _ w).alloc (Nat.le_refl _) _).grown hgrow (by simp) (by intro k hk; simp [Value.ownBlock] at hk; omega)
set_option maxHeartbeats 1000000 in
theorem csent_nil (n c : Nat) (w : World) :
    Calls Try.prog 67 #[.slice none n c] w fun e w' => e = .returned (.slice none 0 0) ∧ w' = w := by
  have q22 : ∀ (w : World) (a : Option Addr) (n c n' c' : Nat), (binOp .eql 43 (.slice a n c) (.slice none n' c')).run Try.prog w = .ok (.bool a.isNone) w := fun w a n c n' c' => Lib.run_eql_slice_nil w _ _ a n c n' c' Try.underlying43
  go_enter Try.func67, Try.ntmps67
  go_wp2
  go_ret
  exact ⟨rfl, rfl⟩
theorem csent_any (A : Option Addr) (n c : Nat) (cs : List Value) (hl : cs.length = n * 4) (hn : n ≤ 1048576) (h1 : ∀ u ∈ cs, u.oneCell' = true) (w : World) (hA : RowAt w A cs) :
    Calls Try.prog 67 #[.slice A n c] w fun e w' => ∃ v, e = .returned v ∧ w'.ownsRow w.heap.size 66 4 v n cs ∧ Below w.heap.size w w' := by
  cases A with
  | some ad => exact csent_some ad n c cs hl hn h1 w hA
  | none =>
    obtain rfl := hA.none_nil
    obtain rfl : n = 0 := by simp at hl; omega
    exact (csent_nil 0 c w).mono fun e w' ⟨h1, h2⟩ => ⟨_, h1, by subst h2; exact World.ownsRow_nil _ _ _ _, by subst h2; exact Below.refl _ _⟩
end Go.Proofs.Ytmehbonjpmlmfaa

namespace Go.Proofs.Ytmehbonjpmlmfaa
open Go.RowKit

section
variable {P : Program} {ops : Array Oper} {Q : Exit → Act → World → Prop} {md : Region.Mode} {S : World → Prop} {late : Nat → Bool}

/-- whatever comes up next; S holds behind what is not late -/
def Any (P : Program) (md : Region.Mode) (ops : Array Oper) (Q : Exit → Act → World → Prop) (late : Nat → Bool) (S : World → Prop) : Nat → Array Bool → Act → World → Prop
  | 0, done, a, w => Region.ready md ops done = [] ∧ Q .normal a w
  | n + 1, done, a, w => (Region.ready md ops done = [] → Q .normal a w) ∧
      ∀ k ∈ Region.ready md ops done, wpOp P ops Q k (fun b u => (late k = false → S u) ∧ Any P md ops Q late S n (done.setIfInBounds k true) b u) a w
theorem Any.plain : ∀ (n : Nat) (done : Array Bool) (a : Act) (w : World), Any P md ops Q late S n done a w → wpAny P md ops Q n done a w
  | 0, _, _, _, h => h
  | n + 1, _, _, _, h => ⟨h.1, fun k hk => wpOp_mono (fun b u q => Any.plain n _ b u q.2) (h.2 k hk)⟩
/-- all late ones that have not come up wait for number i -/
def Waits (md : Region.Mode) (ops : Array Oper) (late : Nat → Bool) (done : Array Bool) (i : Nat) : Bool :=
  (List.range ops.size).all fun k => !late k || k == i || done.getD k true || match ops[k]? with
    | some o => o.after.any fun e => Region.binds md e && e.on == i
    | none => true
theorem Waits.out {done : Array Bool} {i : Nat} (h : Waits md ops late done i = true) {k : Nat} {o : Oper} (hk : ops[k]? = some o) (hi : k ≠ i) (hd : done.getD k true = false) (hl : late k = true) :
    ∃ e ∈ o.after, Region.binds md e = true ∧ e.on = i := by
  unfold Waits at h
  rw [List.all_eq_true] at h
  have q := h k (List.mem_range.2 (Array.getElem?_eq_some_iff.1 hk).1)
  rw [hk, hl, hd] at q
  simp only [Bool.not_true, Bool.false_or, Bool.or_false, Bool.or_eq_true, beq_iff_eq, hi, false_or] at q
  obtain ⟨e, he, hb⟩ := Array.any_eq_true'.1 q
  rw [Bool.and_eq_true, beq_iff_eq] at hb
  exact ⟨e, he, hb.1, hb.2⟩
theorem Any.first {i : Nat} {x : Oper} {v : Value} (hx : ops[i]? = some x) (hsel : ∀ (j : Nat) (o : Oper) cs b, ops[j]? = some o → o.op ≠ .select cs b)
    (hQ : ∀ c a w, Q (.panic c) (a.put x.dst v) w → Q (.panic c) a w) (n : Nat) : ∀ (done : Array Bool) (a : Act) (w : World),
      (∀ k o, ops[k]? = some o → k ≠ i → done.getD k true = false → (∀ e ∈ o.after, Region.binds md e = true → e.on ≠ i) → x.apart ops o = true ∧ late k = false) →
      i ∈ Region.ready md ops done → YieldsIf P ops S x v a → S w →
      Any P md ops Q late S n (done.setIfInBounds i true) (a.put x.dst v) w → Any P md ops Q late S (n + 1) done a w := by
  induction n with
  | zero =>
    intro done a w _ hr hy hS H
    refine ⟨fun e => (by rw [e] at hr; cases hr), fun k hk => ?_⟩
    by_cases c : k = i
    · subst c; exact hy.wpOp hx hS ⟨fun _ => hS, H⟩
    · have q := ready_mono hk c
      rw [H.1] at q
      cases q
  | succ n ih =>
    intro done a w hfree hr hy hS H
    refine ⟨fun e => (by rw [e] at hr; cases hr), fun k hk => ?_⟩
    by_cases c : k = i
    · subst c; exact hy.wpOp hx hS ⟨fun _ => hS, H⟩
    · obtain ⟨hun, o, ho, hall⟩ := mem_ready.1 hk
      have hno : ∀ e ∈ o.after, Region.binds md e = true → e.on ≠ i := fun e he hb heq => by
        have q1 := hall e he hb
        have q0 := (mem_ready.1 hr).1
        rw [heq] at q1
        rcases Nat.lt_or_ge i done.size with l | l
        · simp [l] at q0 q1; rw [q0] at q1; cases q1
        · simp [Array.getElem?_eq_none l] at q1
      obtain ⟨hap, hlt⟩ := hfree k o ho c hun hno
      have hfree2 : ∀ j p, ops[j]? = some p → j ≠ i → (done.setIfInBounds k true).getD j true = false → (∀ e ∈ p.after, Region.binds md e = true → e.on ≠ i) → x.apart ops p = true ∧ late j = false := fun j p hj hji hu hn => by
        refine hfree j p hj hji ?_ hn
        by_cases cjk : k = j
        · subst cjk; exact hun
        · rw [getD_set_ne true cjk] at hu; exact hu
      refine wpOp_mono (fun b u q => ⟨q.2.1, ih (done.setIfInBounds k true) b u hfree2 (ready_mono hr (Ne.symm c)) q.1 (q.2.1 hlt) ?_⟩) (wpOp_putIf ho hap (fun cs b => hsel i x cs b hx) (fun cs b => hsel k o cs b ho) hQ hy (H.2 k (ready_mono hk c)))
      rw [Array.setIfInBounds_comm _ _ c]
      exact q.2.2
/-- number i is taken first -/
theorem Any.take {i : Nat} {x : Oper} {v : Value} {n : Nat} {done : Array Bool} {a : Act} {w : World} (hx : ops[i]? = some x)
    (hs : Region.noSelect ops = true) (hf : Region.free md ops done i = true) (hr : (Region.ready md ops done).contains i = true) (hw : Waits md ops late done i = true)
    (hQ : ∀ c a w, Q (.panic c) (a.put x.dst v) w → Q (.panic c) a w) (hy : YieldsIf P ops S x v a) (hS : S w)
    (h : Any P md ops Q late S n (done.setIfInBounds i true) (a.put x.dst v) w) : Any P md ops Q late S (n + 1) done a w :=
  Any.first hx (Region.noSelect_spec hs) hQ n done a w (fun k o hk hi hd hno => ⟨Region.free_spec hx hf k o hk hi hd hno, by
    cases hl : late k
    · rfl
    · obtain ⟨e, he, hb, e1⟩ := Waits.out hw hk hi hd hl
      exact absurd e1 (hno e he hb)⟩) (by simpa using hr) hy hS h
/-- each of those that may come up, and what is behind it -/
def AllAny (P : Program) (md : Region.Mode) (ops : Array Oper) (Q : Exit → Act → World → Prop) (late : Nat → Bool) (S : World → Prop) (n : Nat) (done : Array Bool) (a : Act) (w : World) (rs : List Nat) : Prop :=
  ∀ k ∈ rs, wpOp P ops Q k (fun b u => (late k = false → S u) ∧ Any P md ops Q late S n (done.setIfInBounds k true) b u) a w
theorem AllAny.nil {n : Nat} {done : Array Bool} {a : Act} {w : World} : AllAny P md ops Q late S n done a w [] := fun _ h => by cases h
theorem AllAny.cons {n : Nat} {done : Array Bool} {a : Act} {w : World} {i : Nat} {o : Oper} {rs : List Nat} (ho : ops[i]? = some o) (hl : late i = false)
    (h : ∀ K : Act → World → Prop, Shut (∀ b u, S u → (S u → Any P md ops Q late S n (done.setIfInBounds i true) b u) → K b u) → if Region.wanted o (yielded ops a.tmps) = true then Oper.wp P o a w K Q else K (a.put o.dst undef) w)
    (hs : AllAny P md ops Q late S n done a w rs) : AllAny P md ops Q late S n done a w (i :: rs) := fun j hj => by
  rcases List.mem_cons.1 hj with rfl | hj
  · exact wpOp_step ho (fun K hK => h K (fun b u hS hW => hK b u ⟨fun _ => hS, hW hS⟩))
  · exact hs j hj
theorem AllAny.lateCons {n : Nat} {done : Array Bool} {a : Act} {w : World} {i : Nat} {o : Oper} {rs : List Nat} (ho : ops[i]? = some o) (hl : late i = true)
    (h : ∀ K : Act → World → Prop, Shut (∀ b u, Any P md ops Q late S n (done.setIfInBounds i true) b u → K b u) → if Region.wanted o (yielded ops a.tmps) = true then Oper.wp P o a w K Q else K (a.put o.dst undef) w)
    (hs : AllAny P md ops Q late S n done a w rs) : AllAny P md ops Q late S n done a w (i :: rs) := fun j hj => by
  rcases List.mem_cons.1 hj with rfl | hj
  · exact wpOp_step ho (fun K hK => h K (fun b u hW => hK b u ⟨fun q => (by rw [hl] at q; cases q), hW⟩))
  · exact hs j hj
theorem Any.ready {rs : List Nat} {n : Nat} {done : Array Bool} {a : Act} {w : World} (hr : Region.ready md ops done = rs) (hne : rs ≠ []) (h : AllAny P md ops Q late S n done a w rs) : Any P md ops Q late S (n + 1) done a w :=
  ⟨fun e => absurd (hr ▸ e) hne, hr ▸ h⟩
theorem Any.done {done : Array Bool} {a : Act} {w : World} (hr : Region.ready md ops done = []) (h : Q .normal a w) : ∀ n, Any P md ops Q late S n done a w
  | 0 => ⟨hr, h⟩
  | _ + 1 => ⟨fun _ => h, by rw [hr]; simp⟩
theorem wp_region_late {id : Nat} {a : Act} {w : World} (late : Nat → Bool) (S : World → Prop) (hm : P.follows .mixedOrders = true) (hS : S w.drew)
    (h : S w.drew → Any P .any ops Q late S ops.size (Array.replicate ops.size false) a w.drew) : (Code.region id ops true).wp P Q a w :=
  wp_region_any hm (Any.plain _ _ _ _ (h hS))
end
end Go.Proofs.Ytmehbonjpmlmfaa
