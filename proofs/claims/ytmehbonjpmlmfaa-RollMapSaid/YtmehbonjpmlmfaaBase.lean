/- Small words for walks: blocks known whole, carried over calls. -/
import Derived.Test.YtmehbonjpmlmfaaNodeB
import Derived.Below
import Derived.Deep.Draws
import Derived.Deep.Light
import Derived.WalkSmall
namespace Go.Proofs.Ytmehbonjpmlmfaa
open Go.RowKit

/-! a block of the heap known whole -/
def Blk (w : World) (n : Nat) (t : TypeId) (cs : Array Value) : Prop := w.heap[n]? = some (.cells cs t (0, 0))
theorem Blk.cell {w : World} {n : Nat} {t : TypeId} {cs : Array Value} (h : Blk w n t cs) (i : Nat) : w.cell? ⟨n, i, none⟩ = cs[i]? := by
  unfold Blk at h; simp [World.cell?, h]
theorem Blk.frozen {w : World} {n : Nat} {t : TypeId} {cs : Array Value} (h : Blk w n t cs) (i : Nat) : w.frozen? ⟨n, i, none⟩ = false := by
  unfold Blk at h; simp [World.frozen?, h]
theorem Blk.lt {w : World} {n : Nat} {t : TypeId} {cs : Array Value} (h : Blk w n t cs) : n < w.heap.size := (Array.getElem?_eq_some_iff.1 h).1
theorem Blk.new (w : World) (t : TypeId) (cs : Array Value) : Blk (w.alloc (.cells cs t)) w.heap.size t cs := by
  show (w.heap.push _)[w.heap.size]? = _
  simp
theorem Blk.set {w : World} {n : Nat} {t : TypeId} {cs : Array Value} (h : Blk w n t cs) (i : Nat) (u : Value) : Blk (w.setCell ⟨n, i, none⟩ u) n t (cs.setIfInBounds i u) := by
  unfold Blk at *
  simp [World.setCell, Array.getElem?_modify, h]
theorem Blk.drew {w : World} {n : Nat} {t : TypeId} {cs : Array Value} (h : Blk w n t cs) : Blk w.drew n t cs := h
theorem Blk.drewN {w : World} {n : Nat} {t : TypeId} {cs : Array Value} (h : Blk w n t cs) (q : Nat) : Blk (w.drewN q) n t cs := h
theorem Blk.below {w w' : World} {n m : Nat} {t : TypeId} {cs : Array Value} (h : Blk w n t cs) (hb : Go.RowKit.Below m w w') (hn : n < m) : Blk w' n t cs := (hb.block n hn).trans h
theorem Blk.alloc {w : World} {n : Nat} {t : TypeId} {cs : Array Value} (h : Blk w n t cs) (o : Obj) : Blk (w.alloc o) n t cs := (Go.RowKit.Below.heap_alloc w o n h.lt).trans h
theorem Blk.other {w : World} {n m i : Nat} {t : TypeId} {cs : Array Value} (h : Blk w n t cs) (u : Value) (hm : n ≠ m) : Blk (w.setCell ⟨m, i, none⟩ u) n t cs := (Go.RowKit.Below.heap_setCell w ⟨m, i, none⟩ u n hm).trans h
theorem cutIn {p q : Prop} (hp : p) (k : p → q) : q := k hp
theorem fill_cells {w : World} {n : Nat} {u0 u1 : Value} (v0 v1 : Value) (h0 : w.cell? ⟨n, 0, none⟩ = some u0) (h1 : w.cell? ⟨n, 1, none⟩ = some u1) :
    ((w.setCell ⟨n, 0, none⟩ v0).setCell ⟨n, 1, none⟩ v1).cell? ⟨n, 0, none⟩ = some v0 ∧ ((w.setCell ⟨n, 0, none⟩ v0).setCell ⟨n, 1, none⟩ v1).cell? ⟨n, 1, none⟩ = some v1 := by
  constructor
  · rw [World.cell?_setCell_other _ _ _ _ (by simp)]; exact World.cell?_setCell_same _ _ _ h0
  · refine World.cell?_setCell_same (u := u1) _ _ _ ?_
    rw [World.cell?_setCell_other _ _ _ _ (by simp)]; exact h1
theorem fill_cell0 {w : World} {n : Nat} {u0 u1 v0 v1 : Value} (h0 : w.cell? ⟨n, 0, none⟩ = some u0) (h1 : w.cell? ⟨n, 1, none⟩ = some u1) :
    ((w.setCell ⟨n, 0, none⟩ v0).setCell ⟨n, 1, none⟩ v1).cell? ⟨n, 0, none⟩ = some v0 := (fill_cells v0 v1 h0 h1).1
theorem fill_cell1 {w : World} {n : Nat} {u0 u1 v0 v1 : Value} (h0 : w.cell? ⟨n, 0, none⟩ = some u0) (h1 : w.cell? ⟨n, 1, none⟩ = some u1) :
    ((w.setCell ⟨n, 0, none⟩ v0).setCell ⟨n, 1, none⟩ v1).cell? ⟨n, 1, none⟩ = some v1 := (fill_cells v0 v1 h0 h1).2
theorem Blk.at (w : World) {n : Nat} (t : TypeId) (cs : Array Value) (h : n = w.heap.size) : Blk (w.alloc (.cells cs t)) n t cs := by subst h; exact Blk.new w t cs
theorem Blk.keep {w w1 : World} {n : Nat} {t : TypeId} {cs : Array Value} (h : Blk w n t cs) (hb : Below w.heap.size w w1) : Blk w1 n t cs := h.below hb h.lt
theorem Blk.fill2 {w : World} {n : Nat} {t : TypeId} {a b u v : Value} (h : Blk w n t #[a, b]) : Blk ((w.setCell ⟨n, 0, none⟩ u).setCell ⟨n, 1, none⟩ v) n t #[u, v] := (h.set 0 u).set 1 v
theorem Blk.fill4 {w : World} {n : Nat} {t : TypeId} {a b c d x y u v : Value} (h : Blk w n t #[a, b, c, d]) :
    Blk ((((w.setCell ⟨n, 0, none⟩ x).setCell ⟨n, 1, none⟩ y).setCell ⟨n, 2, none⟩ u).setCell ⟨n, 3, none⟩ v) n t #[x, y, u, v] := (((h.set 0 x).set 1 y).set 2 u).set 3 v
theorem Blk.fill4a {w : World} {n : Nat} {t : TypeId} {a b c d x y : Value} (h : Blk w n t #[a, b, c, d]) : Blk ((w.setCell ⟨n, 0, none⟩ x).setCell ⟨n, 1, none⟩ y) n t #[x, y, c, d] := (h.set 0 x).set 1 y
theorem Blk.fill4b {w : World} {n : Nat} {t : TypeId} {a b c d x y : Value} (h : Blk w n t #[a, b, c, d]) : Blk ((w.setCell ⟨n, 2, none⟩ x).setCell ⟨n, 3, none⟩ y) n t #[a, b, x, y] := (h.set 2 x).set 3 y
theorem Blk.two {w : World} {n : Nat} {t : TypeId} {u v : Value} (h : Blk w n t #[u, v]) : w.cell? ⟨n, 0, none⟩ = some u ∧ w.cell? ⟨n, 1, none⟩ = some v := ⟨h.cell 0, h.cell 1⟩
theorem Blk.four {w : World} {n : Nat} {t : TypeId} {a b c d : Value} (h : Blk w n t #[a, b, c, d]) :
    w.cell? ⟨n, 0, none⟩ = some a ∧ w.cell? ⟨n, 1, none⟩ = some b ∧ w.cell? ⟨n, 2, none⟩ = some c ∧ w.cell? ⟨n, 3, none⟩ = some d := ⟨h.cell 0, h.cell 1, h.cell 2, h.cell 3⟩
theorem keeps {W w1 : World} (hb : Below W.heap.size W w1) {p : Addr} {v : Value} (h : W.cell? p = some v) : w1.cell? p = some v := (hb.cell (World.block_lt_of_cell? W p h)).trans h
theorem _root_.Go.RowKit.Below.step {w a b : World} (h : Below w.heap.size w a) (hb : Below a.heap.size a b) : Below w.heap.size w b := h.trans (hb.mono h.size)
theorem keepsF {W w1 : World} (hb : Below W.heap.size W w1) {p : Addr} {v : Value} (h : W.cell? p = some v) (hf : W.frozen? p = false) : w1.frozen? p = false := (hb.frozen (World.block_lt_of_cell? W p h)).trans hf
theorem bcell {W w1 : World} (hb : Below W.heap.size W w1) : (∀ b o, b < W.heap.size → w1.cell? ⟨b, o, none⟩ = W.cell? ⟨b, o, none⟩) ∧ (∀ b o, b < W.heap.size → w1.frozen? ⟨b, o, none⟩ = W.frozen? ⟨b, o, none⟩) :=
  ⟨fun b o h => hb.cell (p := ⟨b, o, none⟩) h, fun b o h => hb.frozen (p := ⟨b, o, none⟩) h⟩
end Go.Proofs.Ytmehbonjpmlmfaa
