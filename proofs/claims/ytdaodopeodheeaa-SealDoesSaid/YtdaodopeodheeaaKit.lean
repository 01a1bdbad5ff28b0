/- Small words for the walks of laws: blocks of two cells carried over calls. -/
import Derived.Test.YtdaodopeodheeaaMixD
import Derived.Test.YtdaodopeodheeaaMixQ
import Derived.Deep.Light
namespace Go.Proofs.Ytdaodopeodheeaa
open Go.RowKit

theorem cutIn {p q : Prop} (hp : p) (k : p → q) : q := k hp
theorem fill_cells {w : World} {n : Nat} {u0 u1 : Value} (v0 v1 : Value) (h0 : w.cell? ⟨n, 0, none⟩ = some u0) (h1 : w.cell? ⟨n, 1, none⟩ = some u1) :
    ((w.setCell ⟨n, 0, none⟩ v0).setCell ⟨n, 1, none⟩ v1).cell? ⟨n, 0, none⟩ = some v0 ∧ ((w.setCell ⟨n, 0, none⟩ v0).setCell ⟨n, 1, none⟩ v1).cell? ⟨n, 1, none⟩ = some v1 := by
  constructor
  · rw [World.cell?_setCell_other _ _ _ _ (by simp)]; exact World.cell?_setCell_same _ _ _ h0
  · refine World.cell?_setCell_same (u := u1) _ _ _ ?_
    rw [World.cell?_setCell_other _ _ _ _ (by simp)]; exact h1
theorem fill_cell0 {w : World} {n : Nat} {u0 u1 v0 v1 : Value} (h0 : w.cell? ⟨n, 0, none⟩ = some u0) (h1 : w.cell? ⟨n, 1, none⟩ = some u1) :
    ((w.setCell ⟨n, 0, none⟩ v0).setCell ⟨n, 1, none⟩ v1).cell? ⟨n, 0, none⟩ = some v0 := (fill_cells v0 v1 h0 h1).1
theorem fill_cell1 {w : World} {n : Nat} {u0 u1 v0 v1 : Value} (h0 : w.cell? ⟨n, 0, none⟩ = some u0) (h1 : w.cell? ⟨n, 1, none⟩ = some u1) :
    ((w.setCell ⟨n, 0, none⟩ v0).setCell ⟨n, 1, none⟩ v1).cell? ⟨n, 1, none⟩ = some v1 := (fill_cells v0 v1 h0 h1).2
theorem xor_same (a : BitVec 64) : U (a ^^^ a) = 0 := by rw [BitVec.xor_self]; rfl
theorem Blk.at (w : World) {n : Nat} (t : TypeId) (cs : Array Value) (h : n = w.heap.size) : Blk (w.alloc (.cells cs t)) n t cs := by subst h; exact Blk.new w t cs
theorem Blk.keep {w w1 : World} {n : Nat} {t : TypeId} {cs : Array Value} (h : Blk w n t cs) (hb : Below w.heap.size w w1) : Blk w1 n t cs := h.below hb h.lt
theorem Blk.fill2 {w : World} {n : Nat} {t : TypeId} {a b u v : Value} (h : Blk w n t #[a, b]) : Blk ((w.setCell ⟨n, 0, none⟩ u).setCell ⟨n, 1, none⟩ v) n t #[u, v] := (h.set 0 u).set 1 v
theorem Blk.fill4 {w : World} {n : Nat} {t : TypeId} {a b c d x y u v : Value} (h : Blk w n t #[a, b, c, d]) :
    Blk ((((w.setCell ⟨n, 0, none⟩ x).setCell ⟨n, 1, none⟩ y).setCell ⟨n, 2, none⟩ u).setCell ⟨n, 3, none⟩ v) n t #[x, y, u, v] := (((h.set 0 x).set 1 y).set 2 u).set 3 v
theorem Blk.fill4a {w : World} {n : Nat} {t : TypeId} {a b c d x y : Value} (h : Blk w n t #[a, b, c, d]) : Blk ((w.setCell ⟨n, 0, none⟩ x).setCell ⟨n, 1, none⟩ y) n t #[x, y, c, d] := (h.set 0 x).set 1 y
theorem Blk.fill4b {w : World} {n : Nat} {t : TypeId} {a b c d x y : Value} (h : Blk w n t #[a, b, c, d]) : Blk ((w.setCell ⟨n, 2, none⟩ x).setCell ⟨n, 3, none⟩ y) n t #[a, b, x, y] := (h.set 2 x).set 3 y
theorem Blk.two {w : World} {n : Nat} {t : TypeId} {u v : Value} (h : Blk w n t #[u, v]) : w.cell? ⟨n, 0, none⟩ = some u ∧ w.cell? ⟨n, 1, none⟩ = some v := ⟨h.cell 0, h.cell 1⟩
theorem Blk.four {w : World} {n : Nat} {t : TypeId} {a b c d : Value} (h : Blk w n t #[a, b, c, d]) :
    w.cell? ⟨n, 0, none⟩ = some a ∧ w.cell? ⟨n, 1, none⟩ = some b ∧ w.cell? ⟨n, 2, none⟩ = some c ∧ w.cell? ⟨n, 3, none⟩ = some d := ⟨h.cell 0, h.cell 1, h.cell 2, h.cell 3⟩
theorem U_beq (x y : BitVec 64) : (U x == U y) = (x == y) := by
  rw [Bool.eq_iff_iff, beq_iff_eq, beq_iff_eq]; exact ⟨U_inj, fun h => by rw [h]⟩
theorem pair_beq (x y : BitVec 64 × BitVec 64) : (U x.1 == U y.1 && U x.2 == U y.2) = decide (x = y) := by
  rw [Bool.eq_iff_iff, Bool.and_eq_true, beq_iff_eq, beq_iff_eq, decide_eq_true_eq]
  exact ⟨fun ⟨a, b⟩ => Prod.ext (U_inj a) (U_inj b), fun h => by rw [h]; exact ⟨rfl, rfl⟩⟩
theorem same_of {p q : BitVec 64 × BitVec 64} {a0 a1 b0 b1 : BitVec 64} (h : p = q ↔ (a0 = b0 ∧ a1 = b1)) : ((U p.1 == U q.1 && U p.2 == U q.2) == (U a0 == U b0 && U a1 == U b1)) = true := by
  rw [beq_iff_eq, Bool.eq_iff_iff, Bool.and_eq_true, Bool.and_eq_true, beq_iff_eq, beq_iff_eq, beq_iff_eq, beq_iff_eq]
  constructor
  · rintro ⟨x, y⟩
    obtain ⟨e1, e2⟩ := h.1 (Prod.ext (U_inj x) (U_inj y))
    rw [e1, e2]; exact ⟨rfl, rfl⟩
  · rintro ⟨x, y⟩
    rw [h.2 ⟨U_inj x, U_inj y⟩]; exact ⟨rfl, rfl⟩
/-! contracts whose answers are variables: the walk never sees what they stand for -/
theorem mix_eq {v0 v1 : Int} {x y p q : BitVec 64} (h : Hid (mixTo 8 (x, y) = (p, q))) (e0 : v0 = U x) (e1 : v1 = U y) (w : World) :
    Calls Try.prog 24 #[.agg #[.int .u64 v0, .int .u64 v1]] w fun e w' => e = .returned (.agg #[.int .u64 (U p), .int .u64 (U q)]) ∧ Below w.heap.size w w' := by
  subst e0 e1
  have c := mix_any x y w
  rw [h.out] at c
  exact c
theorem unmix_eq {v0 v1 : Int} {x y p q : BitVec 64} (h : Hid (unmixFrom 8 (x, y) = (p, q))) (e0 : v0 = U x) (e1 : v1 = U y) (w : World) :
    Calls Try.prog 23 #[.agg #[.int .u64 v0, .int .u64 v1]] w fun e w' => e = .returned (.agg #[.int .u64 (U p), .int .u64 (U q)]) ∧ Below w.heap.size w w' := by
  subst e0 e1
  have c := unmix_any x y w
  rw [h.out] at c
  exact c
theorem part_eq {v0 v1 : Int} {x y p q : BitVec 64} {i : Nat} (h : Hid (partB i (x, y) = (p, q))) (e0 : v0 = U x) (e1 : v1 = U y) {n : Int} (hn : n = (i : Int)) (hi : i ≤ 4) (w : World) :
    Calls Try.prog 25 #[.agg #[.int .u64 v0, .int .u64 v1], .int .i64 n] w fun e w' => e = .returned (.tuple #[.agg #[.int .u64 (U p), .int .u64 (U q)], .int .i64 0]) ∧ Below w.heap.size w w' := by
  subst e0 e1 hn
  have c := part_yes x y i w hi
  rw [h.out] at c
  exact c
theorem fold_eq {n : Nat} {l : List (BitVec 8)} {v0 v1 : Int} {x y p q : BitVec 64} (h : Hid (foldB l (x, y) = (p, q))) (hn : n = l.length) (e0 : v0 = U x) (e1 : v1 = U y) (a : Option Addr) (cap : Nat) (w : World) (hl : l.length ≤ 65536) (hcap : n ≤ cap) (hB : Bytes w a l) :
    Calls Try.prog 17 #[.agg #[.int .u64 v0, .int .u64 v1], .slice a n cap] w fun e w' =>
      e = .returned (.tuple #[.agg #[.int .u64 (U p), .int .u64 (U q)], .int .i64 0]) ∧ Below w.heap.size w w' := by
  have c := fold_any hn e0 e1 a cap w hl hcap hB
  rw [h.out] at c
  exact c
theorem octets_eq {v0 v1 : Int} {x y : BitVec 64} (e0 : v0 = U x) (e1 : v1 = U y) {w : World} {g : Nat} (hg : g = w.heap.size + 1) :
    Calls Try.prog 22 #[.agg #[.int .u64 v0, .int .u64 v1]] w fun e w' =>
      e = .returned (.slice (some ⟨g, 0, none⟩) 16 16) ∧ Blk w' g 5 (octTo 16 (x, y)) ∧ Below w.heap.size w w' := by
  subst hg e0 e1
  exact octets_any x y w
theorem fold_octs {g : Nat} {v0 v1 : Int} {x y x' y' p q : BitVec 64} (h : Hid (foldB (octs (x', y')) (x, y) = (p, q))) (e0 : v0 = U x) (e1 : v1 = U y) {w : World} (hO : Blk w g 5 (octTo 16 (x', y'))) :
    Calls Try.prog 17 #[.agg #[.int .u64 v0, .int .u64 v1], .slice (some ⟨g, 0, none⟩) 16 16] w fun e w' =>
      e = .returned (.tuple #[.agg #[.int .u64 (U p), .int .u64 (U q)], .int .i64 0]) ∧ Below w.heap.size w w' :=
  fold_eq h (octs_length _).symm e0 e1 _ 16 w (by rw [octs_length]; omega) (Nat.le_refl _) (Bytes.of_blk hO)
/-- what Octets leaves, its row's number unsaid -/
def OctPost (x y : BitVec 64) (w : World) (e : Ending) (w' : World) : Prop :=
  ∃ g, Blk w' g 5 (octTo 16 (x, y)) ∧ e = .returned (.slice (some ⟨g, 0, none⟩) 16 16) ∧ Below w.heap.size w w'
theorem octets_post {v0 v1 : Int} {x y : BitVec 64} (e0 : v0 = U x) (e1 : v1 = U y) (w : World) :
    Calls Try.prog 22 #[.agg #[.int .u64 v0, .int .u64 v1]] w (OctPost x y w) := by
  subst e0 e1
  exact (octets_any x y w).mono fun e w' ⟨he, hb, h⟩ => ⟨_, hb, he, h⟩
theorem mix_iff {a0 a1 b0 b1 m0 m1 n0 n1 : BitVec 64} (hm : mixTo 8 (a0, a1) = (m0, m1)) (hn : mixTo 8 (b0, b1) = (n0, n1)) : (m0, m1) = (n0, n1) ↔ (a0 = b0 ∧ a1 = b1) := by
  constructor
  · intro h
    have h2 := unmix_mix 8 (a0, a1)
    have h3 := unmix_mix 8 (b0, b1)
    rw [hm, h] at h2
    rw [hn] at h3
    have h4 := h2.symm.trans h3
    exact ⟨congrArg Prod.fst h4, congrArg Prod.snd h4⟩
  · rintro ⟨rfl, rfl⟩
    exact hm.symm.trans hn
theorem mix_of_unmix {a b : BitVec 64 × BitVec 64} (h : mixTo 8 a = b) : unmixFrom 8 b = a := by rw [← h, unmix_mix]
theorem unmix_of_mix {a b : BitVec 64 × BitVec 64} (h : unmixFrom 8 a = b) : mixTo 8 b = a := by rw [← h, mix_unmix]
theorem pair_ex (p : BitVec 64 × BitVec 64) : ∃ x y, p = (x, y) := ⟨p.1, p.2, rfl⟩
end Go.Proofs.Ytdaodopeodheeaa
