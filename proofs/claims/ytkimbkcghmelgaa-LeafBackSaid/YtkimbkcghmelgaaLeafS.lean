/- Lists of spans in memory; two that are the same; the chapter's example of package leaf. -/
import Derived.Test.YtkimbkcghmelgaaLeafH
import Derived.Test.YtkimbkcghmelgaaPSameSpansx2
namespace Go.Proofs.Ytkimbkcghmelgaa
open Go.RowKit Go.Proofs.YtkimbkcghmelgaaW.PrintWords

/-- a slice in memory that reads as a list of spans -/
def Spans (w : World) (A : Option Addr) (l : List (Nat × Nat)) : Prop :=
  l.length ≤ 9223372036854775807 ∧ (0 < l.length → ∃ ad, A = some ad ∧ ∀ j, j < l.length → w.cell? (ad.add (j * 2)) = some (.int .u64 (((l.getD j (0, 0)).1 : Nat) : Int)) ∧ w.cell? (ad.add (j * 2 + 1)) = some (.int .u64 (((l.getD j (0, 0)).2 : Nat) : Int)))
theorem Spans.below {w w1 : World} {A : Option Addr} {l : List (Nat × Nat)} (h : Spans w A l) (hb : Below w.heap.size w w1) : Spans w1 A l :=
  ⟨h.1, fun hn => by
    obtain ⟨ad, e, hc⟩ := h.2 hn
    exact ⟨ad, e, fun j hj => ⟨keeps hb (hc j hj).1, keeps hb (hc j hj).2⟩⟩⟩
theorem spanCells_get (l : List (Nat × Nat)) : ∀ j, j < l.length → (spanCells l)[j * 2]? = some (.int .u64 (((l.getD j (0, 0)).1 : Nat) : Int)) ∧ (spanCells l)[j * 2 + 1]? = some (.int .u64 (((l.getD j (0, 0)).2 : Nat) : Int)) := by
  induction l with
  | nil => intro j hj; simp at hj
  | cons x l ih =>
    intro j hj
    have e : spanCells (x :: l) = .int .u64 (x.1 : Int) :: .int .u64 (x.2 : Int) :: spanCells l := rfl
    rw [e]
    cases j with
    | zero => simp
    | succ j =>
      have h := ih j (by simpa using hj)
      rw [show (j + 1) * 2 = j * 2 + 1 + 1 by omega]
      simpa using h
theorem Spans.of_row {w : World} {base : Nat} {v : Value} {l : List (Nat × Nat)} (h : w.ownsRow base 25 2 v l.length (spanCells l)) : ∃ A c, v = .slice A l.length c ∧ l.length ≤ c ∧ Spans w A l := by
  rcases h.2 with ⟨rfl, h0⟩ | ⟨g, cap, cur, rfl, _, _, h1, h2, _⟩
  · rw [h0]; exact ⟨none, 0, rfl, Nat.le_refl _, by omega, fun hn => by omega⟩
  · refine ⟨_, cap, rfl, h1, by unfold maxLen at h2; omega, fun hn => ⟨_, rfl, fun j hj => ?_⟩⟩
    obtain ⟨g1, g2⟩ := spanCells_get l j hj
    exact ⟨h.cells (g := g) rfl _ _ g1, h.cells (g := g) rfl _ _ g2⟩
namespace PSameSpans
def mk (x : Nat × Nat) : S25 := ⟨(x.1 : Int), (x.2 : Int)⟩
theorem C_spans {w : World} {A : Option Addr} {l : List (Nat × Nat)} (h : Spans w A l) : Kd.C k25 w A (l.map mk).length (l.map mk) := by
  refine ⟨rfl, by rw [List.length_map]; exact h.1, fun hn => ?_⟩
  rw [List.length_map] at hn
  obtain ⟨ad, e, hc⟩ := h.2 hn
  refine ⟨ad, e, fun j p hp => ⟨_, rfl, k25_mk w p, fun i u hu => ?_⟩⟩
  have hj : j < l.length := by
    rcases Nat.lt_or_ge j l.length with c | c
    · exact c
    · rw [List.getElem?_eq_none (by simpa using c)] at hp; cases hp
  rw [List.getElem?_map, List.getElem?_eq_getElem hj] at hp
  simp only [Option.map_some, Option.some.injEq] at hp
  have hg : l.getD j (0, 0) = l[j] := by rw [List.getD_eq_getElem?_getD, List.getElem?_eq_getElem hj]; rfl
  obtain ⟨h1, h2⟩ := hc j hj
  rw [hg] at h1 h2
  subst hp
  match i, hu with
  | 0, hu => simp only [List.getElem?_cons_zero, Option.some.injEq] at hu; rw [← hu]; exact h1
  | 1, hu => simp only [List.getElem?_cons_succ, List.getElem?_cons_zero, Option.some.injEq] at hu; rw [← hu]; exact h2
theorem Same_l (l : List S25) (hl : l.length < 4611686018427387904) (d : Nat) : ∀ (f j : Nat), j + d = l.length → d < f → medlarref02_SameSpans.l0 f l l (l.length : Int) (j : Int) = some true := by
  induction d with
  | zero =>
    intro f j hj hf
    obtain ⟨f, rfl⟩ : ∃ m, f = m + 1 := ⟨f - 1, by omega⟩
    simp only [medlarref02_SameSpans.l0]
    rw [if_neg (by omega)]
  | succ d ih =>
    intro f j hj hf
    obtain ⟨f, rfl⟩ : ∃ m, f = m + 1 := ⟨f - 1, by omega⟩
    simp only [medlarref02_SameSpans.l0]
    have ew : wrap64 ((j : Int) + 1) = ((j + 1 : Nat) : Int) := by unfold wrap64; omega
    rw [if_pos (by omega), if_pos (by omega), if_pos (by omega), if_pos (by omega), ew, if_neg (by simp)]
    exact ih f (j + 1) (by omega) (by omega)
theorem same_spans {l : List (Nat × Nat)} (hl : l.length < 4611686018427387904) {A B : Option Addr} {a b : Nat} {w : World} (hA : Spans w A l) (ha : l.length ≤ a) (hB : Spans w B l) (hb : l.length ≤ b) :
    Calls Try.prog 47 #[.slice A l.length a, .slice B l.length b] w fun e w' => e = .returned (.bool true) ∧ Below w.heap.size w w' := by
  have e : (l.map mk).length = l.length := List.length_map _
  have c := medlarref02_SameSpans.calls (l.length + 1) A a (l.map mk) B b (l.map mk) true w (C_spans hA) (by omega) (C_spans hB) (by omega) (by
    unfold medlarref02_SameSpans.f
    rw [if_pos rfl]
    exact Same_l _ (by omega) (l.map mk).length _ 0 (by omega) (by omega))
  rw [e] at c
  exact c.mono fun e w' ⟨h1, h2⟩ => ⟨h1, h2.below⟩
end PSameSpans

set_option maxRecDepth 100000 in
set_option maxHeartbeats 2000000 in
theorem live02 (w : World) : Calls Try.prog 38 #[] w fun e w' => e = .returned (.bool true) ∧ Below w.heap.size w w' := by
  have hset : SetOk 2 [1] := ⟨by decide, by
    intro j hj
    have : j = 0 := by simpa using hj
    subst this
    exact ⟨by decide, fun h => by omega⟩⟩
  have hg : gapsL [1] 3 = [(0, 0), (2, 3)] := by decide
  have cG : ∀ (w : World) A c, Reads w A [1] → Calls Try.prog 40 #[.int .i64 2, .slice A 1 c] w fun e w' => ∃ v, e = .returned (.tuple #[v, .int .i64 0]) ∧ w'.ownsRow w.heap.size 25 2 v [(0, 0), (2, 3)].length (spanCells [(0, 0), (2, 3)]) ∧ Below w.heap.size w w' :=
    fun w A c hA => by have k := gaps_yes (h := 2) (last := 3) (by decide) (by decide) (by decide) hset A c w hA; rw [hg] at k; exact k
  have CG := mkHid cG
  clear cG hset hg
  go_enter Try.func38, Try.ntmps38
  go_wp2_with fail
  have hr : Reads (w.alloc (.cells #[.int .u64 1] 22)) (some ⟨w.heap.size, 0, none⟩) [1] := Reads.of_cells (by decide) fun j hj => by
    have : j = 0 := by simpa using hj
    subst this
    rw [addr_zero]
    simp
  refine (CG.out _ _ 1 hr).mono ?_
  rintro e w1 ⟨v, rfl, hrow, hb1⟩
  obtain ⟨A, c, rfl, hc, hS⟩ := Spans.of_row hrow
  have hb0 := Below.step (w := w) ((Below.refl _ _).alloc (Nat.le_refl _) _) hb1
  have HS := mkHid hS
  have HB := mkHid hb0
  clear hrow hb1 hr hS hb0
  go_wp2_with fail
  have hS2 : Spans (w1.alloc (.cells #[.int .u64 0, .int .u64 0, .int .u64 2, .int .u64 3] 25)) A [(0, 0), (2, 3)] := HS.out.below ((Below.refl _ _).alloc (Nat.le_refl _) _)
  have hT : Spans (w1.alloc (.cells #[.int .u64 0, .int .u64 0, .int .u64 2, .int .u64 3] 25)) (some ⟨w1.heap.size, 0, none⟩) [(0, 0), (2, 3)] := ⟨by decide, fun _ => ⟨_, rfl, fun j hj => by
    rcases (show j = 0 ∨ j = 1 by have : j < 2 := hj; omega) with rfl | rfl
    · simp [Addr.add]
    · simp [Addr.add]⟩⟩
  refine (PSameSpans.same_spans (l := [(0, 0), (2, 3)]) (by decide) hS2 hc hT (by decide)).mono ?_
  rintro e w2 ⟨rfl, hb2⟩
  have hB2 := mkHid (Below.step (w := w) (HB.out.alloc HB.out.size _) hb2)
  clear hb2 hS2 hT
  go_wp2_with fail
  go_ret
  exact ⟨rfl, hB2.out⟩
end Go.Proofs.Ytkimbkcghmelgaa
