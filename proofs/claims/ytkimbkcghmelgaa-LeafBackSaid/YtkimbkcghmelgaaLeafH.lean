/- The contract of leaf.Gaps. -/
import Derived.Test.YtkimbkcghmelgaaLeafG
namespace Go.Proofs.Ytkimbkcghmelgaa
open Go.RowKit Go.Shelf
attribute [local go_sem] Oper.semAt_some

theorem info_span : (Try.prog.info? 25).map (fun i => (i.zero, i.size, i.bytes)) = some (some (.agg #[.int .u64 0, .int .u64 0]), 2, 16) := by kernel_rfl
/-- the cells of a list of spans -/
def spanCells (l : List (Nat × Nat)) : List Value := l.flatMap fun x => [.int .u64 (x.1 : Int), .int .u64 (x.2 : Int)]
theorem spanCells_append (l m : List (Nat × Nat)) : spanCells (l ++ m) = spanCells l ++ spanCells m := by simp [spanCells]
theorem spanCells_length (l : List (Nat × Nat)) : (spanCells l).length = l.length * 2 := by
  induction l with
  | nil => rfl
  | cons x l ih =>
    have e : spanCells (x :: l) = [.int .u64 (x.1 : Int), .int .u64 (x.2 : Int)] ++ spanCells l := rfl
    rw [e, List.length_append, ih]; simp; omega

theorem blk_kept {X Y : World} {row : Option Nat} {B : Nat} {t : TypeId} {cs : Array Value} (h : Blk X B t cs) (hg : X.grownBy Y row) (hr : ∀ r, row = some r → ∃ o : Obj, X.heap[r]? = some o ∧ o.isCells = false) : Blk Y B t cs := by
  refine (hg.block B h.lt fun e => ?_).trans h
  obtain ⟨o, ho, hc⟩ := hr B e.symm
  rw [show X.heap[B]? = _ from h] at ho
  cases ho
  cases hc
theorem cell_two_new (w : World) (x y : Value) (t : TypeId) : ∀ j u, [x, y][j]? = some u → (w.alloc (.cells #[x, y] t)).cell? ((⟨w.heap.size, 0, none⟩ : Addr).add j) = some u := by
  intro j u hj
  match j, hj with
  | 0, hj => simp at hj; subst hj; simp [Addr.add]
  | 1, hj => simp at hj; subst hj; simp [Addr.add]

theorem leaves_root {h last : Nat} (h1 : 1 ≤ h) (h2 : h ≤ 32) (hl : last + 1 = 2 ^ h) (w : World) :
    Calls Try.prog 17 #[.int .i64 (h : Int), .int .u64 1] w fun e w' => e = .returned (.tuple #[.agg #[.int .u64 0, .int .u64 (last : Int)], .int .i64 0]) ∧ Below w.heap.size w w' :=
  leaves_yes (lo := 0) (root_node h1 h2) (mkHid dep_one) (mkHid (by rw [Nat.sub_zero]; omega)) (mkHid (by rw [Nat.sub_zero]; omega)) w
theorem leaves_root_no {h : Int} (H : h < 1 ∨ 32 < h) (w : World) :
    Calls Try.prog 17 #[.int .i64 h, .int .u64 1] w fun e w' => e = .returned (.tuple #[.agg #[.int .u64 0, .int .u64 0], .int .i64 1]) ∧ Below w.heap.size w w' :=
  leaves_no (n := 1) (by rcases H with H | H; exact .inl H; exact .inr (.inl H)) (by decide) w

set_option maxRecDepth 100000 in
set_option maxHeartbeats 4000000 in
theorem gaps_yes {h last : Nat} (h1 : 1 ≤ h) (h2 : h ≤ 32) (hl : last + 1 = 2 ^ h) {s : List Nat} (hs : SetOk h s) (A : Option Addr) (c : Nat) (w : World) (hA : Reads w A s) :
    Calls Try.prog 40 #[.int .i64 (h : Int), .slice A s.length c] w fun e w' => ∃ v, e = .returned (.tuple #[v, .int .i64 0]) ∧ w'.ownsRow w.heap.size 25 2 v (gapsL s last).length (spanCells (gapsL s last)) ∧ Below w.heap.size w w' := by
  obtain ⟨i0, hi, hz0, hz1, hz2⟩ := info_parts info_span
  have hblk := hA.blocks
  have hp := pow_le h2
  have hsl := hs.1
  have hsb : Hid (∀ j, s.getD j 0 < 4294967296) := mkHid fun j => by
    by_cases c : j < s.length
    · have := (hs.2 j c).1; omega
    · rw [List.getD_eq_getElem?_getD, List.getElem?_eq_none (by omega)]; decide
  have hlen := gapsL_length s last
  have HL := mkHid (leaves_root h1 h2 hl)
  have HC := mkHid (fun w hA => lcheck_yes h1 h2 hs A c w hA)
  have HA := mkHid hA
  have HB := mkHid hblk
  clear hA hblk hs hl
  refine (callsIn_wide (n := 8)).1 ?_
  refine callsIn_of_wp_marks Try.func40 rfl trivial ?_ rfl
  simp only [Try.ntmps40, List.size_toArray, List.length_cons, List.length_nil, Nat.reduceAdd, Nat.reduceSub, Array.replicate_succ, Array.replicate_zero, List.push_toArray, List.append_toArray, List.nil_append, List.cons_append]
  gi_wp2_with (refine ⟨trivial, ?_⟩; gi_at_call 17; refine (callsIn_wide.2 (HL.out _)).mono ?_; rintro e w1 ⟨rfl, hb1⟩)
  have hA2 := HA.out.below (hb1)
  have hA3 : Reads (w1.alloc (.cells #[.int .u64 0, .int .u64 (last : Int)] 25)) A s := hA2.below ((Below.refl _ _).alloc (Nat.le_refl _) _)
  have HA3 := mkHid hA3
  have Hb1 := mkHid hb1
  clear hA2 hA3 hb1
  refine ⟨trivial, ?_⟩
  refine (callsIn_wide.2 (HC.out _ HA3.out)).mono ?_
  rintro e w2 ⟨rfl, rfl⟩
  gi_wp2_with (refine ⟨trivial, ?_⟩; gi_at_call 65; refine (between_in Fence.wide _ trivial rfl _ _ _ _ _).mono ?_; rintro e w' ⟨rfl, rfl⟩)
  have bO := ((Boxed.new (w1.alloc (.cells #[.int .u64 0, .int .u64 (last : Int)] 25)) 46 (.slice none 0 0)).alloc (.cells #[.slice A s.length c] 49)).alloc (.cells #[.int .u64 (last : Int)] 22)
  have bL := (Boxed.new ((w1.alloc (.cells #[.int .u64 0, .int .u64 (last : Int)] 25)).alloc (.cells #[.slice none 0 0] 46)) 49 (.slice A s.length c)).alloc (.cells #[.int .u64 (last : Int)] 22)
  have bT := Boxed.new (((w1.alloc (.cells #[.int .u64 0, .int .u64 (last : Int)] 25)).alloc (.cells #[.slice none 0 0] 46)).alloc (.cells #[.slice A s.length c] 49)) 22 (.int .u64 (last : Int))
  have hB1 := Hb1.out
  have hB0 : Below w.heap.size w ((((w1.alloc (.cells #[.int .u64 0, .int .u64 (last : Int)] 25)).alloc (.cells #[.slice none 0 0] 46)).alloc (.cells #[.slice A s.length c] 49)).alloc (.cells #[.int .u64 (last : Int)] 22)) := (((hB1.alloc hB1.size _).alloc (by have := hB1.size; simp; omega) _).alloc (by have := hB1.size; simp; omega) _).alloc (by have := hB1.size; simp; omega) _
  have hsz : ((((w1.alloc (.cells #[.int .u64 0, .int .u64 (last : Int)] 25)).alloc (.cells #[.slice none 0 0] 46)).alloc (.cells #[.slice A s.length c] 49)).alloc (.cells #[.int .u64 (last : Int)] 22)).heap.size = w1.heap.size + 1 + 1 + 1 + 1 := by simp
  have hA0 := HA.out.below hB0
  have hs1 := hB1.size
  simp only [World.size_alloc] at bO bL bT
  obtain ⟨W0, hW0⟩ : ∃ W0, (((w1.alloc (.cells #[.int .u64 0, .int .u64 (last : Int)] 25)).alloc (.cells #[.slice none 0 0] 46)).alloc (.cells #[.slice A s.length c] 49)).alloc (.cells #[.int .u64 (last : Int)] 22) = W0 := ⟨_, rfl⟩
  rw [hW0] at bO bL bT hB0 hsz hA0 ⊢
  clear hW0
  refine wpIn_rangeFunc_ownH rfl (by omega) (gf := 74) (lb := #[.pointer (some ⟨w1.heap.size + 1 + 1, 0, none⟩), .pointer (some ⟨w1.heap.size + 1 + 1 + 1, 0, none⟩)]) rfl trivial (enters_of Try.func74 (by kernel_rfl) rfl)
    (between_stops Fence.wide _ trivial rfl (by omega) (w1.heap.size + 1 + 1) (w1.heap.size + 1 + 1 + 1) w.heap.size A c last s hsl hsb HB W0 (by omega) (by omega) bL.cell bT hA0) KpB.trans (KpB.book (by omega) (by omega)) (Below.refl _ _) (fun _ => rfl)
    (fun pre W => ((∃ v, Boxed W (w1.heap.size + 1) 46 v ∧ W.ownsRow w.heap.size 25 2 v pre.length (spanCells pre) ∧ True) ∧ Boxed W (w1.heap.size + 1 + 1 + 1) 22 (.int .u64 (last : Int))) ∧ Below w.heap.size w W)
    (fun _ _ _ => False)
    (OwnFrom.and (OwnFrom.and (Own.from (holdsRow_own w.heap.size (w1.heap.size + 1) 46 25 2 (fun pre => pre.length) (fun pre => spanCells pre) (fun _ _ => True)) _) (Own.from (boxed_own _ _ _) _)) (ownFrom_below (Nat.le_refl _) (by omega)))
    (fun _ _ _ _ _ hs _ _ => hs)
    ⟨⟨⟨_, bO, World.ownsRow_nil _ _ _ _, trivial⟩, bT⟩, hB0⟩
    (fun x a' W => ∃ Bx, w1.heap.size + 1 + 1 + 1 < Bx ∧ Blk W Bx 25 #[.int .u64 (x.1 : Int), .int .u64 (x.2 : Int)] ∧ a' = { tmps := #[.int .i64 (h : Int), .slice A s.length c, undef, undef, .slice none 0 0, .int .i64 0, .pointer (some ⟨w1.heap.size, 0, none⟩), .int .i64 0, .pointer (some ⟨w1.heap.size + 1, 0, none⟩), .pointer (some ⟨Bx, 0, none⟩), .tuple #[.agg #[.int .u64 0, .int .u64 (last : Int)], .int .i64 0], .int .i64 (h : Int), .tuple #[.agg #[.int .u64 0, .int .u64 (last : Int)], .int .i64 0], .agg #[.int .u64 0, .int .u64 (last : Int)], .int .i64 0, .int .i64 0, .bool false, .bool false, .int .i64 (h : Int), .slice A s.length c, .int .i64 0, .bool false, .bool false, .slice A s.length c, .pointer (some ⟨w1.heap.size, 1, none⟩), .int .u64 (last : Int), .func (.func 74) #[] #[.pointer (some ⟨w1.heap.size + 1 + 1, 0, none⟩), .pointer (some ⟨w1.heap.size + 1 + 1 + 1, 0, none⟩)], .agg #[.int .u64 (x.1 : Int), .int .u64 (x.2 : Int)], undef, undef, undef, undef, undef], defers := [] })
    (fun x a' _ X Y row hs hg hr => by obtain ⟨Bx, h1, h2, h3⟩ := hs; exact ⟨Bx, h1, blk_kept h2 hg (fun r e => (hr r e).2), h3⟩)
    ?assign ?body ?done ?stop
  case assign =>
    rintro l pre x W K ⟨⟨⟨v, bO1, hrow, -⟩, bT1⟩, hB2⟩ hK
    gi_wp2
    exact hK _ _ ((KeepsOthers.alloc _ _).from _) ⟨(Below.refl _ W).alloc hB2.size _, fun o ho => (Below.heap_alloc W _ _ (Array.getElem?_eq_some_iff.1 ho).1).trans ho⟩ ⟨⟨⟨v, bO1.alloc _, hrow.alloc _, trivial⟩, bT1.alloc _⟩, hB2.alloc hB2.size _⟩ ⟨W.heap.size, bT1.lt, Blk.new W _ _, rfl⟩
  case body =>
    rintro l pre x a' W hl ⟨r, hr⟩ ⟨⟨⟨v, hv, hrow, -⟩, bT1⟩, hB2⟩ ⟨Bx, hBx, bX, rfl⟩ hlt
    have hc := hv.cell
    have cX := bX.two
    gi_wp2_with (gi_at_builtin; refine wpListIn_append_own _ rfl _ _ 46 rfl w.heap.size 25 i0 (.agg #[.int .u64 0, .int .u64 0]) 2 16 Try.underlying46 hi hz0 hz1 hz2 rfl (by decide) _ _ _ rfl (hrow.alloc _) ⟨W.heap.size, 0, none⟩ 1 1 [.int .u64 (x.1 : Int), .int .u64 (x.2 : Int)] rfl rfl (cell_two_new _ _ _ _) (by simp [Value.oneCell']) (by unfold maxLen; omega) (by omega) (by have := hB2.size; simp; omega) ?_; intro v' wA hown' hgrow _; obtain ⟨g', cap', rfl⟩ := ownsRow_succ hown'; obtain ⟨hv1, hv2, hr2, hk2, hb2⟩ := hv.appended (by decide) hrow hB2.size (by omega) hown' hgrow; have hc1 := hv1.cell; have hf1 := hv1.frozen)
    have bT2 := (((bT1.alloc _).kept hgrow (bT1.not_row (by decide) hrow)).other (B' := w1.heap.size + 1) (by omega) (.slice (some ⟨g', 0, none⟩) (pre.length + 1) cap'))
    exact ⟨hk2.from _, ⟨hb2, fun o ho => by rw [show W.heap[_]? = _ from bT1] at ho; cases ho; exact bT2⟩, ⟨⟨_, hv2, by rw [List.length_append, spanCells_append]; exact hr2, trivial⟩, bT2⟩, hB2.trans hb2⟩
  case done =>
    rintro D ys W hD rfl ⟨⟨⟨v, hv, hrow, -⟩, bT1⟩, hB2⟩ hK
    have hc := hv.cell
    gi_wp2
    refine ⟨by simp, .inl ⟨_, _, rfl, run_takeDeferred hK, ?_⟩⟩
    exact ⟨_, results_tmp2 rfl _ _ _, v, rfl, ownsRow_putObj hrow _ hK rfl, hB2.trans (belowK_b (w := w) (Nat.le_refl _) W D _ _ (by omega) hK rfl rfl)⟩
  case stop =>
    rintro D c pre W _ _ h _
    exact h.elim

set_option maxRecDepth 100000 in
set_option maxHeartbeats 2000000 in
theorem gaps_bad {h : Int} (H : h < 1 ∨ 32 < h) (A : Option Addr) (n c : Nat) (w : World) :
    Calls Try.prog 40 #[.int .i64 h, .slice A n c] w fun e w' => e = .returned (.tuple #[.slice none 0 0, .int .i64 1]) ∧ Below w.heap.size w w' := by
  have H' := mkHid H
  clear H
  go_enter Try.func40, Try.ntmps40
  go_wp2_with fail
  (with_reducible refine (leaves_root_no H'.out _).mono ?_)
  rintro e w1 ⟨rfl, hb1⟩
  go_wp2_with fail
  go_ret2
  exact ⟨rfl, hb1.alloc hb1.size _⟩
set_option maxRecDepth 100000 in
set_option maxHeartbeats 2000000 in
theorem gaps_no {h last : Nat} (h1 : 1 ≤ h) (h2 : h ≤ 32) (hl : last + 1 = 2 ^ h) {s : List Nat} (hs : ¬ SetOk h s) (A : Option Addr) (c : Nat) (w : World) (hA : Reads w A s) :
    Calls Try.prog 40 #[.int .i64 (h : Int), .slice A s.length c] w fun e w' => e = .returned (.tuple #[.slice none 0 0, .int .i64 1]) ∧ Below w.heap.size w w' := by
  have HL := mkHid (leaves_root h1 h2 hl)
  have HC := mkHid (fun w hA => lcheck_no h1 h2 hs A c w hA)
  have HA := mkHid hA
  clear hA hs hl
  go_enter Try.func40, Try.ntmps40
  go_wp2_with fail
  (with_reducible refine (HL.out _).mono ?_)
  rintro e w1 ⟨rfl, hb1⟩
  have hA3 : Reads (w1.alloc (.cells #[.int .u64 0, .int .u64 (last : Int)] 25)) A s := (HA.out.below hb1).below ((Below.refl _ _).alloc (Nat.le_refl _) _)
  have HA3 := mkHid hA3
  have Hb1 := mkHid hb1
  clear hA3 hb1
  go_wp2_with fail
  refine (HC.out _ HA3.out).mono ?_
  rintro e w2 ⟨rfl, rfl⟩
  go_wp2_with fail
  go_ret2
  exact ⟨rfl, Hb1.out.alloc Hb1.out.size _⟩
end Go.Proofs.Ytkimbkcghmelgaa
