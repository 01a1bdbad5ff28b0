/- The walk of MixParts: the Go text answers true and writes nothing that was there. -/
import Derived.Test.YtdaodopeodheeaaKit
import Derived.Deep.DeepCutAuto
import Derived.Deep.RegionHeld3
import Derived.Laws.AppendOwnNone
namespace Go.Proofs.Ytdaodopeodheeaa
open Go.RowKit

theorem info_u8 : (Try.prog.info? 5).map (fun i => (i.zero, i.size, i.bytes)) = some (some (.int .u8 0), 1, 1) := by kernel_rfl
def lenOf : Value → Nat
  | .slice _ n _ => n
  | _ => 0
/-- two cells at the head of block n -/
def Two (w : World) (n : Nat) (u v : Value) : Prop := w.cell? ⟨n, 0, none⟩ = some u ∧ w.cell? ⟨n, 1, none⟩ = some v
theorem keepsG {w w' : World} {n : Nat} {u v : Value} (h : w.grownBy w' none) (c : w.cell? ⟨n, 0, none⟩ = some u ∧ w.cell? ⟨n, 1, none⟩ = some v) : Two w' n u v := by
  have hl := World.block_lt_of_cell? w _ c.1
  have hb : w'.heap[n]? = w.heap[n]? := h.block n hl (by simp)
  exact ⟨(World.cell?_of_block (w := w) hb).trans c.1, (World.cell?_of_block (w := w) hb).trans c.2⟩
/-- the octets of l, j zeros behind them, as cells -/
def zrow (l : List (BitVec 8)) (j : Nat) : List Value := (l ++ List.replicate j 0).map fun x => Value.int .u8 (B x)
theorem zrow_succ (l : List (BitVec 8)) (j : Nat) : zrow l j ++ [Value.int .u8 0] = zrow l (j + 1) := by
  unfold zrow; rw [List.replicate_succ']; simp [B]
theorem twoAlloc {w : World} {n : Nat} {u v : Value} (c : Two w n u v) (o : Obj) : Two (w.alloc o) n u v :=
  ⟨(World.cell?_alloc_some w _ o (by rw [c.1]; rfl)).trans c.1, (World.cell?_alloc_some w _ o (by rw [c.2]; rfl)).trans c.2⟩
theorem twoGrown {w w' : World} {n : Nat} {u v : Value} {r : Option Nat} (h : w.grownBy w' r) (hn : some n ≠ r) (c : Two w n u v) : Two w' n u v := by
  have hl := World.block_lt_of_cell? w _ c.1
  have hb : w'.heap[n]? = w.heap[n]? := h.block n hl hn
  exact ⟨(World.cell?_of_block (w := w) hb).trans c.1, (World.cell?_of_block (w := w) hb).trans c.2⟩
theorem twoKeep {w w' : World} {n : Nat} {u v : Value} (hb : Below w.heap.size w w') (c : Two w n u v) : Two w' n u v := ⟨keeps hb c.1, keeps hb c.2⟩
theorem ownsRow_base {w : World} {base : Nat} {e : TypeId} {g n cp : Nat} {xs : List Value} (h : w.ownsRow base e 1 (.slice (some ⟨g, 0, none⟩) n cp) n xs) : base ≤ g ∧ g < w.heap.size := by
  rcases h.2 with ⟨h', _⟩ | ⟨g', cp', cur, hv, hb, hh, _⟩
  · simp at h'
  · simp only [Value.slice.injEq, Option.some.injEq, Addr.mk.injEq, and_true, true_and] at hv
    obtain ⟨rfl, rfl⟩ := hv
    exact ⟨hb, (Array.getElem?_eq_some_iff.1 hh).1⟩
theorem ownsRow_pos {w : World} {base : Nat} {e : TypeId} {size : Nat} {v : Value} {n : Nat} {xs : List Value} (h : w.ownsRow base e size v n xs) (hn : 0 < n) :
    ∃ g cp, v = .slice (some ⟨g, 0, none⟩) n cp ∧ n ≤ cp ∧ cp ≤ maxLen := by
  rcases h.2 with ⟨_, h0⟩ | ⟨g, cp, cur, hv, _, _, h1, h2, _⟩
  · omega
  · exact ⟨g, cp, hv, h1, h2⟩
theorem ownsRow_first {w : World} {base : Nat} {e : TypeId} {g n cp : Nat} {xs : List Value} (h : w.ownsRow base e 1 (.slice (some ⟨g, 0, none⟩) n cp) n xs) (hn : 0 < n) :
    w.cell? ⟨g, 0, none⟩ = some (xs[0]'(by have := h.1; omega)) := by
  have hl := h.1
  rw [h.cellAt 0 (by omega), List.getElem?_eq_getElem (by omega)]
theorem Bytes.of_row {w : World} {base : Nat} {e : TypeId} {g n cp : Nat} {l : List (BitVec 8)} (h : w.ownsRow base e 1 (.slice (some ⟨g, 0, none⟩) n cp) n (l.map fun x => Value.int .u8 (B x))) : Bytes w (some ⟨g, 0, none⟩) l := by
  have hl := h.1
  rw [List.length_map] at hl
  refine .inr ⟨g, 0, rfl, fun i hi => ?_⟩
  rw [Nat.zero_add, h.cellAt i (by omega)]
  simp [List.getD, List.getElem?_eq_getElem hi]
theorem Bytes.news {w wc : World} {b off : Nat} {l : List (BitVec 8)} (h : Bytes w (some ⟨b, off, none⟩) l) (_h0 : 0 < l.length) (hb : Below w.heap.size w wc) :
    ∀ (j : Nat) (u : Value), (l.map fun x => Value.int .u8 (B x))[j]? = some u → wc.cell? ((⟨b, off, none⟩ : Addr).add j) = some u := by
  intro j u hu
  rcases h with rfl | ⟨b', off', he, hc⟩
  · simp at hu
  · simp only [Option.some.injEq, Addr.mk.injEq, and_true] at he
    obtain ⟨rfl, rfl⟩ := he
    have hj : j < l.length := by
      rcases Nat.lt_or_ge j l.length with h | h
      · exact h
      · rw [List.getElem?_eq_none (by simpa using h)] at hu; cases hu
    have hadd : (⟨b, off, none⟩ : Addr).add j = ⟨b, off + j, none⟩ := by unfold Addr.add; split <;> simp_all
    rw [hadd, keeps hb (hc j hj)]
    rw [List.getElem?_map, List.getElem?_eq_getElem hj] at hu
    simp only [Option.map_some, Option.some.injEq] at hu
    rw [← hu]
    simp [List.getD, List.getElem?_eq_getElem hj]

theorem Bytes.nil (w : World) (a : Option Addr) : Bytes w a [] := .inl rfl
theorem Bytes.take {w : World} {b off : Nat} {l : List (BitVec 8)} (h : Bytes w (some ⟨b, off, none⟩) l) (k : Nat) : Bytes w (some ⟨b, off, none⟩) (l.take k) := by
  rcases h with rfl | ⟨b', off', he, hc⟩
  · exact .inl (by simp)
  · simp only [Option.some.injEq, Addr.mk.injEq, and_true] at he
    obtain ⟨rfl, rfl⟩ := he
    refine .inr ⟨b, off, rfl, fun i hi => ?_⟩
    have hi' : i < k ∧ i < l.length := by simp at hi; omega
    rw [hc i hi'.2]
    simp [List.getD, hi'.1]
theorem Bytes.drop {w : World} {b off : Nat} {l : List (BitVec 8)} (h : Bytes w (some ⟨b, off, none⟩) l) (k : Nat) : Bytes w (some ⟨b, off + k, none⟩) (l.drop k) := by
  rcases h with rfl | ⟨b', off', he, hc⟩
  · exact .inl (by simp)
  · simp only [Option.some.injEq, Addr.mk.injEq, and_true] at he
    obtain ⟨rfl, rfl⟩ := he
    refine .inr ⟨b, off + k, rfl, fun i hi => ?_⟩
    have hi' : k + i < l.length := by simp at hi; omega
    rw [Nat.add_assoc, hc (k + i) hi']
    simp [List.getD, List.getElem?_drop]

set_option maxRecDepth 100000 in
set_option maxHeartbeats 2000000 in
theorem walk_MixParts_long (a0 a1 : BitVec 64) (a : Option Addr) (l : List (BitVec 8)) (cap : Nat) (c : Int) (h5 : 500 < l.length) (w : World) :
    Calls Try.prog 3 #[.agg #[.int .u64 (U a0), .int .u64 (U a1)], .slice a l.length cap, .int .u8 c] w fun e w' => e = .returned (.bool true) ∧ Below w.heap.size w w' := by
  have hq := eq_blocks
  go_enter Try.func3, Try.ntmps3
  go_wp2_with fail
  refine (live03 _).mono ?_
  rintro e w1 ⟨rfl, hb1⟩
  have hBN := Below.step (w := w) (by repeat' first | exact Below.refl _ _ | refine Below.drew ?_ | refine below_drewN ?_ _ | refine Below.alloc ?_ (by first | (simp; done) | (simp; omega)) _) hb1
  clear hb1
  have HBel := mkHid hBN
  clear hBN
  go_wp2_with fail
  go_ret
  exact ⟨rfl, HBel.out⟩

set_option maxRecDepth 100000 in
set_option maxHeartbeats 2000000 in
theorem walk_MixParts_yes1 (a0 a1 : BitVec 64) (b off : Nat) (l : List (BitVec 8)) (cap : Nat) (c : Int) (h5 : l.length ≤ 500) (h0 : 0 < l.length) (hcap : l.length ≤ cap) (hm : cap ≤ 9223372036854775807) (hc0 : 0 ≤ c) (hc1 : c ≤ 255) (m : Nat) (hmin : Hid (min (16 * c) ((l.length : Int) / 16 * 16) = ((16 * m : Nat) : Int))) (hml : 16 * m ≤ l.length) (hnc : ¬ cap = 16 * m) (w : World) (hL : Bytes w (some ⟨b, off, none⟩) l) :
    Calls Try.prog 3 #[.agg #[.int .u64 (U a0), .int .u64 (U a1)], .slice (some ⟨b, off, none⟩) l.length cap, .int .u8 c] w fun e w' => e = .returned (.bool true) ∧ Below w.heap.size w w' := by
  have hq := eq_blocks
  obtain ⟨x0, x1, hx⟩ := pair_ex (foldB l (a0, a1))
  obtain ⟨p0, p1, hp⟩ := pair_ex (foldB (l.take (16 * m)) (a0, a1))
  have K1 := mkHid hx
  have K2 := mkHid hp
  have K3 : Hid (foldB (l.drop (16 * m)) (p0, p1) = (x0, x1)) := mkHid (by rw [← hp, foldB_cut l m hml, hx])
  have HT := mkHid (hL.take (16 * m))
  have HD := mkHid (hL.drop (16 * m))
  have lT : Hid (16 * m = (l.take (16 * m)).length) := mkHid (by simp; omega)
  have lT5 : Hid ((l.take (16 * m)).length ≤ 65536) := mkHid (by simp; omega)
  have lD : Hid (l.length - 16 * m = (l.drop (16 * m)).length) := mkHid (by simp)
  have lD5 : Hid ((l.drop (16 * m)).length ≤ 65536) := mkHid (by simp; omega)
  have HL := mkHid hL
  clear hx hp hL
  have hk0 : (0 : Int) ≤ ((16 * m : Nat) : Int) := by omega
  generalize 16 * m = k at *
  go_enter Try.func3, Try.ntmps3
  go_wp2_with fail
  refine (live03 _).mono ?_
  rintro e w1 ⟨rfl, hb1⟩
  have bA := Blk.keep (n := w.heap.size) (t := 24) (cs := #[.int .u64 (U a0), .int .u64 (U a1)]) (by repeat' first | refine Blk.drew ?_ | exact Blk.at _ _ _ (by simp) | refine Blk.alloc ?_ _) hb1
  have hBN := Below.step (w := w) (by repeat' first | exact Below.refl _ _ | refine Below.drew ?_ | refine below_drewN ?_ _ | refine Below.alloc ?_ (by first | (simp; done) | (simp; omega)) _) hb1
  clear hb1
  have cA := bA.two
  have HA := mkHid bA
  have lA := bA.lt
  clear bA
  have HBel := mkHid hBN
  clear hBN
  go_upto_region 4 with fail
  go_cut [8] (fun s8 wx => s8 = .int .i64 (k : Int) ∧ wx = w1)
  case first =>
    go_wp2_with fail
    all_goals go_meet
    all_goals exact ⟨by rw [← hmin.out]; congr 1; omega, rfl⟩
  case rest =>
    obtain ⟨rfl, rfl⟩ := hcut
    go_wp2_with fail
    refine (fold_eq K1 rfl rfl rfl _ cap _ (by omega) hcap (HL.out.below HBel.out)).mono ?_
    rintro e w2 ⟨rfl, hb2⟩
    have bA := Blk.keep (n := w.heap.size) (t := 24) (cs := #[.int .u64 (U a0), .int .u64 (U a1)]) (by repeat' first | with_reducible exact HA.out | refine Blk.drew ?_ | exact Blk.at _ _ _ (by simp) | refine Blk.alloc ?_ _) hb2
    have hBN := Below.step (w := w) (by repeat' first | with_reducible exact HBel.out | exact Below.refl _ _ | refine Below.drew ?_ | refine below_drewN ?_ _ | refine Below.alloc ?_ (by first | (simp; done) | (have := HBel.out.size; simp; omega)) _) hb2
    clear cA HA lA HBel hb2
    have cA := bA.two
    have HA := mkHid bA
    have lA := bA.lt
    clear bA
    have HBel := mkHid hBN
    clear hBN
    go_wp2_with fail
    have hc0 : ¬ cap = 0 := by omega
    have hkc : (k : Int) ≤ (cap : Int) := by omega
    have hkl : (k : Int) ≤ (l.length : Int) := by omega
    go_upto_region 6 with fail
    
    have ne0 : w2.heap.size + 1 ≠ w.heap.size := by omega
    have ne1 : w2.heap.size + 1 ≠ w2.heap.size := by omega
    go_cut [11, 12] (fun s11 s12 wx => ∃ n : Nat, s11 = .pointer (some ⟨n, 0, none⟩) ∧ s12 = .int .i64 0 ∧ wx.cell? ⟨n, 0, none⟩ = some (.int .u64 (U p0)) ∧ wx.cell? ⟨n, 1, none⟩ = some (.int .u64 (U p1)) ∧ wx.cell? ⟨w.heap.size, 0, none⟩ = some (.int .u64 (U a0)) ∧ wx.cell? ⟨w.heap.size, 1, none⟩ = some (.int .u64 (U a1)) ∧ wx.cell? ⟨w2.heap.size, 0, none⟩ = some (.int .u64 (U x0)) ∧ wx.cell? ⟨w2.heap.size, 1, none⟩ = some (.int .u64 (U x1)) ∧ Below w.heap.size w wx)
    case first =>
      have HBel0 := mkHid HBel.out
      clear HBel0
      go_region_held3 (fun w' => w'.cell? ⟨w.heap.size, 0, none⟩ = some (.int .u64 (U a0)) ∧ w'.cell? ⟨w.heap.size, 1, none⟩ = some (.int .u64 (U a1)) ∧ w'.cell? ⟨w2.heap.size, 0, none⟩ = some (.int .u64 (U x0)) ∧ w'.cell? ⟨w2.heap.size, 1, none⟩ = some (.int .u64 (U x1)))
        (first | ((try dsimp only); (try go_split_ands); refine ⟨?_, ?_, ?_, ?_⟩ <;> with_reducible assumption) | (go_keep; done))
        (first
            | (go_at_call 17; ((with_reducible refine (fold_eq K2 lT.out rfl rfl _ _ _ lT5.out ?_ ?_).mono ?_); (focus (first | assumption | omega)); (focus (refine HT.out.below ?_; (repeat' first | (with_reducible refine Hid.out ?_; with_reducible assumption) | refine Below.drew ?_ | refine Below.alloc ?_ ?_ _ | omega | (simp <;> omega)))); (try go_split_ands); rintro e wf ⟨rfl, hbwf⟩; refine cutIn (p := wf.cell? ⟨w.heap.size, 0, none⟩ = some (.int .u64 (U a0))) ?_ ?_; (focus (refine keeps hbwf ?_; (first | with_reducible assumption | (simp [*] <;> fail)))); intro fc0; refine cutIn (p := wf.cell? ⟨w.heap.size, 1, none⟩ = some (.int .u64 (U a1))) ?_ ?_; (focus (refine keeps hbwf ?_; (first | with_reducible assumption | (simp [*] <;> fail)))); intro fc1; refine cutIn (p := wf.cell? ⟨w2.heap.size, 0, none⟩ = some (.int .u64 (U x0))) ?_ ?_; (focus (refine keeps hbwf ?_; (first | with_reducible assumption | (simp [*] <;> fail)))); intro fc2; refine cutIn (p := wf.cell? ⟨w2.heap.size, 1, none⟩ = some (.int .u64 (U x1))) ?_ ?_; (focus (refine keeps hbwf ?_; (first | with_reducible assumption | (simp [*] <;> fail)))); intro fc3; (try (refine cutIn (p := wf.cell? ⟨w2.heap.size + 1, 0, none⟩ = some (.int .u64 0)) ?_ ?_; (focus (refine keeps hbwf ?_; (first | with_reducible assumption | (simp [*] <;> fail)))); intro z)); (try (refine cutIn (p := wf.frozen? ⟨w2.heap.size + 1, 0, none⟩ = false) ?_ ?_; (focus (refine keepsF (v := .int .u64 0) hbwf ?_ ?_ <;> (first | with_reducible assumption | (simp [*] <;> fail)))); intro z)); (try (refine cutIn (p := wf.cell? ⟨w2.heap.size + 1, 1, none⟩ = some (.int .u64 0)) ?_ ?_; (focus (refine keeps hbwf ?_; (first | with_reducible assumption | (simp [*] <;> fail)))); intro z)); (try (refine cutIn (p := wf.frozen? ⟨w2.heap.size + 1, 1, none⟩ = false) ?_ ?_; (focus (refine keepsF (v := .int .u64 0) hbwf ?_ ?_ <;> (first | with_reducible assumption | (simp [*] <;> fail)))); intro z)); have nfwf0 := World.new_ne wf ⟨w.heap.size, 0, none⟩ fc0; have nfwf1 := World.new_ne wf ⟨w2.heap.size, 0, none⟩ fc2; have zwf : w.heap.size < wf.heap.size := World.block_lt_of_cell? wf _ fc0; refine cutIn (p := Hid (Below w.heap.size w wf)) ?_ ?_; (focus (refine mkHid (Below.step ?_ hbwf); repeat' first | (with_reducible refine Hid.out ?_; with_reducible assumption) | refine Below.drew ?_ | refine Below.alloc ?_ ?_ _ | omega | (simp <;> fail) | (simp <;> omega))); intro hBnwf)))
      all_goals go_wp2_with fail
      all_goals go_meet
      all_goals (try go_split_ands)
      all_goals (refine ⟨_, rfl, rfl, ?_, ?_, ?_, ?_, ?_, ?_, ?_⟩ <;> first | with_reducible assumption | (with_reducible refine fill_cell0 (u0 := .int .u64 0) (u1 := .int .u64 0) ?_ ?_ <;> assumption) | (with_reducible refine fill_cell1 (u0 := .int .u64 0) (u1 := .int .u64 0) ?_ ?_ <;> assumption) | (simp [*] <;> fail) | (repeat' first | (with_reducible refine Hid.out ?_; with_reducible assumption) | refine Below.drew ?_ | refine Below.setCell ?_ ?_ _ | refine Below.alloc ?_ ?_ _ | omega | (simp <;> fail) | (simp <;> omega)))
    case rest =>
      obtain ⟨nP, rfl, rfl, y0, y1, y2, y3, y4, y5, hbl⟩ := hcut
      have cnP := And.intro y0 y1
      have lnP : nP < wc.heap.size := World.block_lt_of_cell? wc _ y0
      try clear lA
      have cA := And.intro y2 y3
      have lA : w.heap.size < wc.heap.size := World.block_lt_of_cell? wc _ y2
      try clear lX
      have cX := And.intro y4 y5
      have lX : w2.heap.size < wc.heap.size := World.block_lt_of_cell? wc _ y4
      have HBel := mkHid hbl
      clear hbl y0 y1 y2 y3 y4 y5
      go_wp2_with fail
      go_upto_region 7 with fail
      
      have ne0 : wc.heap.size ≠ w.heap.size := by omega
      have ne1 : wc.heap.size ≠ w2.heap.size := by omega
      have ne2 : wc.heap.size ≠ nP := by omega
      go_cut [13, 14] (fun s13 s14 wx => ∃ n : Nat, s13 = .pointer (some ⟨n, 0, none⟩) ∧ s14 = .int .i64 0 ∧ wx.cell? ⟨n, 0, none⟩ = some (.int .u64 (U x0)) ∧ wx.cell? ⟨n, 1, none⟩ = some (.int .u64 (U x1)) ∧ wx.cell? ⟨w.heap.size, 0, none⟩ = some (.int .u64 (U a0)) ∧ wx.cell? ⟨w.heap.size, 1, none⟩ = some (.int .u64 (U a1)) ∧ wx.cell? ⟨w2.heap.size, 0, none⟩ = some (.int .u64 (U x0)) ∧ wx.cell? ⟨w2.heap.size, 1, none⟩ = some (.int .u64 (U x1)) ∧ wx.cell? ⟨nP, 0, none⟩ = some (.int .u64 (U p0)) ∧ wx.cell? ⟨nP, 1, none⟩ = some (.int .u64 (U p1)) ∧ Below w.heap.size w wx)
      case first =>
        have HBel0 := mkHid HBel.out
        clear HBel0
        go_region_held3 (fun w' => w'.cell? ⟨w.heap.size, 0, none⟩ = some (.int .u64 (U a0)) ∧ w'.cell? ⟨w.heap.size, 1, none⟩ = some (.int .u64 (U a1)) ∧ w'.cell? ⟨w2.heap.size, 0, none⟩ = some (.int .u64 (U x0)) ∧ w'.cell? ⟨w2.heap.size, 1, none⟩ = some (.int .u64 (U x1)) ∧ w'.cell? ⟨nP, 0, none⟩ = some (.int .u64 (U p0)) ∧ w'.cell? ⟨nP, 1, none⟩ = some (.int .u64 (U p1)))
          (first | ((try dsimp only); (try go_split_ands); refine ⟨?_, ?_, ?_, ?_, ?_, ?_⟩ <;> with_reducible assumption) | (go_keep; done))
          (first
              | (go_at_call 17; ((with_reducible refine (fold_eq K3 lD.out rfl rfl _ _ _ lD5.out ?_ ?_).mono ?_); (focus (first | assumption | omega)); (focus (refine HD.out.below ?_; (repeat' first | (with_reducible refine Hid.out ?_; with_reducible assumption) | refine Below.drew ?_ | refine Below.alloc ?_ ?_ _ | omega | (simp <;> omega)))); (try go_split_ands); rintro e wf ⟨rfl, hbwf⟩; refine cutIn (p := wf.cell? ⟨w.heap.size, 0, none⟩ = some (.int .u64 (U a0))) ?_ ?_; (focus (refine keeps hbwf ?_; (first | with_reducible assumption | (simp [*] <;> fail)))); intro fc0; refine cutIn (p := wf.cell? ⟨w.heap.size, 1, none⟩ = some (.int .u64 (U a1))) ?_ ?_; (focus (refine keeps hbwf ?_; (first | with_reducible assumption | (simp [*] <;> fail)))); intro fc1; refine cutIn (p := wf.cell? ⟨w2.heap.size, 0, none⟩ = some (.int .u64 (U x0))) ?_ ?_; (focus (refine keeps hbwf ?_; (first | with_reducible assumption | (simp [*] <;> fail)))); intro fc2; refine cutIn (p := wf.cell? ⟨w2.heap.size, 1, none⟩ = some (.int .u64 (U x1))) ?_ ?_; (focus (refine keeps hbwf ?_; (first | with_reducible assumption | (simp [*] <;> fail)))); intro fc3; refine cutIn (p := wf.cell? ⟨nP, 0, none⟩ = some (.int .u64 (U p0))) ?_ ?_; (focus (refine keeps hbwf ?_; (first | with_reducible assumption | (simp [*] <;> fail)))); intro fc4; refine cutIn (p := wf.cell? ⟨nP, 1, none⟩ = some (.int .u64 (U p1))) ?_ ?_; (focus (refine keeps hbwf ?_; (first | with_reducible assumption | (simp [*] <;> fail)))); intro fc5; (try (refine cutIn (p := wf.cell? ⟨wc.heap.size, 0, none⟩ = some (.int .u64 0)) ?_ ?_; (focus (refine keeps hbwf ?_; (first | with_reducible assumption | (simp [*] <;> fail)))); intro z)); (try (refine cutIn (p := wf.frozen? ⟨wc.heap.size, 0, none⟩ = false) ?_ ?_; (focus (refine keepsF (v := .int .u64 0) hbwf ?_ ?_ <;> (first | with_reducible assumption | (simp [*] <;> fail)))); intro z)); (try (refine cutIn (p := wf.cell? ⟨wc.heap.size, 1, none⟩ = some (.int .u64 0)) ?_ ?_; (focus (refine keeps hbwf ?_; (first | with_reducible assumption | (simp [*] <;> fail)))); intro z)); (try (refine cutIn (p := wf.frozen? ⟨wc.heap.size, 1, none⟩ = false) ?_ ?_; (focus (refine keepsF (v := .int .u64 0) hbwf ?_ ?_ <;> (first | with_reducible assumption | (simp [*] <;> fail)))); intro z)); have nfwf0 := World.new_ne wf ⟨w.heap.size, 0, none⟩ fc0; have nfwf1 := World.new_ne wf ⟨w2.heap.size, 0, none⟩ fc2; have nfwf2 := World.new_ne wf ⟨nP, 0, none⟩ fc4; have zwf : w.heap.size < wf.heap.size := World.block_lt_of_cell? wf _ fc0; refine cutIn (p := Hid (Below w.heap.size w wf)) ?_ ?_; (focus (refine mkHid (Below.step ?_ hbwf); repeat' first | (with_reducible refine Hid.out ?_; with_reducible assumption) | refine Below.drew ?_ | refine Below.alloc ?_ ?_ _ | omega | (simp <;> fail) | (simp <;> omega))); intro hBnwf)))
        all_goals go_wp2_with fail
        all_goals go_meet
        all_goals (try go_split_ands)
        all_goals (refine ⟨_, rfl, rfl, ?_, ?_, ?_, ?_, ?_, ?_, ?_, ?_, ?_⟩ <;> first | with_reducible assumption | (with_reducible refine fill_cell0 (u0 := .int .u64 0) (u1 := .int .u64 0) ?_ ?_ <;> assumption) | (with_reducible refine fill_cell1 (u0 := .int .u64 0) (u1 := .int .u64 0) ?_ ?_ <;> assumption) | (simp [*] <;> fail) | (repeat' first | (with_reducible refine Hid.out ?_; with_reducible assumption) | refine Below.drew ?_ | refine Below.setCell ?_ ?_ _ | refine Below.alloc ?_ ?_ _ | omega | (simp <;> fail) | (simp <;> omega)))
      case rest =>
        obtain ⟨nY, rfl, rfl, y0, y1, y2, y3, y4, y5, y6, y7, hbl⟩ := hcut
        have cnY := And.intro y0 y1
        have lnY : nY < wc.heap.size := World.block_lt_of_cell? wc _ y0
        try clear lA
        have cA := And.intro y2 y3
        have lA : w.heap.size < wc.heap.size := World.block_lt_of_cell? wc _ y2
        try clear lX
        have cX := And.intro y4 y5
        have lX : w2.heap.size < wc.heap.size := World.block_lt_of_cell? wc _ y4
        try clear lnP
        have cnP := And.intro y6 y7
        have lnP : nP < wc.heap.size := World.block_lt_of_cell? wc _ y6
        have HBel := mkHid hbl
        clear hbl y0 y1 y2 y3 y4 y5 y6 y7
        obtain ⟨i0, hi, hz0, hz1, hz2⟩ := info_parts info_u8
        have hnews : ∀ (j : Nat) (u : Value), (l.map fun x => Value.int .u8 (B x))[j]? = some u → wc.cell? ((⟨b, off, none⟩ : Addr).add j) = some u := HL.out.news h0 HBel.out
        have lb : w.heap.size < wc.heap.size := lA
        have lb2 : w2.heap.size < wc.heap.size := lX
        have lb3 : nY < wc.heap.size := lnY
        have HN := mkHid hnews
        clear hnews
        go_wp2_with (at_builtin; refine wpList_append_own _ rfl _ _ 25 rfl wc.heap.size 5 i0 (.int .u8 0) 1 1 Try.underlying25 hi hz0 hz1 hz2 rfl (by decide) _ 0 [] rfl (World.ownsRow_nil _ _ _ _) ⟨b, off, none⟩ l.length cap (l.map fun x => Value.int .u8 (B x)) rfl (by simp) HN.out (by intro u hu; simp at hu; obtain ⟨x, _, rfl⟩ := hu; rfl) (by unfold maxLen; omega) (by omega) (Nat.le_refl _) ?_)
        intro v0 w3 hown hgrow hnil
        have Hown := mkHid hown
        have HBel3 := mkHid (HBel.out.grown hgrow (by omega) (fun k e => by cases e))
        have cA3 := keepsG hgrow cA
        have cX3 := keepsG hgrow cX
        have cY3 := keepsG hgrow cnY
        clear hown hgrow hnil cA cX cnY cnP HBel
        go_wp2_with fail
        go_loopw [15] (fun v wr => ∃ j : Nat, j ≤ 15 ∧ (l.length + j + 15) / 16 = (l.length + 15) / 16 ∧ wr.ownsRow wc.heap.size 5 1 v (l.length + j) (zrow l j) ∧
            Two wr w.heap.size (.int .u64 (U a0)) (.int .u64 (U a1)) ∧ Two wr w2.heap.size (.int .u64 (U x0)) (.int .u64 (U x1)) ∧ Two wr nY (.int .u64 (U x0)) (.int .u64 (U x1)) ∧ Below w.heap.size w wr) (fun v _ => 600 - lenOf v)
        case atStart => exact ⟨0, by omega, by omega, by have h := Hown.out; simpa [zrow] using h, cA3, cX3, cY3, HBel3.out⟩
        case round =>
          obtain ⟨j, hj, hj2, hown, hA, hX, hY, hb⟩ := hrel
          obtain ⟨g, cp, rfl, hcp, hcm⟩ := ownsRow_pos hown (by omega)
          have zg := World.block_lt_of_cell? wr _ (ownsRow_first hown (by omega))
          dsimp only at zg
          have Hown := mkHid hown
          have Hb := mkHid hb
          have HA := mkHid hA
          have HX := mkHid hX
          have HY := mkHid hY
          clear hown hb cA3 cX3 cY3 hA hX hY
          have c1 := HA.out
          have c2 := HX.out
          have c3 := HY.out
          unfold Two at c1 c2 c3
          by_cases hz : (l.length + j) % 16 = 0
          · have hzI : ((l.length : Int) + (j : Int)) % 16 = 0 := by omega
            have K4 : Hid (foldB (l ++ List.replicate j 0) (a0, a1) = (x0, x1)) := mkHid (by rw [foldB_zeros l j hj2, K1.out])
            have lM : Hid (l.length + j = (l ++ List.replicate j (0 : BitVec 8)).length) := mkHid (by simp)
            have lM5 : Hid ((l ++ List.replicate j (0 : BitVec 8)).length ≤ 65536) := mkHid (by simp; omega)
            have HBy := Bytes.of_row (l := l ++ List.replicate j 0) Hown.out
            go_wp2_with fail
            refine (fold_eq K4 lM.out rfl rfl _ _ _ lM5.out hcp HBy).mono ?_
            rintro e w4 ⟨rfl, hb4⟩
            have d1 := twoKeep hb4 HA.out
            have d2 := twoKeep hb4 HX.out
            have d3 := twoKeep hb4 HY.out
            have Hb4 := mkHid (Hb.out.step hb4)
            have e1 := World.block_lt_of_cell? w4 _ d1.1
            have e2 := World.block_lt_of_cell? w4 _ d2.1
            have e3 := World.block_lt_of_cell? w4 _ d3.1
            unfold Two at d1 d2 d3
            dsimp only at e1 e2 e3
            clear hb4 HBy c1 c2 c3
            go_wp2_with fail
            go_ret
            exact ⟨rfl, Hb4.out.alloc Hb4.out.size _⟩
          · have hzI : ((l.length : Int) + (j : Int)) % 16 ≠ 0 := by omega
            have hzB : ((((l.length : Int) + (j : Int)) % 16) != 0) = true := by simpa using hzI
            have hg : wc.heap.size ≤ wr.heap.size := by have := ownsRow_base Hown.out; omega
            go_wp2_with (at_builtin; refine wpList_append_own _ rfl _ _ 25 rfl wc.heap.size 5 i0 (.int .u8 0) 1 1 Try.underlying25 hi hz0 hz1 hz2 rfl (by decide) _ _ _ rfl (Hown.out.alloc _) ⟨wr.heap.size, 0, none⟩ 1 1 [.int .u8 0] rfl rfl (cell_one_new _ _ _) (by simp [Value.oneCell']) (by unfold maxLen; omega) (by omega) (by simp; omega) ?_)
            intro v5 w5 hown5 hgrow5 _
            rw [zrow_succ] at hown5
            have lg := ownsRow_base Hown.out
            obtain ⟨g5, cp5, rfl, _, _⟩ := ownsRow_pos hown5 (by omega)
            have r1 := twoGrown hgrow5 (by intro e; simp [Value.ownBlock] at e; omega) (twoAlloc HA.out _)
            have r2 := twoGrown hgrow5 (by intro e; simp [Value.ownBlock] at e; omega) (twoAlloc HX.out _)
            have r3 := twoGrown hgrow5 (by intro e; simp [Value.ownBlock] at e; omega) (twoAlloc HY.out _)
            have r4 := (Hb.out.alloc Hb.out.size (.cells #[.int .u8 0] 5)).grown hgrow5 (by have := Hb.out.size; simp; omega) (by intro k e; simp [Value.ownBlock] at e; omega)
            have R0 := mkHid hown5
            have R1 := mkHid r1
            have R2 := mkHid r2
            have R3 := mkHid r3
            have R4 := mkHid r4
            clear hown5 hgrow5 r1 r2 r3 r4 c1 c2 c3
            go_wp2_with fail
            go_roundw
            case rel => exact ⟨j + 1, by omega, by omega, R0.out, R1.out, R2.out, R3.out, R4.out⟩
            case measure => simp [lenOf]; omega

set_option maxRecDepth 100000 in
set_option maxHeartbeats 2000000 in
theorem walk_MixParts_yes2 (a0 a1 : BitVec 64) (b off : Nat) (l : List (BitVec 8)) (c : Int) (h5 : l.length ≤ 500) (h0 : 0 < l.length) (hc0 : 0 ≤ c) (hc1 : c ≤ 255) (hmin : Hid (min (16 * c) ((l.length : Int) / 16 * 16) = (l.length : Int))) (w : World) (hL : Bytes w (some ⟨b, off, none⟩) l) :
    Calls Try.prog 3 #[.agg #[.int .u64 (U a0), .int .u64 (U a1)], .slice (some ⟨b, off, none⟩) l.length l.length, .int .u8 c] w fun e w' => e = .returned (.bool true) ∧ Below w.heap.size w w' := by
  have hq := eq_blocks
  obtain ⟨x0, x1, hx⟩ := pair_ex (foldB l (a0, a1))
  have K1 := mkHid hx
  have K3 : Hid (foldB [] (x0, x1) = (x0, x1)) := mkHid (foldB_nil _)
  have HL := mkHid hL
  clear hx hL
  have lL5 : Hid (l.length ≤ 65536) := mkHid (by omega)
  have lZ : Hid (0 = ([] : List (BitVec 8)).length) := mkHid rfl
  have lZ5 : Hid (([] : List (BitVec 8)).length ≤ 65536) := mkHid (Nat.zero_le _)
  have hcap : l.length ≤ l.length := Nat.le_refl _
  have hk0 : (0 : Int) ≤ (l.length : Int) := by omega
  go_enter Try.func3, Try.ntmps3
  go_wp2_with fail
  refine (live03 _).mono ?_
  rintro e w1 ⟨rfl, hb1⟩
  have bA := Blk.keep (n := w.heap.size) (t := 24) (cs := #[.int .u64 (U a0), .int .u64 (U a1)]) (by repeat' first | refine Blk.drew ?_ | exact Blk.at _ _ _ (by simp) | refine Blk.alloc ?_ _) hb1
  have hBN := Below.step (w := w) (by repeat' first | exact Below.refl _ _ | refine Below.drew ?_ | refine below_drewN ?_ _ | refine Below.alloc ?_ (by first | (simp; done) | (simp; omega)) _) hb1
  clear hb1
  have cA := bA.two
  have HA := mkHid bA
  have lA := bA.lt
  clear bA
  have HBel := mkHid hBN
  clear hBN
  go_upto_region 4 with fail
  go_cut [8] (fun s8 wx => s8 = .int .i64 (l.length : Int) ∧ wx = w1)
  case first =>
    go_wp2_with fail
    all_goals go_meet
    all_goals exact ⟨by rw [← hmin.out]; congr 1; omega, rfl⟩
  case rest =>
    obtain ⟨rfl, rfl⟩ := hcut
    go_wp2_with fail
    refine (fold_eq K1 rfl rfl rfl _ l.length _ (by omega) hcap (HL.out.below HBel.out)).mono ?_
    rintro e w2 ⟨rfl, hb2⟩
    have bA := Blk.keep (n := w.heap.size) (t := 24) (cs := #[.int .u64 (U a0), .int .u64 (U a1)]) (by repeat' first | with_reducible exact HA.out | refine Blk.drew ?_ | exact Blk.at _ _ _ (by simp) | refine Blk.alloc ?_ _) hb2
    have hBN := Below.step (w := w) (by repeat' first | with_reducible exact HBel.out | exact Below.refl _ _ | refine Below.drew ?_ | refine below_drewN ?_ _ | refine Below.alloc ?_ (by first | (simp; done) | (have := HBel.out.size; simp; omega)) _) hb2
    clear cA HA lA HBel hb2
    have cA := bA.two
    have HA := mkHid bA
    have lA := bA.lt
    clear bA
    have HBel := mkHid hBN
    clear hBN
    go_wp2_with fail
    have hc0 : ¬ l.length = 0 := by omega
    have hkc : (l.length : Int) ≤ (l.length : Int) := by omega
    have hkl : (l.length : Int) ≤ (l.length : Int) := by omega
    go_upto_region 6 with fail
    
    have ne0 : w2.heap.size + 1 ≠ w.heap.size := by omega
    have ne1 : w2.heap.size + 1 ≠ w2.heap.size := by omega
    go_cut [11, 12] (fun s11 s12 wx => ∃ n : Nat, s11 = .pointer (some ⟨n, 0, none⟩) ∧ s12 = .int .i64 0 ∧ wx.cell? ⟨n, 0, none⟩ = some (.int .u64 (U x0)) ∧ wx.cell? ⟨n, 1, none⟩ = some (.int .u64 (U x1)) ∧ wx.cell? ⟨w.heap.size, 0, none⟩ = some (.int .u64 (U a0)) ∧ wx.cell? ⟨w.heap.size, 1, none⟩ = some (.int .u64 (U a1)) ∧ wx.cell? ⟨w2.heap.size, 0, none⟩ = some (.int .u64 (U x0)) ∧ wx.cell? ⟨w2.heap.size, 1, none⟩ = some (.int .u64 (U x1)) ∧ Below w.heap.size w wx)
    case first =>
      have HBel0 := mkHid HBel.out
      clear HBel0
      go_region_held3 (fun w' => w'.cell? ⟨w.heap.size, 0, none⟩ = some (.int .u64 (U a0)) ∧ w'.cell? ⟨w.heap.size, 1, none⟩ = some (.int .u64 (U a1)) ∧ w'.cell? ⟨w2.heap.size, 0, none⟩ = some (.int .u64 (U x0)) ∧ w'.cell? ⟨w2.heap.size, 1, none⟩ = some (.int .u64 (U x1)))
        (first | ((try dsimp only); (try go_split_ands); refine ⟨?_, ?_, ?_, ?_⟩ <;> with_reducible assumption) | (go_keep; done))
        (first
            | (go_at_call 17; ((with_reducible refine (fold_eq K1 rfl rfl rfl _ _ _ lL5.out ?_ ?_).mono ?_); (focus (first | assumption | omega)); (focus (refine HL.out.below ?_; (repeat' first | (with_reducible refine Hid.out ?_; with_reducible assumption) | refine Below.drew ?_ | refine Below.alloc ?_ ?_ _ | omega | (simp <;> omega)))); (try go_split_ands); rintro e wf ⟨rfl, hbwf⟩; refine cutIn (p := wf.cell? ⟨w.heap.size, 0, none⟩ = some (.int .u64 (U a0))) ?_ ?_; (focus (refine keeps hbwf ?_; (first | with_reducible assumption | (simp [*] <;> fail)))); intro fc0; refine cutIn (p := wf.cell? ⟨w.heap.size, 1, none⟩ = some (.int .u64 (U a1))) ?_ ?_; (focus (refine keeps hbwf ?_; (first | with_reducible assumption | (simp [*] <;> fail)))); intro fc1; refine cutIn (p := wf.cell? ⟨w2.heap.size, 0, none⟩ = some (.int .u64 (U x0))) ?_ ?_; (focus (refine keeps hbwf ?_; (first | with_reducible assumption | (simp [*] <;> fail)))); intro fc2; refine cutIn (p := wf.cell? ⟨w2.heap.size, 1, none⟩ = some (.int .u64 (U x1))) ?_ ?_; (focus (refine keeps hbwf ?_; (first | with_reducible assumption | (simp [*] <;> fail)))); intro fc3; (try (refine cutIn (p := wf.cell? ⟨w2.heap.size + 1, 0, none⟩ = some (.int .u64 0)) ?_ ?_; (focus (refine keeps hbwf ?_; (first | with_reducible assumption | (simp [*] <;> fail)))); intro z)); (try (refine cutIn (p := wf.frozen? ⟨w2.heap.size + 1, 0, none⟩ = false) ?_ ?_; (focus (refine keepsF (v := .int .u64 0) hbwf ?_ ?_ <;> (first | with_reducible assumption | (simp [*] <;> fail)))); intro z)); (try (refine cutIn (p := wf.cell? ⟨w2.heap.size + 1, 1, none⟩ = some (.int .u64 0)) ?_ ?_; (focus (refine keeps hbwf ?_; (first | with_reducible assumption | (simp [*] <;> fail)))); intro z)); (try (refine cutIn (p := wf.frozen? ⟨w2.heap.size + 1, 1, none⟩ = false) ?_ ?_; (focus (refine keepsF (v := .int .u64 0) hbwf ?_ ?_ <;> (first | with_reducible assumption | (simp [*] <;> fail)))); intro z)); have nfwf0 := World.new_ne wf ⟨w.heap.size, 0, none⟩ fc0; have nfwf1 := World.new_ne wf ⟨w2.heap.size, 0, none⟩ fc2; have zwf : w.heap.size < wf.heap.size := World.block_lt_of_cell? wf _ fc0; refine cutIn (p := Hid (Below w.heap.size w wf)) ?_ ?_; (focus (refine mkHid (Below.step ?_ hbwf); repeat' first | (with_reducible refine Hid.out ?_; with_reducible assumption) | refine Below.drew ?_ | refine Below.alloc ?_ ?_ _ | omega | (simp <;> fail) | (simp <;> omega))); intro hBnwf)))
      all_goals go_wp2_with fail
      all_goals go_meet
      all_goals (try go_split_ands)
      all_goals (refine ⟨_, rfl, rfl, ?_, ?_, ?_, ?_, ?_, ?_, ?_⟩ <;> first | with_reducible assumption | (with_reducible refine fill_cell0 (u0 := .int .u64 0) (u1 := .int .u64 0) ?_ ?_ <;> assumption) | (with_reducible refine fill_cell1 (u0 := .int .u64 0) (u1 := .int .u64 0) ?_ ?_ <;> assumption) | (simp [*] <;> fail) | (repeat' first | (with_reducible refine Hid.out ?_; with_reducible assumption) | refine Below.drew ?_ | refine Below.setCell ?_ ?_ _ | refine Below.alloc ?_ ?_ _ | omega | (simp <;> fail) | (simp <;> omega)))
    case rest =>
      obtain ⟨nP, rfl, rfl, y0, y1, y2, y3, y4, y5, hbl⟩ := hcut
      have cnP := And.intro y0 y1
      have lnP : nP < wc.heap.size := World.block_lt_of_cell? wc _ y0
      try clear lA
      have cA := And.intro y2 y3
      have lA : w.heap.size < wc.heap.size := World.block_lt_of_cell? wc _ y2
      try clear lX
      have cX := And.intro y4 y5
      have lX : w2.heap.size < wc.heap.size := World.block_lt_of_cell? wc _ y4
      have HBel := mkHid hbl
      clear hbl y0 y1 y2 y3 y4 y5
      go_wp2_with fail
      go_upto_region 7 with fail
      
      have ne0 : wc.heap.size ≠ w.heap.size := by omega
      have ne1 : wc.heap.size ≠ w2.heap.size := by omega
      have ne2 : wc.heap.size ≠ nP := by omega
      go_cut [13, 14] (fun s13 s14 wx => ∃ n : Nat, s13 = .pointer (some ⟨n, 0, none⟩) ∧ s14 = .int .i64 0 ∧ wx.cell? ⟨n, 0, none⟩ = some (.int .u64 (U x0)) ∧ wx.cell? ⟨n, 1, none⟩ = some (.int .u64 (U x1)) ∧ wx.cell? ⟨w.heap.size, 0, none⟩ = some (.int .u64 (U a0)) ∧ wx.cell? ⟨w.heap.size, 1, none⟩ = some (.int .u64 (U a1)) ∧ wx.cell? ⟨w2.heap.size, 0, none⟩ = some (.int .u64 (U x0)) ∧ wx.cell? ⟨w2.heap.size, 1, none⟩ = some (.int .u64 (U x1)) ∧ wx.cell? ⟨nP, 0, none⟩ = some (.int .u64 (U x0)) ∧ wx.cell? ⟨nP, 1, none⟩ = some (.int .u64 (U x1)) ∧ Below w.heap.size w wx)
      case first =>
        have HBel0 := mkHid HBel.out
        clear HBel0
        go_region_held3 (fun w' => w'.cell? ⟨w.heap.size, 0, none⟩ = some (.int .u64 (U a0)) ∧ w'.cell? ⟨w.heap.size, 1, none⟩ = some (.int .u64 (U a1)) ∧ w'.cell? ⟨w2.heap.size, 0, none⟩ = some (.int .u64 (U x0)) ∧ w'.cell? ⟨w2.heap.size, 1, none⟩ = some (.int .u64 (U x1)) ∧ w'.cell? ⟨nP, 0, none⟩ = some (.int .u64 (U x0)) ∧ w'.cell? ⟨nP, 1, none⟩ = some (.int .u64 (U x1)))
          (first | ((try dsimp only); (try go_split_ands); refine ⟨?_, ?_, ?_, ?_, ?_, ?_⟩ <;> with_reducible assumption) | (go_keep; done))
          (first
              | (go_at_call 17; ((with_reducible refine (fold_eq (l := []) K3 lZ.out rfl rfl _ _ _ lZ5.out ?_ (Bytes.nil _ _)).mono ?_); (focus (omega)); (try go_split_ands); rintro e wf ⟨rfl, hbwf⟩; refine cutIn (p := wf.cell? ⟨w.heap.size, 0, none⟩ = some (.int .u64 (U a0))) ?_ ?_; (focus (refine keeps hbwf ?_; (first | with_reducible assumption | (simp [*] <;> fail)))); intro fc0; refine cutIn (p := wf.cell? ⟨w.heap.size, 1, none⟩ = some (.int .u64 (U a1))) ?_ ?_; (focus (refine keeps hbwf ?_; (first | with_reducible assumption | (simp [*] <;> fail)))); intro fc1; refine cutIn (p := wf.cell? ⟨w2.heap.size, 0, none⟩ = some (.int .u64 (U x0))) ?_ ?_; (focus (refine keeps hbwf ?_; (first | with_reducible assumption | (simp [*] <;> fail)))); intro fc2; refine cutIn (p := wf.cell? ⟨w2.heap.size, 1, none⟩ = some (.int .u64 (U x1))) ?_ ?_; (focus (refine keeps hbwf ?_; (first | with_reducible assumption | (simp [*] <;> fail)))); intro fc3; refine cutIn (p := wf.cell? ⟨nP, 0, none⟩ = some (.int .u64 (U x0))) ?_ ?_; (focus (refine keeps hbwf ?_; (first | with_reducible assumption | (simp [*] <;> fail)))); intro fc4; refine cutIn (p := wf.cell? ⟨nP, 1, none⟩ = some (.int .u64 (U x1))) ?_ ?_; (focus (refine keeps hbwf ?_; (first | with_reducible assumption | (simp [*] <;> fail)))); intro fc5; (try (refine cutIn (p := wf.cell? ⟨wc.heap.size, 0, none⟩ = some (.int .u64 0)) ?_ ?_; (focus (refine keeps hbwf ?_; (first | with_reducible assumption | (simp [*] <;> fail)))); intro z)); (try (refine cutIn (p := wf.frozen? ⟨wc.heap.size, 0, none⟩ = false) ?_ ?_; (focus (refine keepsF (v := .int .u64 0) hbwf ?_ ?_ <;> (first | with_reducible assumption | (simp [*] <;> fail)))); intro z)); (try (refine cutIn (p := wf.cell? ⟨wc.heap.size, 1, none⟩ = some (.int .u64 0)) ?_ ?_; (focus (refine keeps hbwf ?_; (first | with_reducible assumption | (simp [*] <;> fail)))); intro z)); (try (refine cutIn (p := wf.frozen? ⟨wc.heap.size, 1, none⟩ = false) ?_ ?_; (focus (refine keepsF (v := .int .u64 0) hbwf ?_ ?_ <;> (first | with_reducible assumption | (simp [*] <;> fail)))); intro z)); have nfwf0 := World.new_ne wf ⟨w.heap.size, 0, none⟩ fc0; have nfwf1 := World.new_ne wf ⟨w2.heap.size, 0, none⟩ fc2; have nfwf2 := World.new_ne wf ⟨nP, 0, none⟩ fc4; have zwf : w.heap.size < wf.heap.size := World.block_lt_of_cell? wf _ fc0; refine cutIn (p := Hid (Below w.heap.size w wf)) ?_ ?_; (focus (refine mkHid (Below.step ?_ hbwf); repeat' first | (with_reducible refine Hid.out ?_; with_reducible assumption) | refine Below.drew ?_ | refine Below.alloc ?_ ?_ _ | omega | (simp <;> fail) | (simp <;> omega))); intro hBnwf)))
        all_goals go_wp2_with fail
        all_goals go_meet
        all_goals (try go_split_ands)
        all_goals (refine ⟨_, rfl, rfl, ?_, ?_, ?_, ?_, ?_, ?_, ?_, ?_, ?_⟩ <;> first | with_reducible assumption | (with_reducible refine fill_cell0 (u0 := .int .u64 0) (u1 := .int .u64 0) ?_ ?_ <;> assumption) | (with_reducible refine fill_cell1 (u0 := .int .u64 0) (u1 := .int .u64 0) ?_ ?_ <;> assumption) | (simp [*] <;> fail) | (repeat' first | (with_reducible refine Hid.out ?_; with_reducible assumption) | refine Below.drew ?_ | refine Below.setCell ?_ ?_ _ | refine Below.alloc ?_ ?_ _ | omega | (simp <;> fail) | (simp <;> omega)))
      case rest =>
        obtain ⟨nY, rfl, rfl, y0, y1, y2, y3, y4, y5, y6, y7, hbl⟩ := hcut
        have cnY := And.intro y0 y1
        have lnY : nY < wc.heap.size := World.block_lt_of_cell? wc _ y0
        try clear lA
        have cA := And.intro y2 y3
        have lA : w.heap.size < wc.heap.size := World.block_lt_of_cell? wc _ y2
        try clear lX
        have cX := And.intro y4 y5
        have lX : w2.heap.size < wc.heap.size := World.block_lt_of_cell? wc _ y4
        try clear lnP
        have cnP := And.intro y6 y7
        have lnP : nP < wc.heap.size := World.block_lt_of_cell? wc _ y6
        have HBel := mkHid hbl
        clear hbl y0 y1 y2 y3 y4 y5 y6 y7
        obtain ⟨i0, hi, hz0, hz1, hz2⟩ := info_parts info_u8
        have hnews : ∀ (j : Nat) (u : Value), (l.map fun x => Value.int .u8 (B x))[j]? = some u → wc.cell? ((⟨b, off, none⟩ : Addr).add j) = some u := HL.out.news h0 HBel.out
        have lb : w.heap.size < wc.heap.size := lA
        have lb2 : w2.heap.size < wc.heap.size := lX
        have lb3 : nY < wc.heap.size := lnY
        have HN := mkHid hnews
        clear hnews
        go_wp2_with (at_builtin; refine wpList_append_own _ rfl _ _ 25 rfl wc.heap.size 5 i0 (.int .u8 0) 1 1 Try.underlying25 hi hz0 hz1 hz2 rfl (by decide) _ 0 [] rfl (World.ownsRow_nil _ _ _ _) ⟨b, off, none⟩ l.length l.length (l.map fun x => Value.int .u8 (B x)) rfl (by simp) HN.out (by intro u hu; simp at hu; obtain ⟨x, _, rfl⟩ := hu; rfl) (by unfold maxLen; omega) (by omega) (Nat.le_refl _) ?_)
        intro v0 w3 hown hgrow hnil
        have Hown := mkHid hown
        have HBel3 := mkHid (HBel.out.grown hgrow (by omega) (fun k e => by cases e))
        have cA3 := keepsG hgrow cA
        have cX3 := keepsG hgrow cX
        have cY3 := keepsG hgrow cnY
        clear hown hgrow hnil cA cX cnY cnP HBel
        go_wp2_with fail
        go_loopw [15] (fun v wr => ∃ j : Nat, j ≤ 15 ∧ (l.length + j + 15) / 16 = (l.length + 15) / 16 ∧ wr.ownsRow wc.heap.size 5 1 v (l.length + j) (zrow l j) ∧
            Two wr w.heap.size (.int .u64 (U a0)) (.int .u64 (U a1)) ∧ Two wr w2.heap.size (.int .u64 (U x0)) (.int .u64 (U x1)) ∧ Two wr nY (.int .u64 (U x0)) (.int .u64 (U x1)) ∧ Below w.heap.size w wr) (fun v _ => 600 - lenOf v)
        case atStart => exact ⟨0, by omega, by omega, by have h := Hown.out; simpa [zrow] using h, cA3, cX3, cY3, HBel3.out⟩
        case round =>
          obtain ⟨j, hj, hj2, hown, hA, hX, hY, hb⟩ := hrel
          obtain ⟨g, cp, rfl, hcp, hcm⟩ := ownsRow_pos hown (by omega)
          have zg := World.block_lt_of_cell? wr _ (ownsRow_first hown (by omega))
          dsimp only at zg
          have Hown := mkHid hown
          have Hb := mkHid hb
          have HA := mkHid hA
          have HX := mkHid hX
          have HY := mkHid hY
          clear hown hb cA3 cX3 cY3 hA hX hY
          have c1 := HA.out
          have c2 := HX.out
          have c3 := HY.out
          unfold Two at c1 c2 c3
          by_cases hz : (l.length + j) % 16 = 0
          · have hzI : ((l.length : Int) + (j : Int)) % 16 = 0 := by omega
            have K4 : Hid (foldB (l ++ List.replicate j 0) (a0, a1) = (x0, x1)) := mkHid (by rw [foldB_zeros l j hj2, K1.out])
            have lM : Hid (l.length + j = (l ++ List.replicate j (0 : BitVec 8)).length) := mkHid (by simp)
            have lM5 : Hid ((l ++ List.replicate j (0 : BitVec 8)).length ≤ 65536) := mkHid (by simp; omega)
            have HBy := Bytes.of_row (l := l ++ List.replicate j 0) Hown.out
            go_wp2_with fail
            refine (fold_eq K4 lM.out rfl rfl _ _ _ lM5.out hcp HBy).mono ?_
            rintro e w4 ⟨rfl, hb4⟩
            have d1 := twoKeep hb4 HA.out
            have d2 := twoKeep hb4 HX.out
            have d3 := twoKeep hb4 HY.out
            have Hb4 := mkHid (Hb.out.step hb4)
            have e1 := World.block_lt_of_cell? w4 _ d1.1
            have e2 := World.block_lt_of_cell? w4 _ d2.1
            have e3 := World.block_lt_of_cell? w4 _ d3.1
            unfold Two at d1 d2 d3
            dsimp only at e1 e2 e3
            clear hb4 HBy c1 c2 c3
            go_wp2_with fail
            go_ret
            exact ⟨rfl, Hb4.out.alloc Hb4.out.size _⟩
          · have hzI : ((l.length : Int) + (j : Int)) % 16 ≠ 0 := by omega
            have hzB : ((((l.length : Int) + (j : Int)) % 16) != 0) = true := by simpa using hzI
            have hg : wc.heap.size ≤ wr.heap.size := by have := ownsRow_base Hown.out; omega
            go_wp2_with (at_builtin; refine wpList_append_own _ rfl _ _ 25 rfl wc.heap.size 5 i0 (.int .u8 0) 1 1 Try.underlying25 hi hz0 hz1 hz2 rfl (by decide) _ _ _ rfl (Hown.out.alloc _) ⟨wr.heap.size, 0, none⟩ 1 1 [.int .u8 0] rfl rfl (cell_one_new _ _ _) (by simp [Value.oneCell']) (by unfold maxLen; omega) (by omega) (by simp; omega) ?_)
            intro v5 w5 hown5 hgrow5 _
            rw [zrow_succ] at hown5
            have lg := ownsRow_base Hown.out
            obtain ⟨g5, cp5, rfl, _, _⟩ := ownsRow_pos hown5 (by omega)
            have r1 := twoGrown hgrow5 (by intro e; simp [Value.ownBlock] at e; omega) (twoAlloc HA.out _)
            have r2 := twoGrown hgrow5 (by intro e; simp [Value.ownBlock] at e; omega) (twoAlloc HX.out _)
            have r3 := twoGrown hgrow5 (by intro e; simp [Value.ownBlock] at e; omega) (twoAlloc HY.out _)
            have r4 := (Hb.out.alloc Hb.out.size (.cells #[.int .u8 0] 5)).grown hgrow5 (by have := Hb.out.size; simp; omega) (by intro k e; simp [Value.ownBlock] at e; omega)
            have R0 := mkHid hown5
            have R1 := mkHid r1
            have R2 := mkHid r2
            have R3 := mkHid r3
            have R4 := mkHid r4
            clear hown5 hgrow5 r1 r2 r3 r4 c1 c2 c3
            go_wp2_with fail
            go_roundw
            case rel => exact ⟨j + 1, by omega, by omega, R0.out, R1.out, R2.out, R3.out, R4.out⟩
            case measure => simp [lenOf]; omega

set_option maxRecDepth 100000 in
set_option maxHeartbeats 2000000 in
theorem walk_MixParts_nil3 (a0 a1 : BitVec 64) (c : Int) (hc0 : 0 ≤ c) (hc1 : c ≤ 255) (w : World) :
    Calls Try.prog 3 #[.agg #[.int .u64 (U a0), .int .u64 (U a1)], .slice none 0 0, .int .u8 c] w fun e w' => e = .returned (.bool true) ∧ Below w.heap.size w w' := by
  have hq := eq_blocks
  have K3 : Hid (foldB [] (a0, a1) = (a0, a1)) := mkHid (foldB_nil _)
  have lZ : Hid (0 = ([] : List (BitVec 8)).length) := mkHid rfl
  have lZ5 : Hid (([] : List (BitVec 8)).length ≤ 65536) := mkHid (Nat.zero_le _)
  go_enter Try.func3, Try.ntmps3
  go_wp2_with fail
  refine (live03 _).mono ?_
  rintro e w1 ⟨rfl, hb1⟩
  have bA := Blk.keep (n := w.heap.size) (t := 24) (cs := #[.int .u64 (U a0), .int .u64 (U a1)]) (by repeat' first | refine Blk.drew ?_ | exact Blk.at _ _ _ (by simp) | refine Blk.alloc ?_ _) hb1
  have hBN := Below.step (w := w) (by repeat' first | exact Below.refl _ _ | refine Below.drew ?_ | refine below_drewN ?_ _ | refine Below.alloc ?_ (by first | (simp; done) | (simp; omega)) _) hb1
  clear hb1
  have cA := bA.two
  have HA := mkHid bA
  have lA := bA.lt
  clear bA
  have HBel := mkHid hBN
  clear hBN
  go_upto_region 4 with fail
  go_cut [8] (fun s8 wx => s8 = .int .i64 0 ∧ wx = w1)
  case first =>
    go_wp2_with fail
    all_goals go_meet
    all_goals exact ⟨by first | rfl | (congr 1; omega), rfl⟩
  case rest =>
    obtain ⟨rfl, rfl⟩ := hcut
    go_wp2_with fail
    refine (fold_eq (l := []) K3 lZ.out rfl rfl _ 0 _ lZ5.out (Nat.zero_le _) (Bytes.nil _ _)).mono ?_
    rintro e w2 ⟨rfl, hb2⟩
    have bA := Blk.keep (n := w.heap.size) (t := 24) (cs := #[.int .u64 (U a0), .int .u64 (U a1)]) (by repeat' first | with_reducible exact HA.out | refine Blk.drew ?_ | exact Blk.at _ _ _ (by simp) | refine Blk.alloc ?_ _) hb2
    have hBN := Below.step (w := w) (by repeat' first | with_reducible exact HBel.out | exact Below.refl _ _ | refine Below.drew ?_ | refine below_drewN ?_ _ | refine Below.alloc ?_ (by first | (simp; done) | (have := HBel.out.size; simp; omega)) _) hb2
    clear cA HA lA HBel hb2
    have cA := bA.two
    have HA := mkHid bA
    have lA := bA.lt
    clear bA
    have HBel := mkHid hBN
    clear hBN
    go_wp2_with fail
    go_upto_region 6 with fail
    
    have ne0 : w2.heap.size + 1 ≠ w.heap.size := by omega
    have ne1 : w2.heap.size + 1 ≠ w2.heap.size := by omega
    go_cut [11, 12] (fun s11 s12 wx => ∃ n : Nat, s11 = .pointer (some ⟨n, 0, none⟩) ∧ s12 = .int .i64 0 ∧ wx.cell? ⟨n, 0, none⟩ = some (.int .u64 (U a0)) ∧ wx.cell? ⟨n, 1, none⟩ = some (.int .u64 (U a1)) ∧ wx.cell? ⟨w.heap.size, 0, none⟩ = some (.int .u64 (U a0)) ∧ wx.cell? ⟨w.heap.size, 1, none⟩ = some (.int .u64 (U a1)) ∧ wx.cell? ⟨w2.heap.size, 0, none⟩ = some (.int .u64 (U a0)) ∧ wx.cell? ⟨w2.heap.size, 1, none⟩ = some (.int .u64 (U a1)) ∧ Below w.heap.size w wx)
    case first =>
      have HBel0 := mkHid HBel.out
      clear HBel0
      go_region_held3 (fun w' => w'.cell? ⟨w.heap.size, 0, none⟩ = some (.int .u64 (U a0)) ∧ w'.cell? ⟨w.heap.size, 1, none⟩ = some (.int .u64 (U a1)) ∧ w'.cell? ⟨w2.heap.size, 0, none⟩ = some (.int .u64 (U a0)) ∧ w'.cell? ⟨w2.heap.size, 1, none⟩ = some (.int .u64 (U a1)))
        (first | ((try dsimp only); (try go_split_ands); refine ⟨?_, ?_, ?_, ?_⟩ <;> with_reducible assumption) | (go_keep; done))
        (first
            | (go_at_call 17; ((with_reducible refine (fold_eq (l := []) K3 lZ.out rfl rfl _ _ _ lZ5.out ?_ (Bytes.nil _ _)).mono ?_); (focus (omega)); (try go_split_ands); rintro e wf ⟨rfl, hbwf⟩; refine cutIn (p := wf.cell? ⟨w.heap.size, 0, none⟩ = some (.int .u64 (U a0))) ?_ ?_; (focus (refine keeps hbwf ?_; (first | with_reducible assumption | (simp [*] <;> fail)))); intro fc0; refine cutIn (p := wf.cell? ⟨w.heap.size, 1, none⟩ = some (.int .u64 (U a1))) ?_ ?_; (focus (refine keeps hbwf ?_; (first | with_reducible assumption | (simp [*] <;> fail)))); intro fc1; refine cutIn (p := wf.cell? ⟨w2.heap.size, 0, none⟩ = some (.int .u64 (U a0))) ?_ ?_; (focus (refine keeps hbwf ?_; (first | with_reducible assumption | (simp [*] <;> fail)))); intro fc2; refine cutIn (p := wf.cell? ⟨w2.heap.size, 1, none⟩ = some (.int .u64 (U a1))) ?_ ?_; (focus (refine keeps hbwf ?_; (first | with_reducible assumption | (simp [*] <;> fail)))); intro fc3; (try (refine cutIn (p := wf.cell? ⟨w2.heap.size + 1, 0, none⟩ = some (.int .u64 0)) ?_ ?_; (focus (refine keeps hbwf ?_; (first | with_reducible assumption | (simp [*] <;> fail)))); intro z)); (try (refine cutIn (p := wf.frozen? ⟨w2.heap.size + 1, 0, none⟩ = false) ?_ ?_; (focus (refine keepsF (v := .int .u64 0) hbwf ?_ ?_ <;> (first | with_reducible assumption | (simp [*] <;> fail)))); intro z)); (try (refine cutIn (p := wf.cell? ⟨w2.heap.size + 1, 1, none⟩ = some (.int .u64 0)) ?_ ?_; (focus (refine keeps hbwf ?_; (first | with_reducible assumption | (simp [*] <;> fail)))); intro z)); (try (refine cutIn (p := wf.frozen? ⟨w2.heap.size + 1, 1, none⟩ = false) ?_ ?_; (focus (refine keepsF (v := .int .u64 0) hbwf ?_ ?_ <;> (first | with_reducible assumption | (simp [*] <;> fail)))); intro z)); have nfwf0 := World.new_ne wf ⟨w.heap.size, 0, none⟩ fc0; have nfwf1 := World.new_ne wf ⟨w2.heap.size, 0, none⟩ fc2; have zwf : w.heap.size < wf.heap.size := World.block_lt_of_cell? wf _ fc0; refine cutIn (p := Hid (Below w.heap.size w wf)) ?_ ?_; (focus (refine mkHid (Below.step ?_ hbwf); repeat' first | (with_reducible refine Hid.out ?_; with_reducible assumption) | refine Below.drew ?_ | refine Below.alloc ?_ ?_ _ | omega | (simp <;> fail) | (simp <;> omega))); intro hBnwf)))
      all_goals go_wp2_with fail
      all_goals go_meet
      all_goals (try go_split_ands)
      all_goals (refine ⟨_, rfl, rfl, ?_, ?_, ?_, ?_, ?_, ?_, ?_⟩ <;> first | with_reducible assumption | (with_reducible refine fill_cell0 (u0 := .int .u64 0) (u1 := .int .u64 0) ?_ ?_ <;> assumption) | (with_reducible refine fill_cell1 (u0 := .int .u64 0) (u1 := .int .u64 0) ?_ ?_ <;> assumption) | (simp [*] <;> fail) | (repeat' first | (with_reducible refine Hid.out ?_; with_reducible assumption) | refine Below.drew ?_ | refine Below.setCell ?_ ?_ _ | refine Below.alloc ?_ ?_ _ | omega | (simp <;> fail) | (simp <;> omega)))
    case rest =>
      obtain ⟨nP, rfl, rfl, y0, y1, y2, y3, y4, y5, hbl⟩ := hcut
      have cnP := And.intro y0 y1
      have lnP : nP < wc.heap.size := World.block_lt_of_cell? wc _ y0
      try clear lA
      have cA := And.intro y2 y3
      have lA : w.heap.size < wc.heap.size := World.block_lt_of_cell? wc _ y2
      try clear lX
      have cX := And.intro y4 y5
      have lX : w2.heap.size < wc.heap.size := World.block_lt_of_cell? wc _ y4
      have HBel := mkHid hbl
      clear hbl y0 y1 y2 y3 y4 y5
      go_wp2_with fail
      go_upto_region 7 with fail
      
      have ne0 : wc.heap.size ≠ w.heap.size := by omega
      have ne1 : wc.heap.size ≠ w2.heap.size := by omega
      have ne2 : wc.heap.size ≠ nP := by omega
      go_cut [13, 14] (fun s13 s14 wx => ∃ n : Nat, s13 = .pointer (some ⟨n, 0, none⟩) ∧ s14 = .int .i64 0 ∧ wx.cell? ⟨n, 0, none⟩ = some (.int .u64 (U a0)) ∧ wx.cell? ⟨n, 1, none⟩ = some (.int .u64 (U a1)) ∧ wx.cell? ⟨w.heap.size, 0, none⟩ = some (.int .u64 (U a0)) ∧ wx.cell? ⟨w.heap.size, 1, none⟩ = some (.int .u64 (U a1)) ∧ wx.cell? ⟨w2.heap.size, 0, none⟩ = some (.int .u64 (U a0)) ∧ wx.cell? ⟨w2.heap.size, 1, none⟩ = some (.int .u64 (U a1)) ∧ wx.cell? ⟨nP, 0, none⟩ = some (.int .u64 (U a0)) ∧ wx.cell? ⟨nP, 1, none⟩ = some (.int .u64 (U a1)) ∧ Below w.heap.size w wx)
      case first =>
        have HBel0 := mkHid HBel.out
        clear HBel0
        go_region_held3 (fun w' => w'.cell? ⟨w.heap.size, 0, none⟩ = some (.int .u64 (U a0)) ∧ w'.cell? ⟨w.heap.size, 1, none⟩ = some (.int .u64 (U a1)) ∧ w'.cell? ⟨w2.heap.size, 0, none⟩ = some (.int .u64 (U a0)) ∧ w'.cell? ⟨w2.heap.size, 1, none⟩ = some (.int .u64 (U a1)) ∧ w'.cell? ⟨nP, 0, none⟩ = some (.int .u64 (U a0)) ∧ w'.cell? ⟨nP, 1, none⟩ = some (.int .u64 (U a1)))
          (first | ((try dsimp only); (try go_split_ands); refine ⟨?_, ?_, ?_, ?_, ?_, ?_⟩ <;> with_reducible assumption) | (go_keep; done))
          (first
              | (go_at_call 17; ((with_reducible refine (fold_eq (l := []) K3 lZ.out rfl rfl _ _ _ lZ5.out ?_ (Bytes.nil _ _)).mono ?_); (focus (omega)); (try go_split_ands); rintro e wf ⟨rfl, hbwf⟩; refine cutIn (p := wf.cell? ⟨w.heap.size, 0, none⟩ = some (.int .u64 (U a0))) ?_ ?_; (focus (refine keeps hbwf ?_; (first | with_reducible assumption | (simp [*] <;> fail)))); intro fc0; refine cutIn (p := wf.cell? ⟨w.heap.size, 1, none⟩ = some (.int .u64 (U a1))) ?_ ?_; (focus (refine keeps hbwf ?_; (first | with_reducible assumption | (simp [*] <;> fail)))); intro fc1; refine cutIn (p := wf.cell? ⟨w2.heap.size, 0, none⟩ = some (.int .u64 (U a0))) ?_ ?_; (focus (refine keeps hbwf ?_; (first | with_reducible assumption | (simp [*] <;> fail)))); intro fc2; refine cutIn (p := wf.cell? ⟨w2.heap.size, 1, none⟩ = some (.int .u64 (U a1))) ?_ ?_; (focus (refine keeps hbwf ?_; (first | with_reducible assumption | (simp [*] <;> fail)))); intro fc3; refine cutIn (p := wf.cell? ⟨nP, 0, none⟩ = some (.int .u64 (U a0))) ?_ ?_; (focus (refine keeps hbwf ?_; (first | with_reducible assumption | (simp [*] <;> fail)))); intro fc4; refine cutIn (p := wf.cell? ⟨nP, 1, none⟩ = some (.int .u64 (U a1))) ?_ ?_; (focus (refine keeps hbwf ?_; (first | with_reducible assumption | (simp [*] <;> fail)))); intro fc5; (try (refine cutIn (p := wf.cell? ⟨wc.heap.size, 0, none⟩ = some (.int .u64 0)) ?_ ?_; (focus (refine keeps hbwf ?_; (first | with_reducible assumption | (simp [*] <;> fail)))); intro z)); (try (refine cutIn (p := wf.frozen? ⟨wc.heap.size, 0, none⟩ = false) ?_ ?_; (focus (refine keepsF (v := .int .u64 0) hbwf ?_ ?_ <;> (first | with_reducible assumption | (simp [*] <;> fail)))); intro z)); (try (refine cutIn (p := wf.cell? ⟨wc.heap.size, 1, none⟩ = some (.int .u64 0)) ?_ ?_; (focus (refine keeps hbwf ?_; (first | with_reducible assumption | (simp [*] <;> fail)))); intro z)); (try (refine cutIn (p := wf.frozen? ⟨wc.heap.size, 1, none⟩ = false) ?_ ?_; (focus (refine keepsF (v := .int .u64 0) hbwf ?_ ?_ <;> (first | with_reducible assumption | (simp [*] <;> fail)))); intro z)); have nfwf0 := World.new_ne wf ⟨w.heap.size, 0, none⟩ fc0; have nfwf1 := World.new_ne wf ⟨w2.heap.size, 0, none⟩ fc2; have nfwf2 := World.new_ne wf ⟨nP, 0, none⟩ fc4; have zwf : w.heap.size < wf.heap.size := World.block_lt_of_cell? wf _ fc0; refine cutIn (p := Hid (Below w.heap.size w wf)) ?_ ?_; (focus (refine mkHid (Below.step ?_ hbwf); repeat' first | (with_reducible refine Hid.out ?_; with_reducible assumption) | refine Below.drew ?_ | refine Below.alloc ?_ ?_ _ | omega | (simp <;> fail) | (simp <;> omega))); intro hBnwf)))
        all_goals go_wp2_with fail
        all_goals go_meet
        all_goals (try go_split_ands)
        all_goals (refine ⟨_, rfl, rfl, ?_, ?_, ?_, ?_, ?_, ?_, ?_, ?_, ?_⟩ <;> first | with_reducible assumption | (with_reducible refine fill_cell0 (u0 := .int .u64 0) (u1 := .int .u64 0) ?_ ?_ <;> assumption) | (with_reducible refine fill_cell1 (u0 := .int .u64 0) (u1 := .int .u64 0) ?_ ?_ <;> assumption) | (simp [*] <;> fail) | (repeat' first | (with_reducible refine Hid.out ?_; with_reducible assumption) | refine Below.drew ?_ | refine Below.setCell ?_ ?_ _ | refine Below.alloc ?_ ?_ _ | omega | (simp <;> fail) | (simp <;> omega)))
      case rest =>
        obtain ⟨nY, rfl, rfl, y0, y1, y2, y3, y4, y5, y6, y7, hbl⟩ := hcut
        have cnY := And.intro y0 y1
        have lnY : nY < wc.heap.size := World.block_lt_of_cell? wc _ y0
        try clear lA
        have cA := And.intro y2 y3
        have lA : w.heap.size < wc.heap.size := World.block_lt_of_cell? wc _ y2
        try clear lX
        have cX := And.intro y4 y5
        have lX : w2.heap.size < wc.heap.size := World.block_lt_of_cell? wc _ y4
        try clear lnP
        have cnP := And.intro y6 y7
        have lnP : nP < wc.heap.size := World.block_lt_of_cell? wc _ y6
        have HBel := mkHid hbl
        clear hbl y0 y1 y2 y3 y4 y5 y6 y7
        obtain ⟨i0, hi, hz0, hz1, hz2⟩ := info_parts info_u8
        go_wp2_with (at_builtin; refine wpList_append_own_none rfl _ _ 25 rfl wc.heap.size 5 i0 1 Try.underlying25 hi _ 0 [] rfl (World.ownsRow_nil _ _ _ _) rfl ?_)
        go_wp2_with fail
        refine wp_loop_rounds 1 ?_
        rw [rounds_succ]
        go_wp2_with fail
        refine (fold_eq (l := []) K3 lZ.out rfl rfl _ _ _ lZ5.out (Nat.zero_le _) (Bytes.nil _ _)).mono ?_
        rintro e w4 ⟨rfl, hb4⟩
        have d1 := twoKeep hb4 cA
        have d2 := twoKeep hb4 cX
        have d3 := twoKeep hb4 cnY
        have Hb4 := mkHid (HBel.out.step hb4)
        have e1 := World.block_lt_of_cell? w4 _ d1.1
        have e2 := World.block_lt_of_cell? w4 _ d2.1
        have e3 := World.block_lt_of_cell? w4 _ d3.1
        unfold Two at d1 d2 d3
        dsimp only at e1 e2 e3
        clear hb4 cA cX cnY
        go_wp2_with fail
        go_ret
        exact ⟨rfl, Hb4.out.alloc Hb4.out.size _⟩

set_option maxRecDepth 100000 in
set_option maxHeartbeats 2000000 in
theorem walk_MixParts_nil4 (a0 a1 : BitVec 64) (ad : Addr) (c : Int) (hc0 : 0 ≤ c) (hc1 : c ≤ 255) (w : World) :
    Calls Try.prog 3 #[.agg #[.int .u64 (U a0), .int .u64 (U a1)], .slice (some ad) 0 0, .int .u8 c] w fun e w' => e = .returned (.bool true) ∧ Below w.heap.size w w' := by
  have hq := eq_blocks
  have K3 : Hid (foldB [] (a0, a1) = (a0, a1)) := mkHid (foldB_nil _)
  have lZ : Hid (0 = ([] : List (BitVec 8)).length) := mkHid rfl
  have lZ5 : Hid (([] : List (BitVec 8)).length ≤ 65536) := mkHid (Nat.zero_le _)
  go_enter Try.func3, Try.ntmps3
  go_wp2_with fail
  refine (live03 _).mono ?_
  rintro e w1 ⟨rfl, hb1⟩
  have bA := Blk.keep (n := w.heap.size) (t := 24) (cs := #[.int .u64 (U a0), .int .u64 (U a1)]) (by repeat' first | refine Blk.drew ?_ | exact Blk.at _ _ _ (by simp) | refine Blk.alloc ?_ _) hb1
  have hBN := Below.step (w := w) (by repeat' first | exact Below.refl _ _ | refine Below.drew ?_ | refine below_drewN ?_ _ | refine Below.alloc ?_ (by first | (simp; done) | (simp; omega)) _) hb1
  clear hb1
  have cA := bA.two
  have HA := mkHid bA
  have lA := bA.lt
  clear bA
  have HBel := mkHid hBN
  clear hBN
  go_upto_region 4 with fail
  go_cut [8] (fun s8 wx => s8 = .int .i64 0 ∧ wx = w1)
  case first =>
    go_wp2_with fail
    all_goals go_meet
    all_goals exact ⟨by first | rfl | (congr 1; omega), rfl⟩
  case rest =>
    obtain ⟨rfl, rfl⟩ := hcut
    go_wp2_with fail
    refine (fold_eq (l := []) K3 lZ.out rfl rfl _ 0 _ lZ5.out (Nat.zero_le _) (Bytes.nil _ _)).mono ?_
    rintro e w2 ⟨rfl, hb2⟩
    have bA := Blk.keep (n := w.heap.size) (t := 24) (cs := #[.int .u64 (U a0), .int .u64 (U a1)]) (by repeat' first | with_reducible exact HA.out | refine Blk.drew ?_ | exact Blk.at _ _ _ (by simp) | refine Blk.alloc ?_ _) hb2
    have hBN := Below.step (w := w) (by repeat' first | with_reducible exact HBel.out | exact Below.refl _ _ | refine Below.drew ?_ | refine below_drewN ?_ _ | refine Below.alloc ?_ (by first | (simp; done) | (have := HBel.out.size; simp; omega)) _) hb2
    clear cA HA lA HBel hb2
    have cA := bA.two
    have HA := mkHid bA
    have lA := bA.lt
    clear bA
    have HBel := mkHid hBN
    clear hBN
    go_wp2_with fail
    go_upto_region 6 with fail
    
    have ne0 : w2.heap.size + 1 ≠ w.heap.size := by omega
    have ne1 : w2.heap.size + 1 ≠ w2.heap.size := by omega
    go_cut [11, 12] (fun s11 s12 wx => ∃ n : Nat, s11 = .pointer (some ⟨n, 0, none⟩) ∧ s12 = .int .i64 0 ∧ wx.cell? ⟨n, 0, none⟩ = some (.int .u64 (U a0)) ∧ wx.cell? ⟨n, 1, none⟩ = some (.int .u64 (U a1)) ∧ wx.cell? ⟨w.heap.size, 0, none⟩ = some (.int .u64 (U a0)) ∧ wx.cell? ⟨w.heap.size, 1, none⟩ = some (.int .u64 (U a1)) ∧ wx.cell? ⟨w2.heap.size, 0, none⟩ = some (.int .u64 (U a0)) ∧ wx.cell? ⟨w2.heap.size, 1, none⟩ = some (.int .u64 (U a1)) ∧ Below w.heap.size w wx)
    case first =>
      have HBel0 := mkHid HBel.out
      clear HBel0
      go_region_held3 (fun w' => w'.cell? ⟨w.heap.size, 0, none⟩ = some (.int .u64 (U a0)) ∧ w'.cell? ⟨w.heap.size, 1, none⟩ = some (.int .u64 (U a1)) ∧ w'.cell? ⟨w2.heap.size, 0, none⟩ = some (.int .u64 (U a0)) ∧ w'.cell? ⟨w2.heap.size, 1, none⟩ = some (.int .u64 (U a1)))
        (first | ((try dsimp only); (try go_split_ands); refine ⟨?_, ?_, ?_, ?_⟩ <;> with_reducible assumption) | (go_keep; done))
        (first
            | (go_at_call 17; ((with_reducible refine (fold_eq (l := []) K3 lZ.out rfl rfl _ _ _ lZ5.out ?_ (Bytes.nil _ _)).mono ?_); (focus (omega)); (try go_split_ands); rintro e wf ⟨rfl, hbwf⟩; refine cutIn (p := wf.cell? ⟨w.heap.size, 0, none⟩ = some (.int .u64 (U a0))) ?_ ?_; (focus (refine keeps hbwf ?_; (first | with_reducible assumption | (simp [*] <;> fail)))); intro fc0; refine cutIn (p := wf.cell? ⟨w.heap.size, 1, none⟩ = some (.int .u64 (U a1))) ?_ ?_; (focus (refine keeps hbwf ?_; (first | with_reducible assumption | (simp [*] <;> fail)))); intro fc1; refine cutIn (p := wf.cell? ⟨w2.heap.size, 0, none⟩ = some (.int .u64 (U a0))) ?_ ?_; (focus (refine keeps hbwf ?_; (first | with_reducible assumption | (simp [*] <;> fail)))); intro fc2; refine cutIn (p := wf.cell? ⟨w2.heap.size, 1, none⟩ = some (.int .u64 (U a1))) ?_ ?_; (focus (refine keeps hbwf ?_; (first | with_reducible assumption | (simp [*] <;> fail)))); intro fc3; (try (refine cutIn (p := wf.cell? ⟨w2.heap.size + 1, 0, none⟩ = some (.int .u64 0)) ?_ ?_; (focus (refine keeps hbwf ?_; (first | with_reducible assumption | (simp [*] <;> fail)))); intro z)); (try (refine cutIn (p := wf.frozen? ⟨w2.heap.size + 1, 0, none⟩ = false) ?_ ?_; (focus (refine keepsF (v := .int .u64 0) hbwf ?_ ?_ <;> (first | with_reducible assumption | (simp [*] <;> fail)))); intro z)); (try (refine cutIn (p := wf.cell? ⟨w2.heap.size + 1, 1, none⟩ = some (.int .u64 0)) ?_ ?_; (focus (refine keeps hbwf ?_; (first | with_reducible assumption | (simp [*] <;> fail)))); intro z)); (try (refine cutIn (p := wf.frozen? ⟨w2.heap.size + 1, 1, none⟩ = false) ?_ ?_; (focus (refine keepsF (v := .int .u64 0) hbwf ?_ ?_ <;> (first | with_reducible assumption | (simp [*] <;> fail)))); intro z)); have nfwf0 := World.new_ne wf ⟨w.heap.size, 0, none⟩ fc0; have nfwf1 := World.new_ne wf ⟨w2.heap.size, 0, none⟩ fc2; have zwf : w.heap.size < wf.heap.size := World.block_lt_of_cell? wf _ fc0; refine cutIn (p := Hid (Below w.heap.size w wf)) ?_ ?_; (focus (refine mkHid (Below.step ?_ hbwf); repeat' first | (with_reducible refine Hid.out ?_; with_reducible assumption) | refine Below.drew ?_ | refine Below.alloc ?_ ?_ _ | omega | (simp <;> fail) | (simp <;> omega))); intro hBnwf)))
      all_goals go_wp2_with fail
      all_goals go_meet
      all_goals (try go_split_ands)
      all_goals (refine ⟨_, rfl, rfl, ?_, ?_, ?_, ?_, ?_, ?_, ?_⟩ <;> first | with_reducible assumption | (with_reducible refine fill_cell0 (u0 := .int .u64 0) (u1 := .int .u64 0) ?_ ?_ <;> assumption) | (with_reducible refine fill_cell1 (u0 := .int .u64 0) (u1 := .int .u64 0) ?_ ?_ <;> assumption) | (simp [*] <;> fail) | (repeat' first | (with_reducible refine Hid.out ?_; with_reducible assumption) | refine Below.drew ?_ | refine Below.setCell ?_ ?_ _ | refine Below.alloc ?_ ?_ _ | omega | (simp <;> fail) | (simp <;> omega)))
    case rest =>
      obtain ⟨nP, rfl, rfl, y0, y1, y2, y3, y4, y5, hbl⟩ := hcut
      have cnP := And.intro y0 y1
      have lnP : nP < wc.heap.size := World.block_lt_of_cell? wc _ y0
      try clear lA
      have cA := And.intro y2 y3
      have lA : w.heap.size < wc.heap.size := World.block_lt_of_cell? wc _ y2
      try clear lX
      have cX := And.intro y4 y5
      have lX : w2.heap.size < wc.heap.size := World.block_lt_of_cell? wc _ y4
      have HBel := mkHid hbl
      clear hbl y0 y1 y2 y3 y4 y5
      go_wp2_with fail
      go_upto_region 7 with fail
      
      have ne0 : wc.heap.size ≠ w.heap.size := by omega
      have ne1 : wc.heap.size ≠ w2.heap.size := by omega
      have ne2 : wc.heap.size ≠ nP := by omega
      go_cut [13, 14] (fun s13 s14 wx => ∃ n : Nat, s13 = .pointer (some ⟨n, 0, none⟩) ∧ s14 = .int .i64 0 ∧ wx.cell? ⟨n, 0, none⟩ = some (.int .u64 (U a0)) ∧ wx.cell? ⟨n, 1, none⟩ = some (.int .u64 (U a1)) ∧ wx.cell? ⟨w.heap.size, 0, none⟩ = some (.int .u64 (U a0)) ∧ wx.cell? ⟨w.heap.size, 1, none⟩ = some (.int .u64 (U a1)) ∧ wx.cell? ⟨w2.heap.size, 0, none⟩ = some (.int .u64 (U a0)) ∧ wx.cell? ⟨w2.heap.size, 1, none⟩ = some (.int .u64 (U a1)) ∧ wx.cell? ⟨nP, 0, none⟩ = some (.int .u64 (U a0)) ∧ wx.cell? ⟨nP, 1, none⟩ = some (.int .u64 (U a1)) ∧ Below w.heap.size w wx)
      case first =>
        have HBel0 := mkHid HBel.out
        clear HBel0
        go_region_held3 (fun w' => w'.cell? ⟨w.heap.size, 0, none⟩ = some (.int .u64 (U a0)) ∧ w'.cell? ⟨w.heap.size, 1, none⟩ = some (.int .u64 (U a1)) ∧ w'.cell? ⟨w2.heap.size, 0, none⟩ = some (.int .u64 (U a0)) ∧ w'.cell? ⟨w2.heap.size, 1, none⟩ = some (.int .u64 (U a1)) ∧ w'.cell? ⟨nP, 0, none⟩ = some (.int .u64 (U a0)) ∧ w'.cell? ⟨nP, 1, none⟩ = some (.int .u64 (U a1)))
          (first | ((try dsimp only); (try go_split_ands); refine ⟨?_, ?_, ?_, ?_, ?_, ?_⟩ <;> with_reducible assumption) | (go_keep; done))
          (first
              | (go_at_call 17; ((with_reducible refine (fold_eq (l := []) K3 lZ.out rfl rfl _ _ _ lZ5.out ?_ (Bytes.nil _ _)).mono ?_); (focus (omega)); (try go_split_ands); rintro e wf ⟨rfl, hbwf⟩; refine cutIn (p := wf.cell? ⟨w.heap.size, 0, none⟩ = some (.int .u64 (U a0))) ?_ ?_; (focus (refine keeps hbwf ?_; (first | with_reducible assumption | (simp [*] <;> fail)))); intro fc0; refine cutIn (p := wf.cell? ⟨w.heap.size, 1, none⟩ = some (.int .u64 (U a1))) ?_ ?_; (focus (refine keeps hbwf ?_; (first | with_reducible assumption | (simp [*] <;> fail)))); intro fc1; refine cutIn (p := wf.cell? ⟨w2.heap.size, 0, none⟩ = some (.int .u64 (U a0))) ?_ ?_; (focus (refine keeps hbwf ?_; (first | with_reducible assumption | (simp [*] <;> fail)))); intro fc2; refine cutIn (p := wf.cell? ⟨w2.heap.size, 1, none⟩ = some (.int .u64 (U a1))) ?_ ?_; (focus (refine keeps hbwf ?_; (first | with_reducible assumption | (simp [*] <;> fail)))); intro fc3; refine cutIn (p := wf.cell? ⟨nP, 0, none⟩ = some (.int .u64 (U a0))) ?_ ?_; (focus (refine keeps hbwf ?_; (first | with_reducible assumption | (simp [*] <;> fail)))); intro fc4; refine cutIn (p := wf.cell? ⟨nP, 1, none⟩ = some (.int .u64 (U a1))) ?_ ?_; (focus (refine keeps hbwf ?_; (first | with_reducible assumption | (simp [*] <;> fail)))); intro fc5; (try (refine cutIn (p := wf.cell? ⟨wc.heap.size, 0, none⟩ = some (.int .u64 0)) ?_ ?_; (focus (refine keeps hbwf ?_; (first | with_reducible assumption | (simp [*] <;> fail)))); intro z)); (try (refine cutIn (p := wf.frozen? ⟨wc.heap.size, 0, none⟩ = false) ?_ ?_; (focus (refine keepsF (v := .int .u64 0) hbwf ?_ ?_ <;> (first | with_reducible assumption | (simp [*] <;> fail)))); intro z)); (try (refine cutIn (p := wf.cell? ⟨wc.heap.size, 1, none⟩ = some (.int .u64 0)) ?_ ?_; (focus (refine keeps hbwf ?_; (first | with_reducible assumption | (simp [*] <;> fail)))); intro z)); (try (refine cutIn (p := wf.frozen? ⟨wc.heap.size, 1, none⟩ = false) ?_ ?_; (focus (refine keepsF (v := .int .u64 0) hbwf ?_ ?_ <;> (first | with_reducible assumption | (simp [*] <;> fail)))); intro z)); have nfwf0 := World.new_ne wf ⟨w.heap.size, 0, none⟩ fc0; have nfwf1 := World.new_ne wf ⟨w2.heap.size, 0, none⟩ fc2; have nfwf2 := World.new_ne wf ⟨nP, 0, none⟩ fc4; have zwf : w.heap.size < wf.heap.size := World.block_lt_of_cell? wf _ fc0; refine cutIn (p := Hid (Below w.heap.size w wf)) ?_ ?_; (focus (refine mkHid (Below.step ?_ hbwf); repeat' first | (with_reducible refine Hid.out ?_; with_reducible assumption) | refine Below.drew ?_ | refine Below.alloc ?_ ?_ _ | omega | (simp <;> fail) | (simp <;> omega))); intro hBnwf)))
        all_goals go_wp2_with fail
        all_goals go_meet
        all_goals (try go_split_ands)
        all_goals (refine ⟨_, rfl, rfl, ?_, ?_, ?_, ?_, ?_, ?_, ?_, ?_, ?_⟩ <;> first | with_reducible assumption | (with_reducible refine fill_cell0 (u0 := .int .u64 0) (u1 := .int .u64 0) ?_ ?_ <;> assumption) | (with_reducible refine fill_cell1 (u0 := .int .u64 0) (u1 := .int .u64 0) ?_ ?_ <;> assumption) | (simp [*] <;> fail) | (repeat' first | (with_reducible refine Hid.out ?_; with_reducible assumption) | refine Below.drew ?_ | refine Below.setCell ?_ ?_ _ | refine Below.alloc ?_ ?_ _ | omega | (simp <;> fail) | (simp <;> omega)))
      case rest =>
        obtain ⟨nY, rfl, rfl, y0, y1, y2, y3, y4, y5, y6, y7, hbl⟩ := hcut
        have cnY := And.intro y0 y1
        have lnY : nY < wc.heap.size := World.block_lt_of_cell? wc _ y0
        try clear lA
        have cA := And.intro y2 y3
        have lA : w.heap.size < wc.heap.size := World.block_lt_of_cell? wc _ y2
        try clear lX
        have cX := And.intro y4 y5
        have lX : w2.heap.size < wc.heap.size := World.block_lt_of_cell? wc _ y4
        try clear lnP
        have cnP := And.intro y6 y7
        have lnP : nP < wc.heap.size := World.block_lt_of_cell? wc _ y6
        have HBel := mkHid hbl
        clear hbl y0 y1 y2 y3 y4 y5 y6 y7
        obtain ⟨i0, hi, hz0, hz1, hz2⟩ := info_parts info_u8
        go_wp2_with (at_builtin; refine wpList_append_own _ rfl _ _ 25 rfl wc.heap.size 5 i0 (.int .u8 0) 1 1 Try.underlying25 hi hz0 hz1 hz2 rfl (by decide) _ 0 [] rfl (World.ownsRow_nil _ _ _ _) ad 0 0 [] rfl rfl (by intro j u hu; simp at hu) (by intro u hu; simp at hu) (by unfold maxLen; omega) (by omega) (Nat.le_refl _) ?_)
        intro v0 w3 hown hgrow hnil
        obtain rfl : v0 = .slice none 0 0 := hnil
        have HBel3 := mkHid (HBel.out.grown hgrow (by have := HBel.out.size; omega) (fun k e => by cases e))
        have cA3 := keepsG hgrow cA
        have cX3 := keepsG hgrow cX
        have cY3 := keepsG hgrow cnY
        clear hown hgrow cA cX cnY cnP HBel
        have HBel := HBel3
        have cA := cA3
        have cX := cX3
        have cnY := cY3
        unfold Two at cA cX cnY
        go_wp2_with fail
        refine wp_loop_rounds 1 ?_
        rw [rounds_succ]
        go_wp2_with fail
        refine (fold_eq (l := []) K3 lZ.out rfl rfl _ _ _ lZ5.out (Nat.zero_le _) (Bytes.nil _ _)).mono ?_
        rintro e w4 ⟨rfl, hb4⟩
        have d1 := twoKeep hb4 cA
        have d2 := twoKeep hb4 cX
        have d3 := twoKeep hb4 cnY
        have Hb4 := mkHid (HBel.out.step hb4)
        have e1 := World.block_lt_of_cell? w4 _ d1.1
        have e2 := World.block_lt_of_cell? w4 _ d2.1
        have e3 := World.block_lt_of_cell? w4 _ d3.1
        unfold Two at d1 d2 d3
        dsimp only at e1 e2 e3
        clear hb4 cA cX cnY
        go_wp2_with fail
        go_ret
        exact ⟨rfl, Hb4.out.alloc Hb4.out.size _⟩

set_option maxRecDepth 100000 in
set_option maxHeartbeats 2000000 in
theorem walk_MixParts_nil5 (a0 a1 : BitVec 64) (ad : Addr) (cap : Nat) (hnc : ¬ cap = 0) (hm : cap ≤ 9223372036854775807) (c : Int) (hc0 : 0 ≤ c) (hc1 : c ≤ 255) (w : World) :
    Calls Try.prog 3 #[.agg #[.int .u64 (U a0), .int .u64 (U a1)], .slice (some ad) 0 cap, .int .u8 c] w fun e w' => e = .returned (.bool true) ∧ Below w.heap.size w w' := by
  have hq := eq_blocks
  have K3 : Hid (foldB [] (a0, a1) = (a0, a1)) := mkHid (foldB_nil _)
  have lZ : Hid (0 = ([] : List (BitVec 8)).length) := mkHid rfl
  have lZ5 : Hid (([] : List (BitVec 8)).length ≤ 65536) := mkHid (Nat.zero_le _)
  go_enter Try.func3, Try.ntmps3
  go_wp2_with fail
  refine (live03 _).mono ?_
  rintro e w1 ⟨rfl, hb1⟩
  have bA := Blk.keep (n := w.heap.size) (t := 24) (cs := #[.int .u64 (U a0), .int .u64 (U a1)]) (by repeat' first | refine Blk.drew ?_ | exact Blk.at _ _ _ (by simp) | refine Blk.alloc ?_ _) hb1
  have hBN := Below.step (w := w) (by repeat' first | exact Below.refl _ _ | refine Below.drew ?_ | refine below_drewN ?_ _ | refine Below.alloc ?_ (by first | (simp; done) | (simp; omega)) _) hb1
  clear hb1
  have cA := bA.two
  have HA := mkHid bA
  have lA := bA.lt
  clear bA
  have HBel := mkHid hBN
  clear hBN
  go_upto_region 4 with fail
  go_cut [8] (fun s8 wx => s8 = .int .i64 0 ∧ wx = w1)
  case first =>
    go_wp2_with fail
    all_goals go_meet
    all_goals exact ⟨by first | rfl | (congr 1; omega), rfl⟩
  case rest =>
    obtain ⟨rfl, rfl⟩ := hcut
    go_wp2_with fail
    refine (fold_eq (l := []) K3 lZ.out rfl rfl _ cap _ lZ5.out (Nat.zero_le _) (Bytes.nil _ _)).mono ?_
    rintro e w2 ⟨rfl, hb2⟩
    have bA := Blk.keep (n := w.heap.size) (t := 24) (cs := #[.int .u64 (U a0), .int .u64 (U a1)]) (by repeat' first | with_reducible exact HA.out | refine Blk.drew ?_ | exact Blk.at _ _ _ (by simp) | refine Blk.alloc ?_ _) hb2
    have hBN := Below.step (w := w) (by repeat' first | with_reducible exact HBel.out | exact Below.refl _ _ | refine Below.drew ?_ | refine below_drewN ?_ _ | refine Below.alloc ?_ (by first | (simp; done) | (have := HBel.out.size; simp; omega)) _) hb2
    clear cA HA lA HBel hb2
    have cA := bA.two
    have HA := mkHid bA
    have lA := bA.lt
    clear bA
    have HBel := mkHid hBN
    clear hBN
    go_wp2_with fail
    go_upto_region 6 with fail
    
    have ne0 : w2.heap.size + 1 ≠ w.heap.size := by omega
    have ne1 : w2.heap.size + 1 ≠ w2.heap.size := by omega
    go_cut [11, 12] (fun s11 s12 wx => ∃ n : Nat, s11 = .pointer (some ⟨n, 0, none⟩) ∧ s12 = .int .i64 0 ∧ wx.cell? ⟨n, 0, none⟩ = some (.int .u64 (U a0)) ∧ wx.cell? ⟨n, 1, none⟩ = some (.int .u64 (U a1)) ∧ wx.cell? ⟨w.heap.size, 0, none⟩ = some (.int .u64 (U a0)) ∧ wx.cell? ⟨w.heap.size, 1, none⟩ = some (.int .u64 (U a1)) ∧ wx.cell? ⟨w2.heap.size, 0, none⟩ = some (.int .u64 (U a0)) ∧ wx.cell? ⟨w2.heap.size, 1, none⟩ = some (.int .u64 (U a1)) ∧ Below w.heap.size w wx)
    case first =>
      have HBel0 := mkHid HBel.out
      clear HBel0
      go_region_held3 (fun w' => w'.cell? ⟨w.heap.size, 0, none⟩ = some (.int .u64 (U a0)) ∧ w'.cell? ⟨w.heap.size, 1, none⟩ = some (.int .u64 (U a1)) ∧ w'.cell? ⟨w2.heap.size, 0, none⟩ = some (.int .u64 (U a0)) ∧ w'.cell? ⟨w2.heap.size, 1, none⟩ = some (.int .u64 (U a1)))
        (first | ((try dsimp only); (try go_split_ands); refine ⟨?_, ?_, ?_, ?_⟩ <;> with_reducible assumption) | (go_keep; done))
        (first
            | (go_at_call 17; ((with_reducible refine (fold_eq (l := []) K3 lZ.out rfl rfl _ _ _ lZ5.out ?_ (Bytes.nil _ _)).mono ?_); (focus (omega)); (try go_split_ands); rintro e wf ⟨rfl, hbwf⟩; refine cutIn (p := wf.cell? ⟨w.heap.size, 0, none⟩ = some (.int .u64 (U a0))) ?_ ?_; (focus (refine keeps hbwf ?_; (first | with_reducible assumption | (simp [*] <;> fail)))); intro fc0; refine cutIn (p := wf.cell? ⟨w.heap.size, 1, none⟩ = some (.int .u64 (U a1))) ?_ ?_; (focus (refine keeps hbwf ?_; (first | with_reducible assumption | (simp [*] <;> fail)))); intro fc1; refine cutIn (p := wf.cell? ⟨w2.heap.size, 0, none⟩ = some (.int .u64 (U a0))) ?_ ?_; (focus (refine keeps hbwf ?_; (first | with_reducible assumption | (simp [*] <;> fail)))); intro fc2; refine cutIn (p := wf.cell? ⟨w2.heap.size, 1, none⟩ = some (.int .u64 (U a1))) ?_ ?_; (focus (refine keeps hbwf ?_; (first | with_reducible assumption | (simp [*] <;> fail)))); intro fc3; (try (refine cutIn (p := wf.cell? ⟨w2.heap.size + 1, 0, none⟩ = some (.int .u64 0)) ?_ ?_; (focus (refine keeps hbwf ?_; (first | with_reducible assumption | (simp [*] <;> fail)))); intro z)); (try (refine cutIn (p := wf.frozen? ⟨w2.heap.size + 1, 0, none⟩ = false) ?_ ?_; (focus (refine keepsF (v := .int .u64 0) hbwf ?_ ?_ <;> (first | with_reducible assumption | (simp [*] <;> fail)))); intro z)); (try (refine cutIn (p := wf.cell? ⟨w2.heap.size + 1, 1, none⟩ = some (.int .u64 0)) ?_ ?_; (focus (refine keeps hbwf ?_; (first | with_reducible assumption | (simp [*] <;> fail)))); intro z)); (try (refine cutIn (p := wf.frozen? ⟨w2.heap.size + 1, 1, none⟩ = false) ?_ ?_; (focus (refine keepsF (v := .int .u64 0) hbwf ?_ ?_ <;> (first | with_reducible assumption | (simp [*] <;> fail)))); intro z)); have nfwf0 := World.new_ne wf ⟨w.heap.size, 0, none⟩ fc0; have nfwf1 := World.new_ne wf ⟨w2.heap.size, 0, none⟩ fc2; have zwf : w.heap.size < wf.heap.size := World.block_lt_of_cell? wf _ fc0; refine cutIn (p := Hid (Below w.heap.size w wf)) ?_ ?_; (focus (refine mkHid (Below.step ?_ hbwf); repeat' first | (with_reducible refine Hid.out ?_; with_reducible assumption) | refine Below.drew ?_ | refine Below.alloc ?_ ?_ _ | omega | (simp <;> fail) | (simp <;> omega))); intro hBnwf)))
      all_goals go_wp2_with fail
      all_goals go_meet
      all_goals (try go_split_ands)
      all_goals (refine ⟨_, rfl, rfl, ?_, ?_, ?_, ?_, ?_, ?_, ?_⟩ <;> first | with_reducible assumption | (with_reducible refine fill_cell0 (u0 := .int .u64 0) (u1 := .int .u64 0) ?_ ?_ <;> assumption) | (with_reducible refine fill_cell1 (u0 := .int .u64 0) (u1 := .int .u64 0) ?_ ?_ <;> assumption) | (simp [*] <;> fail) | (repeat' first | (with_reducible refine Hid.out ?_; with_reducible assumption) | refine Below.drew ?_ | refine Below.setCell ?_ ?_ _ | refine Below.alloc ?_ ?_ _ | omega | (simp <;> fail) | (simp <;> omega)))
    case rest =>
      obtain ⟨nP, rfl, rfl, y0, y1, y2, y3, y4, y5, hbl⟩ := hcut
      have cnP := And.intro y0 y1
      have lnP : nP < wc.heap.size := World.block_lt_of_cell? wc _ y0
      try clear lA
      have cA := And.intro y2 y3
      have lA : w.heap.size < wc.heap.size := World.block_lt_of_cell? wc _ y2
      try clear lX
      have cX := And.intro y4 y5
      have lX : w2.heap.size < wc.heap.size := World.block_lt_of_cell? wc _ y4
      have HBel := mkHid hbl
      clear hbl y0 y1 y2 y3 y4 y5
      go_wp2_with fail
      go_upto_region 7 with fail
      
      have ne0 : wc.heap.size ≠ w.heap.size := by omega
      have ne1 : wc.heap.size ≠ w2.heap.size := by omega
      have ne2 : wc.heap.size ≠ nP := by omega
      go_cut [13, 14] (fun s13 s14 wx => ∃ n : Nat, s13 = .pointer (some ⟨n, 0, none⟩) ∧ s14 = .int .i64 0 ∧ wx.cell? ⟨n, 0, none⟩ = some (.int .u64 (U a0)) ∧ wx.cell? ⟨n, 1, none⟩ = some (.int .u64 (U a1)) ∧ wx.cell? ⟨w.heap.size, 0, none⟩ = some (.int .u64 (U a0)) ∧ wx.cell? ⟨w.heap.size, 1, none⟩ = some (.int .u64 (U a1)) ∧ wx.cell? ⟨w2.heap.size, 0, none⟩ = some (.int .u64 (U a0)) ∧ wx.cell? ⟨w2.heap.size, 1, none⟩ = some (.int .u64 (U a1)) ∧ wx.cell? ⟨nP, 0, none⟩ = some (.int .u64 (U a0)) ∧ wx.cell? ⟨nP, 1, none⟩ = some (.int .u64 (U a1)) ∧ Below w.heap.size w wx)
      case first =>
        have HBel0 := mkHid HBel.out
        clear HBel0
        go_region_held3 (fun w' => w'.cell? ⟨w.heap.size, 0, none⟩ = some (.int .u64 (U a0)) ∧ w'.cell? ⟨w.heap.size, 1, none⟩ = some (.int .u64 (U a1)) ∧ w'.cell? ⟨w2.heap.size, 0, none⟩ = some (.int .u64 (U a0)) ∧ w'.cell? ⟨w2.heap.size, 1, none⟩ = some (.int .u64 (U a1)) ∧ w'.cell? ⟨nP, 0, none⟩ = some (.int .u64 (U a0)) ∧ w'.cell? ⟨nP, 1, none⟩ = some (.int .u64 (U a1)))
          (first | ((try dsimp only); (try go_split_ands); refine ⟨?_, ?_, ?_, ?_, ?_, ?_⟩ <;> with_reducible assumption) | (go_keep; done))
          (first
              | (go_at_call 17; ((with_reducible refine (fold_eq (l := []) K3 lZ.out rfl rfl _ _ _ lZ5.out ?_ (Bytes.nil _ _)).mono ?_); (focus (omega)); (try go_split_ands); rintro e wf ⟨rfl, hbwf⟩; refine cutIn (p := wf.cell? ⟨w.heap.size, 0, none⟩ = some (.int .u64 (U a0))) ?_ ?_; (focus (refine keeps hbwf ?_; (first | with_reducible assumption | (simp [*] <;> fail)))); intro fc0; refine cutIn (p := wf.cell? ⟨w.heap.size, 1, none⟩ = some (.int .u64 (U a1))) ?_ ?_; (focus (refine keeps hbwf ?_; (first | with_reducible assumption | (simp [*] <;> fail)))); intro fc1; refine cutIn (p := wf.cell? ⟨w2.heap.size, 0, none⟩ = some (.int .u64 (U a0))) ?_ ?_; (focus (refine keeps hbwf ?_; (first | with_reducible assumption | (simp [*] <;> fail)))); intro fc2; refine cutIn (p := wf.cell? ⟨w2.heap.size, 1, none⟩ = some (.int .u64 (U a1))) ?_ ?_; (focus (refine keeps hbwf ?_; (first | with_reducible assumption | (simp [*] <;> fail)))); intro fc3; refine cutIn (p := wf.cell? ⟨nP, 0, none⟩ = some (.int .u64 (U a0))) ?_ ?_; (focus (refine keeps hbwf ?_; (first | with_reducible assumption | (simp [*] <;> fail)))); intro fc4; refine cutIn (p := wf.cell? ⟨nP, 1, none⟩ = some (.int .u64 (U a1))) ?_ ?_; (focus (refine keeps hbwf ?_; (first | with_reducible assumption | (simp [*] <;> fail)))); intro fc5; (try (refine cutIn (p := wf.cell? ⟨wc.heap.size, 0, none⟩ = some (.int .u64 0)) ?_ ?_; (focus (refine keeps hbwf ?_; (first | with_reducible assumption | (simp [*] <;> fail)))); intro z)); (try (refine cutIn (p := wf.frozen? ⟨wc.heap.size, 0, none⟩ = false) ?_ ?_; (focus (refine keepsF (v := .int .u64 0) hbwf ?_ ?_ <;> (first | with_reducible assumption | (simp [*] <;> fail)))); intro z)); (try (refine cutIn (p := wf.cell? ⟨wc.heap.size, 1, none⟩ = some (.int .u64 0)) ?_ ?_; (focus (refine keeps hbwf ?_; (first | with_reducible assumption | (simp [*] <;> fail)))); intro z)); (try (refine cutIn (p := wf.frozen? ⟨wc.heap.size, 1, none⟩ = false) ?_ ?_; (focus (refine keepsF (v := .int .u64 0) hbwf ?_ ?_ <;> (first | with_reducible assumption | (simp [*] <;> fail)))); intro z)); have nfwf0 := World.new_ne wf ⟨w.heap.size, 0, none⟩ fc0; have nfwf1 := World.new_ne wf ⟨w2.heap.size, 0, none⟩ fc2; have nfwf2 := World.new_ne wf ⟨nP, 0, none⟩ fc4; have zwf : w.heap.size < wf.heap.size := World.block_lt_of_cell? wf _ fc0; refine cutIn (p := Hid (Below w.heap.size w wf)) ?_ ?_; (focus (refine mkHid (Below.step ?_ hbwf); repeat' first | (with_reducible refine Hid.out ?_; with_reducible assumption) | refine Below.drew ?_ | refine Below.alloc ?_ ?_ _ | omega | (simp <;> fail) | (simp <;> omega))); intro hBnwf)))
        all_goals go_wp2_with fail
        all_goals go_meet
        all_goals (try go_split_ands)
        all_goals (refine ⟨_, rfl, rfl, ?_, ?_, ?_, ?_, ?_, ?_, ?_, ?_, ?_⟩ <;> first | with_reducible assumption | (with_reducible refine fill_cell0 (u0 := .int .u64 0) (u1 := .int .u64 0) ?_ ?_ <;> assumption) | (with_reducible refine fill_cell1 (u0 := .int .u64 0) (u1 := .int .u64 0) ?_ ?_ <;> assumption) | (simp [*] <;> fail) | (repeat' first | (with_reducible refine Hid.out ?_; with_reducible assumption) | refine Below.drew ?_ | refine Below.setCell ?_ ?_ _ | refine Below.alloc ?_ ?_ _ | omega | (simp <;> fail) | (simp <;> omega)))
      case rest =>
        obtain ⟨nY, rfl, rfl, y0, y1, y2, y3, y4, y5, y6, y7, hbl⟩ := hcut
        have cnY := And.intro y0 y1
        have lnY : nY < wc.heap.size := World.block_lt_of_cell? wc _ y0
        try clear lA
        have cA := And.intro y2 y3
        have lA : w.heap.size < wc.heap.size := World.block_lt_of_cell? wc _ y2
        try clear lX
        have cX := And.intro y4 y5
        have lX : w2.heap.size < wc.heap.size := World.block_lt_of_cell? wc _ y4
        try clear lnP
        have cnP := And.intro y6 y7
        have lnP : nP < wc.heap.size := World.block_lt_of_cell? wc _ y6
        have HBel := mkHid hbl
        clear hbl y0 y1 y2 y3 y4 y5 y6 y7
        obtain ⟨i0, hi, hz0, hz1, hz2⟩ := info_parts info_u8
        go_wp2_with (at_builtin; refine wpList_append_own _ rfl _ _ 25 rfl wc.heap.size 5 i0 (.int .u8 0) 1 1 Try.underlying25 hi hz0 hz1 hz2 rfl (by decide) _ 0 [] rfl (World.ownsRow_nil _ _ _ _) ad 0 cap [] rfl rfl (by intro j u hu; simp at hu) (by intro u hu; simp at hu) (by unfold maxLen; omega) (by omega) (Nat.le_refl _) ?_)
        intro v0 w3 hown hgrow hnil
        obtain rfl : v0 = .slice none 0 0 := hnil
        have HBel3 := mkHid (HBel.out.grown hgrow (by have := HBel.out.size; omega) (fun k e => by cases e))
        have cA3 := keepsG hgrow cA
        have cX3 := keepsG hgrow cX
        have cY3 := keepsG hgrow cnY
        clear hown hgrow cA cX cnY cnP HBel
        have HBel := HBel3
        have cA := cA3
        have cX := cX3
        have cnY := cY3
        unfold Two at cA cX cnY
        go_wp2_with fail
        refine wp_loop_rounds 1 ?_
        rw [rounds_succ]
        go_wp2_with fail
        refine (fold_eq (l := []) K3 lZ.out rfl rfl _ _ _ lZ5.out (Nat.zero_le _) (Bytes.nil _ _)).mono ?_
        rintro e w4 ⟨rfl, hb4⟩
        have d1 := twoKeep hb4 cA
        have d2 := twoKeep hb4 cX
        have d3 := twoKeep hb4 cnY
        have Hb4 := mkHid (HBel.out.step hb4)
        have e1 := World.block_lt_of_cell? w4 _ d1.1
        have e2 := World.block_lt_of_cell? w4 _ d2.1
        have e3 := World.block_lt_of_cell? w4 _ d3.1
        unfold Two at d1 d2 d3
        dsimp only at e1 e2 e3
        clear hb4 cA cX cnY
        go_wp2_with fail
        go_ret
        exact ⟨rfl, Hb4.out.alloc Hb4.out.size _⟩

theorem walk_MixParts (a0 a1 : BitVec 64) (a : Option Addr) (l : List (BitVec 8)) (cap : Nat) (hcap : l.length ≤ cap) (hm : cap ≤ maxLen) {w : World} (hL : Bytes w a l) (hnil : a = none → cap = 0) (c : Int) (wc : (Lit.int .u8 c).wf = true) :
    Calls Try.prog 3 #[.agg #[.int .u64 (U a0), .int .u64 (U a1)], .slice a l.length cap, .int .u8 c] w fun e w' => e = .returned (.bool true) ∧ Below w.heap.size w w' := by
  have hmin : IntKind.u8.min = 0 := rfl
  have hmax : IntKind.u8.max = 255 := rfl
  simp only [Lit.wf, Bool.and_eq_true, decide_eq_true_eq, hmin, hmax] at wc
  unfold maxLen at hm
  by_cases h5 : 500 < l.length
  · exact walk_MixParts_long a0 a1 a l cap c h5 w
  by_cases h0 : l = []
  · subst h0
    cases a with
    | none => rw [hnil rfl]; exact walk_MixParts_nil3 a0 a1 c wc.1 wc.2 w
    | some ad =>
      by_cases hc : cap = 0
      · subst hc; exact walk_MixParts_nil4 a0 a1 ad c wc.1 wc.2 w
      · exact walk_MixParts_nil5 a0 a1 ad cap hc (by omega) c wc.1 wc.2 w
  have hlen : 0 < l.length := by
    cases l with
    | nil => exact absurd rfl h0
    | cons => simp
  rcases hL with h | ⟨b, off, rfl, hc⟩
  · exact absurd h h0
  have hL : Bytes w (some ⟨b, off, none⟩) l := .inr ⟨b, off, rfl, hc⟩
  obtain ⟨m, hmm, hml⟩ : ∃ m : Nat, min (16 * c) ((l.length : Int) / 16 * 16) = ((16 * m : Nat) : Int) ∧ 16 * m ≤ l.length := by
    by_cases hle : 16 * c ≤ (l.length : Int) / 16 * 16
    · exact ⟨c.toNat, by rw [Int.min_eq_left hle]; omega, by omega⟩
    · exact ⟨l.length / 16, by rw [Int.min_eq_right (by omega)]; omega, by omega⟩
  by_cases hcm : cap = 16 * m
  · have e : l.length = 16 * m := by omega
    have e2 : cap = l.length := by omega
    subst e2
    exact walk_MixParts_yes2 a0 a1 b off l c (by omega) hlen wc.1 wc.2 (mkHid (by rw [hmm, e])) w hL
  · exact walk_MixParts_yes1 a0 a1 b off l cap c (by omega) hlen hcap (by omega) wc.1 wc.2 m (mkHid hmm) hml hcm w hL
end Go.Proofs.Ytdaodopeodheeaa
