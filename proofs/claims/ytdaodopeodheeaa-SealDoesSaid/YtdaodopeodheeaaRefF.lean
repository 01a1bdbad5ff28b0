/- The contract of the third chapter's answer: Fold. -/
import Derived.Test.YtdaodopeodheeaaRefC
import Derived.Shelf.Spec.SlicesInsert
namespace Go.Proofs.Ytdaodopeodheeaa
open Go.RowKit Go.Lib

theorem size_u8 : (Try.prog.info? 5).map (·.size) = some 1 := by kernel_rfl
theorem setCells_below {base g : Nat} (hg : base ≤ g) : ∀ (vs : List Value) (o : Nat) (w w0 : World), Below base w0 w → Below base w0 (w.setCells g o vs)
  | [], _, _, _, h => h
  | v :: r, o, w, w0, h => by rw [World.setCells]; exact setCells_below hg r (o + 1) _ _ (h.setCell hg _)
def byteCells (l : List (BitVec 8)) : List Value := l.map fun x => Value.int .u8 (B x)
theorem byteCells_get (l : List (BitVec 8)) (i : Nat) (h : i < l.length) : (byteCells l)[i]? = some (.int .u8 (B (l.getD i 0))) := by
  unfold byteCells
  rw [List.getElem?_map, List.getD_eq_getElem?_getD, List.getElem?_eq_getElem h]; rfl
set_option maxRecDepth 100000 in
set_option maxHeartbeats 400000 in
theorem rfold_long (x y : BitVec 64) (a : Option Addr) (n cap : Nat) (w : World) (hn : 65536 < n) :
    Calls Try.prog 19 #[.agg #[.int .u64 (U x), .int .u64 (U y)], .slice a n cap] w fun e w' => e = .returned (.tuple #[.agg #[.int .u64 0, .int .u64 0], .int .i64 3]) ∧ Below w.heap.size w w' := by
  have e1 : decide ((65536 : Int) < (n : Int)) = true := decide_eq_true (by omega)
  go_enter Try.func19, Try.ntmps19
  go_wp2_with fail
  refine bodyPost_ret (v := .tuple #[.agg #[.int .u64 0, .int .u64 0], .int .i64 3]) (by simp [results, Try.results19, go_sem]) rfl ⟨rfl, ?_⟩
  exact ((Below.refl _ _).alloc (Nat.le_refl _) _).alloc (by simp) _
/-- a piece of sixteen octets, laid into a new row, zeros behind it -/
theorem piece_laid {wr : World} {b o : Nat} {pc : List (BitVec 8)} {x y : BitVec 64} (h16 : pc.length ≤ 16) (h0 : 0 < pc.length) (hc : ∀ i, i < pc.length → wr.cell? ⟨b, o + i, none⟩ = some (.int .u8 (B (pc.getD i 0)))) {r cp : Nat} (hr : pc.length = min r 16) :
    (∀ ty, (Builtin.copy_ #[25, 25] ty #[.slice (some ⟨wr.heap.size, 0, none⟩) 16 16, .slice (some ⟨b, o, none⟩) r cp]).run Try.prog (wr.alloc (.cells (octTo 0 (x, y)) 5)) = .ok (goInt pc.length) ((wr.alloc (.cells (octTo 0 (x, y)) 5)).setCells wr.heap.size 0 (byteCells pc))) ∧
    Below wr.heap.size wr ((wr.alloc (.cells (octTo 0 (x, y)) 5)).setCells wr.heap.size 0 (byteCells pc)) ∧
    (∀ i, i < (padB pc).length → ((wr.alloc (.cells (octTo 0 (x, y)) 5)).setCells wr.heap.size 0 (byteCells pc)).cell? ⟨wr.heap.size, 0 + i, none⟩ = some (.int .u8 (B ((padB pc).getD i 0)))) := by
  have hl : (byteCells pc).length = pc.length := by simp [byteCells]
  have hB := Blk.new wr 5 (octTo 0 (x, y))
  have hz : ∀ j, j < 16 → (wr.alloc (.cells (octTo 0 (x, y)) 5)).cell? ⟨wr.heap.size, 0 + j, none⟩ = some (.int .u8 0) := fun j hj => by
    rw [Nat.zero_add, hB.cell, octTo_get, if_pos hj, if_neg (by omega)]
  refine ⟨fun ty => ?_, setCells_below (Nat.le_refl _) _ _ _ _ ((Below.refl _ _).alloc (Nat.le_refl _) _), fun i hi => ?_⟩
  · rw [← hl]
    refine run_copy_cells _ _ _ ty 5 wr.heap.size 0 16 16 ⟨b, o, none⟩ r cp (byteCells pc) Try.underlying25 size_u8 (by rw [hl]; exact hr) (fun j v hj => ?_) (fun j hj => ?_) (fun j hj => ?_) (fun v hv => ?_)
    · have hj' : j < pc.length := by
        have := (List.getElem?_eq_some_iff.1 hj).1
        rwa [hl] at this
      rw [byteCells_get pc j hj'] at hj
      cases hj
      have hc' := hc j hj'
      have hadd : (⟨b, o, none⟩ : Addr).add j = ⟨b, o + j, none⟩ := by unfold Addr.add; split <;> simp_all
      rw [hadd]
      exact keeps ((Below.refl _ _).alloc (Nat.le_refl _) _) hc'
    · rw [hz j (by omega)]; rfl
    · exact hB.frozen _
    · obtain ⟨x, _, rfl⟩ := List.mem_map.1 hv
      rfl
  · rw [padB_length h16] at hi
    rw [padB_getD]
    by_cases c : i < pc.length
    · rw [World.cell?_setCells_in wr.heap.size (byteCells pc) 0 _ (fun j hj => by rw [hz j (by omega)]; rfl) i (by omega)]
      have := byteCells_get pc i c
      rw [List.getElem?_eq_getElem (by omega)] at this
      exact this
    · rw [World.cell?_setCells_out wr.heap.size _ 0 _ _ (fun _ _ => .inr (by rw [hl]; show 0 + pc.length ≤ 0 + i; omega)), hz i hi, getD_ge pc i (by omega)]
      rfl
def lenV : Value → Nat | .slice _ n _ => n | _ => 0
set_option maxRecDepth 100000 in
set_option maxHeartbeats 4000000 in
theorem rfold_some (x y : BitVec 64) (b off cap : Nat) (l : List (BitVec 8)) (w : World) (hl : l.length ≤ 65536) (hcap : l.length ≤ cap) (hc : ∀ i, i < l.length → w.cell? ⟨b, off + i, none⟩ = some (.int .u8 (B (l.getD i 0)))) (a : Option Addr) (ha : 0 < l.length → a = some ⟨b, off, none⟩) {z0 z1 : BitVec 64} (hz : Hid (foldB l (x, y) = (z0, z1))) :
    Calls Try.prog 19 #[.agg #[.int .u64 (U x), .int .u64 (U y)], .slice a l.length cap] w fun e w' =>
      e = .returned (.tuple #[.agg #[.int .u64 (U z0), .int .u64 (U z1)], .int .i64 0]) ∧ Below w.heap.size w w' := by
  have e0 : decide ((65536 : Int) < (l.length : Int)) = false := decide_eq_false (by omega)
  have hmk : ∀ w : World, (Instr.makeSlice 25 (.int .i64 16) (.int .i64 16)).run Try.prog w = .ok (.slice (some ⟨w.heap.size, 0, none⟩) 16 16) (w.alloc (.cells (octTo 0 (x, y)) 5)) := fun _ => by kernel_rfl
  have HC := mkHid hc
  have HA := mkHid ha
  clear hc ha
  go_enter Try.func19, Try.ntmps19
  go_wp2_with fail
  go_loopw [1] (fun v wr => ∃ (j r cp : Nat) (a' : Option Addr), v = .slice a' r cp ∧ r = l.length - 16 * j ∧ r ≤ cp ∧ (0 < r → a' = some ⟨b, off + 16 * j, none⟩) ∧ j ≤ (l.length + 15) / 16 ∧
      Hid (Blk wr w.heap.size 24 #[.int .u64 (U (foldTo j l (x, y)).1), .int .u64 (U (foldTo j l (x, y)).2)]) ∧ Hid (Blk wr (w.heap.size + 1) 24 #[.int .u64 0, .int .u64 0]) ∧ Hid (Below w.heap.size w wr)) (fun v _ => lenV v)
  case atStart => exact ⟨0, l.length, cap, a, rfl, by omega, hcap, by rw [Nat.mul_zero, Nat.add_zero]; exact HA.out, by omega, by rw [foldTo_zero]; exact (Blk.new _ _ _).alloc _, Blk.at _ _ _ (by simp), ((Below.refl _ _).alloc (Nat.le_refl _) _).alloc (by simp) _⟩
  case round =>
    obtain ⟨j, r, cp, a', rfl, hr, hrc, ha', hj, HB, HR, HK⟩ := hrel
    have HS := mkHid (foldTo_succ j l (x, y))
    have HZ : Hid (16 * j = l.length - r ∨ r = 0) := mkHid (by omega)
    have HF : Hid (r = 0 → foldTo j l (x, y) = (z0, z1)) := mkHid fun h0 => by
      have : j = (l.length + 15) / 16 := by omega
      rw [this]; exact hz.out
    by_cases h0 : 0 < r
    · have ea := ha' h0
      subst ea
      have hpl : Hid (((l.drop (16 * j)).take 16).length = min r 16 ∧ ((l.drop (16 * j)).take 16).length ≤ 16 ∧ 0 < ((l.drop (16 * j)).take 16).length) := mkHid (by simp; omega)
      have hpc : ∀ i, i < ((l.drop (16 * j)).take 16).length → wr.cell? ⟨b, off + 16 * j + i, none⟩ = some (.int .u8 (B (((l.drop (16 * j)).take 16).getD i 0))) := fun i hi => by
        have hi' : i < 16 ∧ 16 * j + i < l.length := by simp at hi; omega
        have h := HC.out (16 * j + i) hi'.2
        rw [Nat.add_assoc]
        refine (HK.out.cell (World.block_lt_of_cell? w _ h)).trans (h.trans ?_)
        simp [List.getD, List.getElem?_drop, hi'.1]
      have HN : Hid (l.length - 16 * (j + 1) = r - min r 16 ∧ j + 1 ≤ (l.length + 15) / 16 ∧ (min r 16 < r → off + 16 * (j + 1) = off + 16 * j + min r 16)) := mkHid (by omega)
      generalize (l.drop (16 * j)).take 16 = pc at *
      generalize off + 16 * j = o at *
      obtain ⟨hcp, hbW, hcW⟩ := piece_laid (x := x) (y := y) hpl.out.2.1 hpl.out.2.2 hpc (r := r) (cp := cp) hpl.out.1
      rw [hpl.out.1] at hcp
      have b8 := padB_length hpl.out.2.1
      have hbk := blockOf_padB pc
      clear hpc
      obtain ⟨W1, hW1⟩ : ∃ W1, W1 = (wr.alloc (.cells (octTo 0 (x, y)) 5)).setCells wr.heap.size 0 (byteCells pc) := ⟨_, rfl⟩
      rw [← hW1] at hcp hbW hcW
      clear hW1
      obtain ⟨p8, hp8⟩ : ∃ p, Hid (num ((padB pc).take 8) = p) := ⟨_, mkHid rfl⟩
      obtain ⟨q8, hq8⟩ : ∃ p, Hid (num ((padB pc).drop 8) = p) := ⟨_, mkHid rfl⟩
      have hblk : blockOf pc = (p8, q8) := by rw [← hbk, ← two_nums, hp8.out, hq8.out]
      rw [hblk] at HS
      have HT : Hid (Bytes W1.drew (some ⟨wr.heap.size, 0, none⟩) ((padB pc).take 8)) := mkHid (Bytes.take8 hcW)
      have HD : Hid (Bytes W1.drew (some ⟨wr.heap.size, 8, none⟩) ((padB pc).drop 8)) := mkHid (by have := Bytes.drop8 hcW; rwa [Nat.zero_add] at this)
      have l8 : Hid (8 = ((padB pc).take 8).length ∧ ((padB pc).take 8).length ≤ 100) := mkHid (by rw [List.length_take, b8]; decide)
      have d8 : Hid (8 = ((padB pc).drop 8).length ∧ ((padB pc).drop 8).length ≤ 100) := mkHid (by rw [List.length_drop, b8]; decide)
      obtain ⟨x1, y1, h1⟩ : ∃ x1 y1, foldTo j l (x, y) = (x1, y1) := ⟨_, _, rfl⟩
      rw [h1] at HB HS
      dsimp only at HB
      obtain ⟨x2, hx2⟩ : ∃ x2, Hid (x1 ^^^ p8 = x2) := ⟨_, mkHid rfl⟩
      obtain ⟨y2, hy2⟩ : ∃ y2, Hid (y1 ^^^ q8 = y2) := ⟨_, mkHid rfl⟩
      obtain ⟨m0, m1, hm⟩ := pair_ex (mixTo 8 (x2, y2))
      have HM := mkHid hm
      have HS' : Hid (foldTo (j + 1) l (x, y) = (m0, m1)) := mkHid (by rw [HS.out]; unfold xorB; dsimp only; rw [hx2.out, hy2.out, hm])
      have ZB := mkHid (HB.out.keep hbW)
      have ZR := mkHid (HR.out.keep hbW)
      have KB := mkHid (HK.out.step hbW)
      have cB := ZB.out.two
      have fB0 := ZB.out.frozen 0
      have fB1 := ZB.out.frozen 1
      have lB := ZB.out.lt
      clear hcW hbW hbk hblk HS h1 hm HB HR HK HF b8 hj hr
      go_wp2_with (at_builtin; refine wpList_copy_runI _ rfl _ _ 25 25 rfl _ _ rfl rfl (hcp _) ?_)
      all_goals go_region_with
        (first
          | (go_at_call 42; ((with_reducible refine (number_eq hp8 l8.out.1 l8.out.2 _ _ _ HT.out).mono ?_); rintro e w1 ⟨rfl, hw1⟩; obtain rfl := hw1.symm))
          | (go_at_call 42; ((with_reducible refine (number_eq hq8 d8.out.1 d8.out.2 _ _ _ HD.out).mono ?_); rintro e w1 ⟨rfl, hw1⟩; obtain rfl := hw1.symm))
          | (go_at_call 28; ((with_reducible refine (rxor_to rfl rfl rfl rfl hx2 hy2 _).mono ?_); rintro e w2 ⟨rfl, hb2⟩; have B2 := mkHid (ZB.out.drew.keep hb2); have R2 := mkHid (ZR.out.drew.keep hb2); have K2 := mkHid (KB.out.drew.step hb2); clear hb2))
          | (go_at_call 27; ((with_reducible refine (rmix_eq HM rfl rfl _).mono ?_); rintro e w3 ⟨rfl, hb3⟩; have B3 := mkHid (B2.out.keep hb3); have R3 := mkHid (R2.out.keep hb3); have K3 := mkHid (K2.out.step hb3); have c3 := B3.out.two; have f30 := B3.out.frozen 0; have f31 := B3.out.frozen 1; clear hb3)))
      all_goals go_wp2_with fail
      all_goals go_roundw
      all_goals first | exact ⟨j + 1, r - min r 16, _, _, rfl, HN.out.1.symm, by omega, fun h => by first | (exfalso; omega) | rw [HN.out.2.2 (by omega)], HN.out.2.1, mkHid (by rw [HS'.out]; exact B3.out.fill2), mkHid ((R3.out.other _ (by omega)).other _ (by omega)), mkHid ((K3.out.setCell (p := ⟨w.heap.size, 0, none⟩) (Nat.le_refl _) _).setCell (p := ⟨w.heap.size, 1, none⟩) (Nat.le_refl _) _)⟩ | (simp [lenV]; omega)
    · have h1 := HF.out (by omega)
      rw [h1] at HB
      dsimp only at HB
      have cB := HB.out.two
      have cR := HR.out.two
      have g0 := HR.out.frozen 0
      have g1 := HR.out.frozen 1
      have lR := HR.out.lt
      go_wp2_with fail
      have qR := (HR.out.fill2 (u := .int .u64 (U z0)) (v := .int .u64 (U z1))).two
      refine bodyPost_ret (v := .tuple #[.agg #[.int .u64 (U z0), .int .u64 (U z1)], .int .i64 0]) (by simp [results, Try.results19, go_sem, qR]) rfl ⟨rfl, ?_⟩
      exact (HK.out.setCell (p := ⟨w.heap.size + 1, 0, none⟩) (by simp) _).setCell (p := ⟨w.heap.size + 1, 1, none⟩) (by simp) _
theorem rfold_eq {n : Nat} {l : List (BitVec 8)} {x y z0 z1 : BitVec 64} (hz : Hid (foldB l (x, y) = (z0, z1))) (hn : n = l.length) (a : Option Addr) (cap : Nat) (w : World) (hl : l.length ≤ 65536) (hcap : n ≤ cap) (hB : Bytes w a l) :
    Calls Try.prog 19 #[.agg #[.int .u64 (U x), .int .u64 (U y)], .slice a n cap] w fun e w' => e = .returned (.tuple #[.agg #[.int .u64 (U z0), .int .u64 (U z1)], .int .i64 0]) ∧ Below w.heap.size w w' := by
  subst hn
  rcases hB with rfl | ⟨b, off, rfl, hc⟩
  · exact rfold_some x y 0 0 cap [] w hl hcap (fun i hi => absurd hi (by simp)) a (fun h => absurd h (by simp)) hz
  · exact rfold_some x y b off cap l w hl hcap hc _ (fun _ => rfl) hz
end Go.Proofs.Ytdaodopeodheeaa
