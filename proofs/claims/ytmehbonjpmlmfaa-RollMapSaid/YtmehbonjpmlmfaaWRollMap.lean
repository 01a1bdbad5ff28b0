/- The walk of RollMap: the Go text answers true and writes nothing that was there. -/
import Derived.Test.YtmehbonjpmlmfaaMapS
namespace Go.Proofs.Ytmehbonjpmlmfaa
open Go.RowKit Go.Proofs.YtmehbonjpmlmfaaW.PrintWords

set_option maxRecDepth 100000 in
set_option maxHeartbeats 8000000 in
theorem rmap_long {h room : Int} {l : List Nat} (hl : 100 < l.length)  (A : Option Addr) (c : Nat) (w : World) (_hA : Reads w A l) :
    Calls Try.prog 3 #[.int .i64 h, .int .i64 room, .slice A l.length c] w fun e w' => e = .returned (.bool true) ∧ Below w.heap.size w w' := by
  have t0 : decide ((100 : Int) < (l.length : Int)) = true := decide_eq_true (by omega)
  go_enter Try.func3, Try.ntmps3
  go_wp2_with fail
  refine (live18 _).mono ?_
  rintro e w1 ⟨rfl, hb1⟩
  have KB := mkHid hb1
  clear hb1
  go_wp2_with fail
  go_ret
  exact ⟨rfl, KB.out⟩

set_option maxRecDepth 100000 in
set_option maxHeartbeats 8000000 in
theorem rmap_bad {h room : Int} {l : List Nat} (hl : l.length ≤ 100) (e : Hid (rollCheck h room [] 0 = 1))  (A : Option Addr) (c : Nat) (w : World) (_hA : Reads w A l) :
    Calls Try.prog 3 #[.int .i64 h, .int .i64 room, .slice A l.length c] w fun e w' => e = .returned (.bool true) ∧ Below w.heap.size w w' := by
  have t0 : decide ((100 : Int) < (l.length : Int)) = false := decide_eq_false (by omega)
  go_enter Try.func3, Try.ntmps3
  go_wp2_with fail
  refine (live18 _).mono ?_
  rintro e w1 ⟨rfl, hb1⟩
  have KB := mkHid hb1
  clear hb1
  go_wp2_with fail
  refine (rnew_no e _).mono ?_
  rintro e w2 ⟨rfl, hb2⟩
  replace KB := mkHid (KB.out.step hb2)
  clear hb2
  go_wp2_with fail
  have sz := KB.out.size
  go_ret
  exact ⟨rfl, KB.out.alloc sz _⟩

set_option maxRecDepth 100000 in
set_option maxHeartbeats 8000000 in
theorem rmap_walk {h room : Int} {l : List Nat} {kk : Nat} (hl : l.length ≤ 100) (G0 : Hid (Good kk h room [] 0)) (hlb : ∀ j, l.getD j 0 < 18446744073709551616)  (A : Option Addr) (c : Nat) (w : World) (hA : Reads w A l) :
    Calls Try.prog 3 #[.int .i64 h, .int .i64 room, .slice A l.length c] w fun e w' => e = .returned (.bool true) ∧ Below w.heap.size w w' := by
  have t0 : decide ((100 : Int) < (l.length : Int)) = false := decide_eq_false (by omega)
  have HL := mkHid hA
  have KB : Hid (Below w.heap.size w w) := mkHid (Below.refl _ _)
  have e0 := mkHid G0.out.check
  have hmk : ∀ w : World, (Instr.makeMap 29 none).run Try.prog w = .ok (.map (some w.heap.size)) (w.alloc (.map #[] 0)) := fun _ => by kernel_rfl
  have HAB : Hid (∀ k, k < l.length → ∀ a, A = some a → a.block < w.heap.size) := mkHid fun k hk a e => by
    obtain ⟨a', e', c⟩ := hA.cell 0 (by omega)
    rw [e] at e'
    cases e'
    rw [addr_zero] at c
    exact World.block_lt_of_cell? w _ c
  clear hA
  go_enter Try.func3, Try.ntmps3
  go_wp2_with fail
  refine (live18 _).mono ?_
  rintro e w1 ⟨rfl, hb1⟩
  replace HL := mkHid (HL.out.below hb1)
  replace KB := mkHid (KB.out.step hb1)
  clear hb1
  go_wp2_with fail
  refine (rnew_yes e0 _).mono ?_
  rintro e w2 ⟨rfl, hb2⟩
  replace HL := mkHid (HL.out.below hb2)
  replace KB := mkHid (KB.out.step hb2)
  clear hb2
  have SZ := KB.out.size
  go_wp2_with fail
  have BL := ((Below.refl w2.heap.size w2).alloc (Nat.le_refl _) (.cells #[.int .i64 (h), .int .i64 (room), .slice none 0 0, .int .i64 (0)] 25)).alloc (by simp) (.map #[] 0)
  have ZR : Hid (Blk ((w2.alloc (.cells #[.int .i64 (h), .int .i64 (room), .slice none 0 0, .int .i64 (0)] 25)).alloc (.map #[] 0)) w2.heap.size 25 #[.int .i64 h, .int .i64 room, .slice none 0 0, .int .i64 0]) := mkHid ((Blk.new _ _ _).alloc _)
  have MM : Hid (MapOf ((w2.alloc (.cells #[.int .i64 (h), .int .i64 (room), .slice none 0 0, .int .i64 (0)] 25)).alloc (.map #[] 0)) (w2.heap.size + 1) 0 []) := mkHid (by have := MapOf.made (w2.alloc (.cells #[.int .i64 (h), .int .i64 (room), .slice none 0 0, .int .i64 (0)] 25)); simpa using this)
  replace HL := mkHid (HL.out.below BL)
  replace KB := mkHid (KB.out.step BL)
  have HS : Hid (Reads ((w2.alloc (.cells #[.int .i64 (h), .int .i64 (room), .slice none 0 0, .int .i64 (0)] 25)).alloc (.map #[] 0)) none []) := mkHid (Reads.nil _)
  clear BL
  go_loopw [11, 41] (fun v j wr => ∃ (k cap vc : Nat) (va : Option Addr) (s : List Nat) (n : Int), k ≤ l.length ∧ j = .int .i64 (k : Int) ∧ v = .int .i64 n ∧ 0 ≤ n ∧ n ≤ (k : Int) ∧ cap ≤ k ∧ s.length ≤ vc ∧ Hid (Good kk h room s n) ∧ Hid (Blk wr w2.heap.size 25 #[.int .i64 h, .int .i64 room, .slice va s.length vc, .int .i64 n]) ∧ Hid (MapOf wr (w2.heap.size + 1) cap s) ∧ Hid (Reads wr va s) ∧ Hid (Reads wr A l) ∧ Hid (Below w.heap.size w wr)) (fun _ j _ => l.length - (intOf j).toNat)
  case atStart => exact ⟨0, 0, 0, none, [], 0, by omega, rfl, rfl, by omega, by omega, by omega, by decide, G0, ZR, MM, HS, HL, KB⟩
  case round =>
    clear ZR MM HS HL KB
    obtain ⟨k, cap, vc, va, s, n, hk, rfl, rfl, n0, n1, hcap, hvc, HG, ZR, MM, HS, HL, KB⟩ := hrel
    have cZR := ZR.out.four
    have lZR := ZR.out.lt
    by_cases hlt : k < l.length
    · obtain ⟨ad, rfl, hc⟩ := HL.out.cell k hlt
      obtain ⟨x, hx⟩ : ∃ x, Hid (l.getD k 0 = x) := ⟨_, mkHid rfl⟩
      have hxb := hlb k
      rw [hx.out] at hc hxb
  
      obtain ⟨i, hxi⟩ : ∃ i, i = x / 2 := ⟨_, rfl⟩
      have hq : (x : Int) / 2 = (i : Int) := by omega
      have hib : i < 18446744073709551616 := by omega
      have hadb : ad.block < w.heap.size := HAB.out k hlt ad rfl
      have G := HG.out
      have hC1 := mkHid G.check
      have hnm : n ≠ 1099511627776 := by omega
      have nR : ¬ (wr.heap.size = w2.heap.size) := by omega
      have nR' : ¬ (w2.heap.size = wr.heap.size) := by omega
      have nM : ¬ (w2.heap.size + 1 = wr.heap.size) := by have := MM.out.lt; omega
      by_cases hib2 : i < 2 ^ kk
      · by_cases his : i ∈ s
        · have hI1 : Hid (rollIs h room s n i = (true, 0)) := mkHid (by rw [G.is hib2, decide_eq_true his])
          by_cases hev : x % 2 = 0
          · have hA1 : Hid (rollAdd h room s n i = (⟨0, 0, [], 0⟩, 5)) := mkHid (by unfold rollAdd; rw [if_pos ⟨G.check, by rw [G.has hib2]⟩, if_pos his])
            have hr : ((x : Int) % 2 == 0) = true := beq_iff_eq.2 (by omega)
            have his2 : (if i ∈ s then (1 : Int) else 0) = 1 := if_pos his
            clear hxi hx hxb G
            have KN : Below wr.heap.size wr (wr.alloc (.cells #[.int .i64 0, .int .i64 0, .slice none 0 0, .int .i64 0] 25)) := (Below.refl _ _).alloc (Nat.le_refl _) _
            have ZN0 : Blk (wr.alloc (.cells #[.int .i64 0, .int .i64 0, .slice none 0 0, .int .i64 0] 25)) wr.heap.size 25 #[.int .i64 0, .int .i64 0, .slice none 0 0, .int .i64 0] := Blk.new _ _ _
            go_wp2_with fail
            refine (revoke_any hA1 _ _ _ (HS.out.below KN)).mono ?_
            rintro e wa ⟨v1v, rfl, ho, hba⟩
            have RV := mkHid (RowOf.rebase (a := wr.heap.size + 1) ho (by simp))
            clear ho
            obtain ⟨v1, c1, rfl⟩ := RV.out.len
            have KA := mkHid (KN.step hba)
            have ZN := mkHid (ZN0.keep hba)
            clear hba ZN0 KN cZR
            have cR := (ZR.out.keep KA.out).four
            have lN := ZN.out.lt
            have cN := ZN.out.four
            have f0 := ZN.out.frozen 0
            have f1 := ZN.out.frozen 1
            have f2 := ZN.out.frozen 2
            have f3 := ZN.out.frozen 3
            have hlen := (MapOf.set4 (g := wr.heap.size) (MM.out.below KA.out) (by omega) (.int .i64 0) (.int .i64 0) (.slice v1 0 c1) (.int .i64 0)).len_run
            go_wp2_with (first | (at_lookup; refine wp_look rfl _ _ rfl (w2.heap.size + 1) cap s rfl (MapOf.set4 (MM.out.below KA.out) (by omega) _ _ _ _) i rfl hib ?_))
            have K4 : Hid (Below wr.heap.size wr ((((wa.setCell ⟨wr.heap.size, 0, none⟩ (.int .i64 0)).setCell ⟨wr.heap.size, 1, none⟩ (.int .i64 0)).setCell ⟨wr.heap.size, 2, none⟩ (.slice v1 0 c1)).setCell ⟨wr.heap.size, 3, none⟩ (.int .i64 0))) := mkHid (below_four KA.out (Nat.le_refl _) _ _ _ _)
            have Z4 : Hid (Blk ((((wa.setCell ⟨wr.heap.size, 0, none⟩ (.int .i64 0)).setCell ⟨wr.heap.size, 1, none⟩ (.int .i64 0)).setCell ⟨wr.heap.size, 2, none⟩ (.slice v1 0 c1)).setCell ⟨wr.heap.size, 3, none⟩ (.int .i64 0)) wr.heap.size 25 #[.int .i64 0, .int .i64 0, .slice v1 0 c1, .int .i64 0]) := mkHid ZN.out.fill4
            refine (ris hI1 _ _ _ (HS.out.below K4.out)).mono ?_
            rintro e wb ⟨rfl, hbb⟩
            have K5 := mkHid (K4.out.step hbb)
            have Z5 := mkHid (Z4.out.keep hbb)
            have RV5 := mkHid ((RowOf.past4 (g := wr.heap.size) RV.out (by omega) (.int .i64 0) (.int .i64 0) (.slice v1 0 c1) (.int .i64 0)).below hbb)
            clear cR cN f0 f1 f2 f3 hbb K4 Z4 ZN KA RV hlen
            have bR := ZR.out.keep K5.out
            have cR := bR.four
            have cN := Z5.out.four
            have g0 := bR.frozen 0
            have g1 := bR.frozen 1
            have g2 := bR.frozen 2
            have g3 := bR.frozen 3
            clear g0 g1 g2 g3 bR cN
            go_wp2_with fail
            refine (ris hI1 _ _ _ (HS.out.below K5.out)).mono ?_
            rintro e wc ⟨rfl, hbc⟩
            have K6 := mkHid (K5.out.step hbc)
            clear hbc cR
            have cR := (ZR.out.keep K6.out).four
            have hlen := (MM.out.below K6.out).len_run
            go_wp2_with (first | (at_lookup; refine wp_look rfl _ _ rfl (w2.heap.size + 1) cap s rfl (MM.out.below K6.out) i rfl hib ?_))
            refine (rchk hC1 _ _ _ (HS.out.below K6.out)).mono ?_
            rintro e wd ⟨rfl, hbd⟩
            have K7 := mkHid (K6.out.step hbd)
            clear hbd cR hlen
            go_wp2_with fail
            go_roundw
            case rel => exact ⟨k + 1, cap, vc, va, s, n, by omega, by go_num, rfl, by omega, by omega, by omega, by omega, HG, mkHid (ZR.out.keep K7.out), mkHid (MM.out.below K7.out), mkHid (HS.out.below K7.out), mkHid (HL.out.below K7.out), mkHid (KB.out.step K7.out)⟩
            case measure => simp [intOf]; omega
          · have hA1 : Hid (rollDel h room s n i = (⟨h, room, remL s i, n + 1⟩, 0)) := mkHid (by rw [G.del hib2 his, if_neg hnm])
            have GL := G.less his (by omega)
            have HG2 := mkHid GL
            have hI2 : Hid (rollIs h room (remL s i) (n + 1) i = (false, 0)) := mkHid (by rw [GL.is hib2, decide_eq_false (fun q => (mem_remL.1 q).2 rfl)])
            have hC2 := mkHid GL.check
            have hLl := mkHid (remL_length G.set his)
            have hi3 : i ∉ remL s i := fun q => (mem_remL.1 q).2 rfl
            have hr : ((x : Int) % 2 == 0) = false := beq_eq_false_iff_ne.2 (by omega)
            have his2 : (if i ∈ s then (1 : Int) else 0) = 1 := if_pos his
            clear hxi hx hxb G
            have KN : Below wr.heap.size wr (wr.alloc (.cells #[.int .i64 0, .int .i64 0, .slice none 0 0, .int .i64 0] 25)) := (Below.refl _ _).alloc (Nat.le_refl _) _
            have ZN0 : Blk (wr.alloc (.cells #[.int .i64 0, .int .i64 0, .slice none 0 0, .int .i64 0] 25)) wr.heap.size 25 #[.int .i64 0, .int .i64 0, .slice none 0 0, .int .i64 0] := Blk.new _ _ _
            go_wp2_with fail
            refine (reinstate_any hA1 _ _ _ (HS.out.below KN)).mono ?_
            rintro e wa ⟨v1v, rfl, ho, hba⟩
            have RV := mkHid (RowOf.rebase (a := wr.heap.size + 1) ho (by simp))
            clear ho
            obtain ⟨v1, c1, rfl⟩ := RV.out.len
            have KA := mkHid (KN.step hba)
            have ZN := mkHid (ZN0.keep hba)
            clear hba ZN0 KN cZR
            have cR := (ZR.out.keep KA.out).four
            have lN := ZN.out.lt
            have cN := ZN.out.four
            have f0 := ZN.out.frozen 0
            have f1 := ZN.out.frozen 1
            have f2 := ZN.out.frozen 2
            have f3 := ZN.out.frozen 3
            have hlen := (MapOf.set4 (g := wr.heap.size) (MM.out.below KA.out) (by omega) (.int .i64 h) (.int .i64 room) (.slice v1 (remL s i).length c1) (.int .i64 (n + 1))).len_run
            go_wp2_with (first | (at_lookup; refine wp_look rfl _ _ rfl (w2.heap.size + 1) cap s rfl (MapOf.set4 (MM.out.below KA.out) (by omega) _ _ _ _) i rfl hib ?_))
            have K4 : Hid (Below wr.heap.size wr ((((wa.setCell ⟨wr.heap.size, 0, none⟩ (.int .i64 h)).setCell ⟨wr.heap.size, 1, none⟩ (.int .i64 room)).setCell ⟨wr.heap.size, 2, none⟩ (.slice v1 (remL s i).length c1)).setCell ⟨wr.heap.size, 3, none⟩ (.int .i64 (n + 1)))) := mkHid (below_four KA.out (Nat.le_refl _) _ _ _ _)
            have Z4 : Hid (Blk ((((wa.setCell ⟨wr.heap.size, 0, none⟩ (.int .i64 h)).setCell ⟨wr.heap.size, 1, none⟩ (.int .i64 room)).setCell ⟨wr.heap.size, 2, none⟩ (.slice v1 (remL s i).length c1)).setCell ⟨wr.heap.size, 3, none⟩ (.int .i64 (n + 1))) wr.heap.size 25 #[.int .i64 h, .int .i64 room, .slice v1 (remL s i).length c1, .int .i64 (n + 1)]) := mkHid ZN.out.fill4
            refine (ris hI1 _ _ _ (HS.out.below K4.out)).mono ?_
            rintro e wb ⟨rfl, hbb⟩
            have K5 := mkHid (K4.out.step hbb)
            have Z5 := mkHid (Z4.out.keep hbb)
            have RV5 := mkHid ((RowOf.past4 (g := wr.heap.size) RV.out (by omega) (.int .i64 h) (.int .i64 room) (.slice v1 (remL s i).length c1) (.int .i64 (n + 1))).below hbb)
            clear cR cN f0 f1 f2 f3 hbb K4 Z4 ZN KA RV hlen
            have bR := ZR.out.keep K5.out
            have cR := bR.four
            have cN := Z5.out.four
            have g0 := bR.frozen 0
            have g1 := bR.frozen 1
            have g2 := bR.frozen 2
            have g3 := bR.frozen 3
            have lZ : w2.heap.size < ((((wb.setCell ⟨w2.heap.size, 0, none⟩ (.int .i64 h)).setCell ⟨w2.heap.size, 1, none⟩ (.int .i64 room)).setCell ⟨w2.heap.size, 2, none⟩ (.slice v1 (remL s i).length c1)).setCell ⟨w2.heap.size, 3, none⟩ (.int .i64 (n + 1))).heap.size := by have := bR.lt; simpa using this
            have CARRY : ∀ wu, MapOf wu (w2.heap.size + 1) cap (remL s i) → ((((wb.setCell ⟨w2.heap.size, 0, none⟩ (.int .i64 h)).setCell ⟨w2.heap.size, 1, none⟩ (.int .i64 room)).setCell ⟨w2.heap.size, 2, none⟩ (.slice v1 (remL s i).length c1)).setCell ⟨w2.heap.size, 3, none⟩ (.int .i64 (n + 1))).grownBy wu (some (w2.heap.size + 1)) → (wu.cell? ⟨w2.heap.size, 0, none⟩ = some (.int .i64 h) ∧ wu.cell? ⟨w2.heap.size, 1, none⟩ = some (.int .i64 room) ∧ wu.cell? ⟨w2.heap.size, 2, none⟩ = some (.slice v1 (remL s i).length c1) ∧ wu.cell? ⟨w2.heap.size, 3, none⟩ = some (.int .i64 (n + 1))) ∧ Hid (Blk wu w2.heap.size 25 #[.int .i64 h, .int .i64 room, .slice v1 (remL s i).length c1, .int .i64 (n + 1)] ∧ MapOf wu (w2.heap.size + 1) cap (remL s i) ∧ Reads wu v1 (remL s i) ∧ Reads wu (some ad) l ∧ Below w.heap.size w wu ∧ (remL s i).length ≤ c1) := by
              intro wu hMu hgr
              have M6 : MapOf ((((wb.setCell ⟨w2.heap.size, 0, none⟩ (.int .i64 h)).setCell ⟨w2.heap.size, 1, none⟩ (.int .i64 room)).setCell ⟨w2.heap.size, 2, none⟩ (.slice v1 (remL s i).length c1)).setCell ⟨w2.heap.size, 3, none⟩ (.int .i64 (n + 1))) (w2.heap.size + 1) cap s := MapOf.set4 (MM.out.below K5.out) (by omega) _ _ _ _
              have Z6 : Blk ((((wb.setCell ⟨w2.heap.size, 0, none⟩ (.int .i64 h)).setCell ⟨w2.heap.size, 1, none⟩ (.int .i64 room)).setCell ⟨w2.heap.size, 2, none⟩ (.slice v1 (remL s i).length c1)).setCell ⟨w2.heap.size, 3, none⟩ (.int .i64 (n + 1))) w2.heap.size 25 #[.int .i64 h, .int .i64 room, .slice v1 (remL s i).length c1, .int .i64 (n + 1)] := bR.fill4
              have R6 : RowOf ((((wb.setCell ⟨w2.heap.size, 0, none⟩ (.int .i64 h)).setCell ⟨w2.heap.size, 1, none⟩ (.int .i64 room)).setCell ⟨w2.heap.size, 2, none⟩ (.slice v1 (remL s i).length c1)).setCell ⟨w2.heap.size, 3, none⟩ (.int .i64 (n + 1))) (wr.heap.size + 1) (.slice v1 (remL s i).length c1) (remL s i) := RowOf.past4 RV5.out (by omega) _ _ _ _
              obtain ⟨x1, x2, ex, xl, xR, _⟩ := Reads.of_rowOf R6
              have ex1 : v1 = x1 := (Value.slice.inj ex).1
              have ex2 : c1 = x2 := (Value.slice.inj ex).2.2
              subst ex1 ex2
              have hl5 := HL.out.below K5.out
              have hlb' : ∀ a, some ad = some a → a.block < w2.heap.size := fun a e => by cases e; omega
              have L6 : Reads ((((wb.setCell ⟨w2.heap.size, 0, none⟩ (.int .i64 h)).setCell ⟨w2.heap.size, 1, none⟩ (.int .i64 room)).setCell ⟨w2.heap.size, 2, none⟩ (.slice v1 (remL s i).length c1)).setCell ⟨w2.heap.size, 3, none⟩ (.int .i64 (n + 1))) (some ad) l := Reads.other (Reads.other (Reads.other (Reads.other hl5 hlb' (Nat.le_refl _) 0 _) hlb' (Nat.le_refl _) 1 _) hlb' (Nat.le_refl _) 2 _) hlb' (Nat.le_refl _) 3 _
              have B6 : Below w.heap.size w ((((wb.setCell ⟨w2.heap.size, 0, none⟩ (.int .i64 h)).setCell ⟨w2.heap.size, 1, none⟩ (.int .i64 room)).setCell ⟨w2.heap.size, 2, none⟩ (.slice v1 (remL s i).length c1)).setCell ⟨w2.heap.size, 3, none⟩ (.int .i64 (n + 1))) := below_four (KB.out.step K5.out) SZ _ _ _ _
              have Zu := Z6.turned hgr (by omega)
              exact ⟨Zu.four, mkHid ⟨Zu, hMu, Reads.turned M6 hgr xR, Reads.turned M6 hgr L6, Below.turned B6 hgr (by omega) (by omega), xl⟩⟩
            have HC := mkHid @CARRY
            clear CARRY
            go_wp2_with (at_delete; refine wp_del rfl _ _ rfl (w2.heap.size + 1) cap s rfl (MapOf.set4 (MM.out.below K5.out) (by omega) _ _ _ _) i rfl hib his hLl.out ?_; intro wu hMu hgr; obtain ⟨cu, Hu⟩ := HC.out wu hMu hgr; have lZu := lt_of_le hgr.size lZ)
            obtain ⟨Zu, Mu, Su, Lu, Bu, xl⟩ := Hu.out
            have ZU := mkHid Zu
            have MU := mkHid Mu
            have SU := mkHid Su
            have LU := mkHid Lu
            have BU := mkHid Bu
            clear Zu Mu Su Lu Bu hMu hgr Hu HC cR cN g0 g1 g2 g3 bR lZ
            refine (ris hI2 _ _ _ SU.out).mono ?_
            rintro e wc ⟨rfl, hbc⟩
            replace ZU := mkHid (ZU.out.keep hbc)
            replace MU := mkHid (MU.out.below hbc)
            replace SU := mkHid (SU.out.below hbc)
            replace LU := mkHid (LU.out.below hbc)
            replace BU := mkHid (BU.out.step hbc)
            clear hbc cu
            have cR := ZU.out.four
            have hlen := MU.out.len_run
            go_wp2_with (first | (at_lookup; refine wp_look rfl _ _ rfl (w2.heap.size + 1) cap (remL s i) rfl MU.out i rfl hib ?_))
            refine (rchk hC2 _ _ _ SU.out).mono ?_
            rintro e wd ⟨rfl, hbd⟩
            replace ZU := mkHid (ZU.out.keep hbd)
            replace MU := mkHid (MU.out.below hbd)
            replace SU := mkHid (SU.out.below hbd)
            replace LU := mkHid (LU.out.below hbd)
            replace BU := mkHid (BU.out.step hbd)
            clear hbd cR hlen
            go_wp2_with fail
            go_roundw
            case rel => exact ⟨k + 1, cap, c1, v1, (remL s i), n + 1, by omega, by go_num, rfl, by omega, by omega, by omega, xl, HG2, ZU, MU, SU, LU, BU⟩
            case measure => simp [intOf]; omega
        · have hI1 : Hid (rollIs h room s n i = (false, 0)) := mkHid (by rw [G.is hib2, decide_eq_false his])
          by_cases hev : x % 2 = 0
          · by_cases hlr : (s.length : Int) = room
            · have hA1 : Hid (rollAdd h room s n i = (⟨0, 0, [], 0⟩, 6)) := mkHid (by rw [G.add hib2 his, if_pos hlr])
              have hr : ((x : Int) % 2 == 0) = true := beq_iff_eq.2 (by omega)
              have his2 : (if i ∈ s then (1 : Int) else 0) = 0 := if_neg his
              have t1 : ((s.length : Int) == room) = true := beq_iff_eq.2 hlr
              clear hxi hx hxb G
              have KN : Below wr.heap.size wr (wr.alloc (.cells #[.int .i64 0, .int .i64 0, .slice none 0 0, .int .i64 0] 25)) := (Below.refl _ _).alloc (Nat.le_refl _) _
              have ZN0 : Blk (wr.alloc (.cells #[.int .i64 0, .int .i64 0, .slice none 0 0, .int .i64 0] 25)) wr.heap.size 25 #[.int .i64 0, .int .i64 0, .slice none 0 0, .int .i64 0] := Blk.new _ _ _
              go_wp2_with fail
              refine (revoke_any hA1 _ _ _ (HS.out.below KN)).mono ?_
              rintro e wa ⟨v1v, rfl, ho, hba⟩
              have RV := mkHid (RowOf.rebase (a := wr.heap.size + 1) ho (by simp))
              clear ho
              obtain ⟨v1, c1, rfl⟩ := RV.out.len
              have KA := mkHid (KN.step hba)
              have ZN := mkHid (ZN0.keep hba)
              clear hba ZN0 KN cZR
              have cR := (ZR.out.keep KA.out).four
              have lN := ZN.out.lt
              have cN := ZN.out.four
              have f0 := ZN.out.frozen 0
              have f1 := ZN.out.frozen 1
              have f2 := ZN.out.frozen 2
              have f3 := ZN.out.frozen 3
              have hlen := (MapOf.set4 (g := wr.heap.size) (MM.out.below KA.out) (by omega) (.int .i64 0) (.int .i64 0) (.slice v1 0 c1) (.int .i64 0)).len_run
              go_wp2_with (first | (at_lookup; refine wp_look rfl _ _ rfl (w2.heap.size + 1) cap s rfl (MapOf.set4 (MM.out.below KA.out) (by omega) _ _ _ _) i rfl hib ?_))
              have K4 : Hid (Below wr.heap.size wr ((((wa.setCell ⟨wr.heap.size, 0, none⟩ (.int .i64 0)).setCell ⟨wr.heap.size, 1, none⟩ (.int .i64 0)).setCell ⟨wr.heap.size, 2, none⟩ (.slice v1 0 c1)).setCell ⟨wr.heap.size, 3, none⟩ (.int .i64 0))) := mkHid (below_four KA.out (Nat.le_refl _) _ _ _ _)
              have Z4 : Hid (Blk ((((wa.setCell ⟨wr.heap.size, 0, none⟩ (.int .i64 0)).setCell ⟨wr.heap.size, 1, none⟩ (.int .i64 0)).setCell ⟨wr.heap.size, 2, none⟩ (.slice v1 0 c1)).setCell ⟨wr.heap.size, 3, none⟩ (.int .i64 0)) wr.heap.size 25 #[.int .i64 0, .int .i64 0, .slice v1 0 c1, .int .i64 0]) := mkHid ZN.out.fill4
              refine (ris hI1 _ _ _ (HS.out.below K4.out)).mono ?_
              rintro e wb ⟨rfl, hbb⟩
              have K5 := mkHid (K4.out.step hbb)
              have Z5 := mkHid (Z4.out.keep hbb)
              have RV5 := mkHid ((RowOf.past4 (g := wr.heap.size) RV.out (by omega) (.int .i64 0) (.int .i64 0) (.slice v1 0 c1) (.int .i64 0)).below hbb)
              clear cR cN f0 f1 f2 f3 hbb K4 Z4 ZN KA RV hlen
              have bR := ZR.out.keep K5.out
              have cR := bR.four
              have cN := Z5.out.four
              have g0 := bR.frozen 0
              have g1 := bR.frozen 1
              have g2 := bR.frozen 2
              have g3 := bR.frozen 3
              clear g0 g1 g2 g3 bR cN
              go_wp2_with fail
              refine (ris hI1 _ _ _ (HS.out.below K5.out)).mono ?_
              rintro e wc ⟨rfl, hbc⟩
              have K6 := mkHid (K5.out.step hbc)
              clear hbc cR
              have cR := (ZR.out.keep K6.out).four
              have hlen := (MM.out.below K6.out).len_run
              go_wp2_with (first | (at_lookup; refine wp_look rfl _ _ rfl (w2.heap.size + 1) cap s rfl (MM.out.below K6.out) i rfl hib ?_))
              refine (rchk hC1 _ _ _ (HS.out.below K6.out)).mono ?_
              rintro e wd ⟨rfl, hbd⟩
              have K7 := mkHid (K6.out.step hbd)
              clear hbd cR hlen
              go_wp2_with fail
              go_roundw
              case rel => exact ⟨k + 1, cap, vc, va, s, n, by omega, by go_num, rfl, by omega, by omega, by omega, by omega, HG, mkHid (ZR.out.keep K7.out), mkHid (MM.out.below K7.out), mkHid (HS.out.below K7.out), mkHid (HL.out.below K7.out), mkHid (KB.out.step K7.out)⟩
              case measure => simp [intOf]; omega
            · have hA1 : Hid (rollAdd h room s n i = (⟨h, room, addL s i, n + 1⟩, 0)) := mkHid (by rw [G.add hib2 his, if_neg hlr, if_neg hnm])
              have hgl := G.len
              have GM := G.more hib2 his (by omega) (by omega)
              have HG2 := mkHid GM
              have hI2 : Hid (rollIs h room (addL s i) (n + 1) i = (true, 0)) := mkHid (by rw [GM.is hib2, decide_eq_true (mem_addL.2 (.inl rfl))])
              have hC2 := mkHid GM.check
              have hLl := mkHid (addL_length G.set his)
              have hi3 : i ∈ addL s i := mem_addL.2 (.inl rfl)
              have hr : ((x : Int) % 2 == 0) = true := beq_iff_eq.2 (by omega)
              have his2 : (if i ∈ s then (1 : Int) else 0) = 0 := if_neg his
              have t1 : ((s.length : Int) == room) = false := beq_eq_false_iff_ne.2 hlr
              clear hxi hx hxb G
              have KN : Below wr.heap.size wr (wr.alloc (.cells #[.int .i64 0, .int .i64 0, .slice none 0 0, .int .i64 0] 25)) := (Below.refl _ _).alloc (Nat.le_refl _) _
              have ZN0 : Blk (wr.alloc (.cells #[.int .i64 0, .int .i64 0, .slice none 0 0, .int .i64 0] 25)) wr.heap.size 25 #[.int .i64 0, .int .i64 0, .slice none 0 0, .int .i64 0] := Blk.new _ _ _
              go_wp2_with fail
              refine (revoke_any hA1 _ _ _ (HS.out.below KN)).mono ?_
              rintro e wa ⟨v1v, rfl, ho, hba⟩
              have RV := mkHid (RowOf.rebase (a := wr.heap.size + 1) ho (by simp))
              clear ho
              obtain ⟨v1, c1, rfl⟩ := RV.out.len
              have KA := mkHid (KN.step hba)
              have ZN := mkHid (ZN0.keep hba)
              clear hba ZN0 KN cZR
              have cR := (ZR.out.keep KA.out).four
              have lN := ZN.out.lt
              have cN := ZN.out.four
              have f0 := ZN.out.frozen 0
              have f1 := ZN.out.frozen 1
              have f2 := ZN.out.frozen 2
              have f3 := ZN.out.frozen 3
              have hlen := (MapOf.set4 (g := wr.heap.size) (MM.out.below KA.out) (by omega) (.int .i64 h) (.int .i64 room) (.slice v1 (addL s i).length c1) (.int .i64 (n + 1))).len_run
              go_wp2_with (first | (at_lookup; refine wp_look rfl _ _ rfl (w2.heap.size + 1) cap s rfl (MapOf.set4 (MM.out.below KA.out) (by omega) _ _ _ _) i rfl hib ?_))
              have K4 : Hid (Below wr.heap.size wr ((((wa.setCell ⟨wr.heap.size, 0, none⟩ (.int .i64 h)).setCell ⟨wr.heap.size, 1, none⟩ (.int .i64 room)).setCell ⟨wr.heap.size, 2, none⟩ (.slice v1 (addL s i).length c1)).setCell ⟨wr.heap.size, 3, none⟩ (.int .i64 (n + 1)))) := mkHid (below_four KA.out (Nat.le_refl _) _ _ _ _)
              have Z4 : Hid (Blk ((((wa.setCell ⟨wr.heap.size, 0, none⟩ (.int .i64 h)).setCell ⟨wr.heap.size, 1, none⟩ (.int .i64 room)).setCell ⟨wr.heap.size, 2, none⟩ (.slice v1 (addL s i).length c1)).setCell ⟨wr.heap.size, 3, none⟩ (.int .i64 (n + 1))) wr.heap.size 25 #[.int .i64 h, .int .i64 room, .slice v1 (addL s i).length c1, .int .i64 (n + 1)]) := mkHid ZN.out.fill4
              refine (ris hI1 _ _ _ (HS.out.below K4.out)).mono ?_
              rintro e wb ⟨rfl, hbb⟩
              have K5 := mkHid (K4.out.step hbb)
              have Z5 := mkHid (Z4.out.keep hbb)
              have RV5 := mkHid ((RowOf.past4 (g := wr.heap.size) RV.out (by omega) (.int .i64 h) (.int .i64 room) (.slice v1 (addL s i).length c1) (.int .i64 (n + 1))).below hbb)
              clear cR cN f0 f1 f2 f3 hbb K4 Z4 ZN KA RV hlen
              have bR := ZR.out.keep K5.out
              have cR := bR.four
              have cN := Z5.out.four
              have g0 := bR.frozen 0
              have g1 := bR.frozen 1
              have g2 := bR.frozen 2
              have g3 := bR.frozen 3
              have lZ : w2.heap.size < ((((wb.setCell ⟨w2.heap.size, 0, none⟩ (.int .i64 h)).setCell ⟨w2.heap.size, 1, none⟩ (.int .i64 room)).setCell ⟨w2.heap.size, 2, none⟩ (.slice v1 (addL s i).length c1)).setCell ⟨w2.heap.size, 3, none⟩ (.int .i64 (n + 1))).heap.size := by have := bR.lt; simpa using this
              have CARRY : ∀ wu, MapOf wu (w2.heap.size + 1) (cap + 1) (addL s i) → ((((wb.setCell ⟨w2.heap.size, 0, none⟩ (.int .i64 h)).setCell ⟨w2.heap.size, 1, none⟩ (.int .i64 room)).setCell ⟨w2.heap.size, 2, none⟩ (.slice v1 (addL s i).length c1)).setCell ⟨w2.heap.size, 3, none⟩ (.int .i64 (n + 1))).grownBy wu (some (w2.heap.size + 1)) → (wu.cell? ⟨w2.heap.size, 0, none⟩ = some (.int .i64 h) ∧ wu.cell? ⟨w2.heap.size, 1, none⟩ = some (.int .i64 room) ∧ wu.cell? ⟨w2.heap.size, 2, none⟩ = some (.slice v1 (addL s i).length c1) ∧ wu.cell? ⟨w2.heap.size, 3, none⟩ = some (.int .i64 (n + 1))) ∧ Hid (Blk wu w2.heap.size 25 #[.int .i64 h, .int .i64 room, .slice v1 (addL s i).length c1, .int .i64 (n + 1)] ∧ MapOf wu (w2.heap.size + 1) (cap + 1) (addL s i) ∧ Reads wu v1 (addL s i) ∧ Reads wu (some ad) l ∧ Below w.heap.size w wu ∧ (addL s i).length ≤ c1) := by
                intro wu hMu hgr
                have M6 : MapOf ((((wb.setCell ⟨w2.heap.size, 0, none⟩ (.int .i64 h)).setCell ⟨w2.heap.size, 1, none⟩ (.int .i64 room)).setCell ⟨w2.heap.size, 2, none⟩ (.slice v1 (addL s i).length c1)).setCell ⟨w2.heap.size, 3, none⟩ (.int .i64 (n + 1))) (w2.heap.size + 1) cap s := MapOf.set4 (MM.out.below K5.out) (by omega) _ _ _ _
                have Z6 : Blk ((((wb.setCell ⟨w2.heap.size, 0, none⟩ (.int .i64 h)).setCell ⟨w2.heap.size, 1, none⟩ (.int .i64 room)).setCell ⟨w2.heap.size, 2, none⟩ (.slice v1 (addL s i).length c1)).setCell ⟨w2.heap.size, 3, none⟩ (.int .i64 (n + 1))) w2.heap.size 25 #[.int .i64 h, .int .i64 room, .slice v1 (addL s i).length c1, .int .i64 (n + 1)] := bR.fill4
                have R6 : RowOf ((((wb.setCell ⟨w2.heap.size, 0, none⟩ (.int .i64 h)).setCell ⟨w2.heap.size, 1, none⟩ (.int .i64 room)).setCell ⟨w2.heap.size, 2, none⟩ (.slice v1 (addL s i).length c1)).setCell ⟨w2.heap.size, 3, none⟩ (.int .i64 (n + 1))) (wr.heap.size + 1) (.slice v1 (addL s i).length c1) (addL s i) := RowOf.past4 RV5.out (by omega) _ _ _ _
                obtain ⟨x1, x2, ex, xl, xR, _⟩ := Reads.of_rowOf R6
                have ex1 : v1 = x1 := (Value.slice.inj ex).1
                have ex2 : c1 = x2 := (Value.slice.inj ex).2.2
                subst ex1 ex2
                have hl5 := HL.out.below K5.out
                have hlb' : ∀ a, some ad = some a → a.block < w2.heap.size := fun a e => by cases e; omega
                have L6 : Reads ((((wb.setCell ⟨w2.heap.size, 0, none⟩ (.int .i64 h)).setCell ⟨w2.heap.size, 1, none⟩ (.int .i64 room)).setCell ⟨w2.heap.size, 2, none⟩ (.slice v1 (addL s i).length c1)).setCell ⟨w2.heap.size, 3, none⟩ (.int .i64 (n + 1))) (some ad) l := Reads.other (Reads.other (Reads.other (Reads.other hl5 hlb' (Nat.le_refl _) 0 _) hlb' (Nat.le_refl _) 1 _) hlb' (Nat.le_refl _) 2 _) hlb' (Nat.le_refl _) 3 _
                have B6 : Below w.heap.size w ((((wb.setCell ⟨w2.heap.size, 0, none⟩ (.int .i64 h)).setCell ⟨w2.heap.size, 1, none⟩ (.int .i64 room)).setCell ⟨w2.heap.size, 2, none⟩ (.slice v1 (addL s i).length c1)).setCell ⟨w2.heap.size, 3, none⟩ (.int .i64 (n + 1))) := below_four (KB.out.step K5.out) SZ _ _ _ _
                have Zu := Z6.turned hgr (by omega)
                exact ⟨Zu.four, mkHid ⟨Zu, hMu, Reads.turned M6 hgr xR, Reads.turned M6 hgr L6, Below.turned B6 hgr (by omega) (by omega), xl⟩⟩
              have HC := mkHid @CARRY
              clear CARRY
              go_wp2_with (at_mapUpdate; refine wp_put rfl _ _ _ rfl (w2.heap.size + 1) cap s rfl (MapOf.set4 (MM.out.below K5.out) (by omega) _ _ _ _) (by omega) i rfl rfl hib his hLl.out ?_; intro wu hMu hgr; obtain ⟨cu, Hu⟩ := HC.out wu hMu hgr; have lZu := lt_of_le hgr.size lZ)
              obtain ⟨Zu, Mu, Su, Lu, Bu, xl⟩ := Hu.out
              have ZU := mkHid Zu
              have MU := mkHid Mu
              have SU := mkHid Su
              have LU := mkHid Lu
              have BU := mkHid Bu
              clear Zu Mu Su Lu Bu hMu hgr Hu HC cR cN g0 g1 g2 g3 bR lZ
              refine (ris hI2 _ _ _ SU.out).mono ?_
              rintro e wc ⟨rfl, hbc⟩
              replace ZU := mkHid (ZU.out.keep hbc)
              replace MU := mkHid (MU.out.below hbc)
              replace SU := mkHid (SU.out.below hbc)
              replace LU := mkHid (LU.out.below hbc)
              replace BU := mkHid (BU.out.step hbc)
              clear hbc cu
              have cR := ZU.out.four
              have hlen := MU.out.len_run
              go_wp2_with (first | (at_lookup; refine wp_look rfl _ _ rfl (w2.heap.size + 1) (cap + 1) (addL s i) rfl MU.out i rfl hib ?_))
              refine (rchk hC2 _ _ _ SU.out).mono ?_
              rintro e wd ⟨rfl, hbd⟩
              replace ZU := mkHid (ZU.out.keep hbd)
              replace MU := mkHid (MU.out.below hbd)
              replace SU := mkHid (SU.out.below hbd)
              replace LU := mkHid (LU.out.below hbd)
              replace BU := mkHid (BU.out.step hbd)
              clear hbd cR hlen
              go_wp2_with fail
              go_roundw
              case rel => exact ⟨k + 1, (cap + 1), c1, v1, (addL s i), n + 1, by omega, by go_num, rfl, by omega, by omega, by omega, xl, HG2, ZU, MU, SU, LU, BU⟩
              case measure => simp [intOf]; omega
          · have hA1 : Hid (rollDel h room s n i = (⟨0, 0, [], 0⟩, 4)) := mkHid (by unfold rollDel; rw [if_pos ⟨G.check, by rw [G.has hib2]⟩, if_pos his])
            have hr : ((x : Int) % 2 == 0) = false := beq_eq_false_iff_ne.2 (by omega)
            have his2 : (if i ∈ s then (1 : Int) else 0) = 0 := if_neg his
            clear hxi hx hxb G
            have KN : Below wr.heap.size wr (wr.alloc (.cells #[.int .i64 0, .int .i64 0, .slice none 0 0, .int .i64 0] 25)) := (Below.refl _ _).alloc (Nat.le_refl _) _
            have ZN0 : Blk (wr.alloc (.cells #[.int .i64 0, .int .i64 0, .slice none 0 0, .int .i64 0] 25)) wr.heap.size 25 #[.int .i64 0, .int .i64 0, .slice none 0 0, .int .i64 0] := Blk.new _ _ _
            go_wp2_with fail
            refine (reinstate_any hA1 _ _ _ (HS.out.below KN)).mono ?_
            rintro e wa ⟨v1v, rfl, ho, hba⟩
            have RV := mkHid (RowOf.rebase (a := wr.heap.size + 1) ho (by simp))
            clear ho
            obtain ⟨v1, c1, rfl⟩ := RV.out.len
            have KA := mkHid (KN.step hba)
            have ZN := mkHid (ZN0.keep hba)
            clear hba ZN0 KN cZR
            have cR := (ZR.out.keep KA.out).four
            have lN := ZN.out.lt
            have cN := ZN.out.four
            have f0 := ZN.out.frozen 0
            have f1 := ZN.out.frozen 1
            have f2 := ZN.out.frozen 2
            have f3 := ZN.out.frozen 3
            have hlen := (MapOf.set4 (g := wr.heap.size) (MM.out.below KA.out) (by omega) (.int .i64 0) (.int .i64 0) (.slice v1 0 c1) (.int .i64 0)).len_run
            go_wp2_with (first | (at_lookup; refine wp_look rfl _ _ rfl (w2.heap.size + 1) cap s rfl (MapOf.set4 (MM.out.below KA.out) (by omega) _ _ _ _) i rfl hib ?_))
            have K4 : Hid (Below wr.heap.size wr ((((wa.setCell ⟨wr.heap.size, 0, none⟩ (.int .i64 0)).setCell ⟨wr.heap.size, 1, none⟩ (.int .i64 0)).setCell ⟨wr.heap.size, 2, none⟩ (.slice v1 0 c1)).setCell ⟨wr.heap.size, 3, none⟩ (.int .i64 0))) := mkHid (below_four KA.out (Nat.le_refl _) _ _ _ _)
            have Z4 : Hid (Blk ((((wa.setCell ⟨wr.heap.size, 0, none⟩ (.int .i64 0)).setCell ⟨wr.heap.size, 1, none⟩ (.int .i64 0)).setCell ⟨wr.heap.size, 2, none⟩ (.slice v1 0 c1)).setCell ⟨wr.heap.size, 3, none⟩ (.int .i64 0)) wr.heap.size 25 #[.int .i64 0, .int .i64 0, .slice v1 0 c1, .int .i64 0]) := mkHid ZN.out.fill4
            refine (ris hI1 _ _ _ (HS.out.below K4.out)).mono ?_
            rintro e wb ⟨rfl, hbb⟩
            have K5 := mkHid (K4.out.step hbb)
            have Z5 := mkHid (Z4.out.keep hbb)
            have RV5 := mkHid ((RowOf.past4 (g := wr.heap.size) RV.out (by omega) (.int .i64 0) (.int .i64 0) (.slice v1 0 c1) (.int .i64 0)).below hbb)
            clear cR cN f0 f1 f2 f3 hbb K4 Z4 ZN KA RV hlen
            have bR := ZR.out.keep K5.out
            have cR := bR.four
            have cN := Z5.out.four
            have g0 := bR.frozen 0
            have g1 := bR.frozen 1
            have g2 := bR.frozen 2
            have g3 := bR.frozen 3
            clear g0 g1 g2 g3 bR cN
            go_wp2_with fail
            refine (ris hI1 _ _ _ (HS.out.below K5.out)).mono ?_
            rintro e wc ⟨rfl, hbc⟩
            have K6 := mkHid (K5.out.step hbc)
            clear hbc cR
            have cR := (ZR.out.keep K6.out).four
            have hlen := (MM.out.below K6.out).len_run
            go_wp2_with (first | (at_lookup; refine wp_look rfl _ _ rfl (w2.heap.size + 1) cap s rfl (MM.out.below K6.out) i rfl hib ?_))
            refine (rchk hC1 _ _ _ (HS.out.below K6.out)).mono ?_
            rintro e wd ⟨rfl, hbd⟩
            have K7 := mkHid (K6.out.step hbd)
            clear hbd cR hlen
            go_wp2_with fail
            go_roundw
            case rel => exact ⟨k + 1, cap, vc, va, s, n, by omega, by go_num, rfl, by omega, by omega, by omega, by omega, HG, mkHid (ZR.out.keep K7.out), mkHid (MM.out.below K7.out), mkHid (HS.out.below K7.out), mkHid (HL.out.below K7.out), mkHid (KB.out.step K7.out)⟩
            case measure => simp [intOf]; omega
      · have hbad : hasAll h s i = (false, 1) := by
          rcases hasAll_or h s i with q | ⟨k', e', _, _, _, q, _⟩
          · exact q
          · exact absurd (show i < 2 ^ kk by have := G.eq; rw [show kk = k' by omega]; exact q) hib2
        have his : i ∉ s := fun q => hib2 ((setOk_iff.1 G.set).2.2 i q)
        have hI1 : Hid (rollIs h room s n i = (false, 1)) := mkHid (by unfold rollIs; rw [if_pos G.check, hbad])
        by_cases hev : x % 2 = 0
        · have hA1 : Hid (rollAdd h room s n i = (⟨0, 0, [], 0⟩, 1)) := mkHid (by unfold rollAdd; rw [if_neg (by rw [hbad]; simp)])
          by_cases hlr : (s.length : Int) = room
          · have hr : ((x : Int) % 2 == 0) = true := beq_iff_eq.2 (by omega)
            have his2 : (if i ∈ s then (1 : Int) else 0) = 0 := if_neg his
            have t1 : ((s.length : Int) == room) = true := beq_iff_eq.2 hlr
            clear hxi hx hxb G
            have KN : Below wr.heap.size wr (wr.alloc (.cells #[.int .i64 0, .int .i64 0, .slice none 0 0, .int .i64 0] 25)) := (Below.refl _ _).alloc (Nat.le_refl _) _
            have ZN0 : Blk (wr.alloc (.cells #[.int .i64 0, .int .i64 0, .slice none 0 0, .int .i64 0] 25)) wr.heap.size 25 #[.int .i64 0, .int .i64 0, .slice none 0 0, .int .i64 0] := Blk.new _ _ _
            go_wp2_with fail
            refine (revoke_any hA1 _ _ _ (HS.out.below KN)).mono ?_
            rintro e wa ⟨v1v, rfl, ho, hba⟩
            have RV := mkHid (RowOf.rebase (a := wr.heap.size + 1) ho (by simp))
            clear ho
            obtain ⟨v1, c1, rfl⟩ := RV.out.len
            have KA := mkHid (KN.step hba)
            have ZN := mkHid (ZN0.keep hba)
            clear hba ZN0 KN cZR
            have cR := (ZR.out.keep KA.out).four
            have lN := ZN.out.lt
            have cN := ZN.out.four
            have f0 := ZN.out.frozen 0
            have f1 := ZN.out.frozen 1
            have f2 := ZN.out.frozen 2
            have f3 := ZN.out.frozen 3
            have hlen := (MapOf.set4 (g := wr.heap.size) (MM.out.below KA.out) (by omega) (.int .i64 0) (.int .i64 0) (.slice v1 0 c1) (.int .i64 0)).len_run
            go_wp2_with (first | (at_lookup; refine wp_look rfl _ _ rfl (w2.heap.size + 1) cap s rfl (MapOf.set4 (MM.out.below KA.out) (by omega) _ _ _ _) i rfl hib ?_))
            have K4 : Hid (Below wr.heap.size wr ((((wa.setCell ⟨wr.heap.size, 0, none⟩ (.int .i64 0)).setCell ⟨wr.heap.size, 1, none⟩ (.int .i64 0)).setCell ⟨wr.heap.size, 2, none⟩ (.slice v1 0 c1)).setCell ⟨wr.heap.size, 3, none⟩ (.int .i64 0))) := mkHid (below_four KA.out (Nat.le_refl _) _ _ _ _)
            have Z4 : Hid (Blk ((((wa.setCell ⟨wr.heap.size, 0, none⟩ (.int .i64 0)).setCell ⟨wr.heap.size, 1, none⟩ (.int .i64 0)).setCell ⟨wr.heap.size, 2, none⟩ (.slice v1 0 c1)).setCell ⟨wr.heap.size, 3, none⟩ (.int .i64 0)) wr.heap.size 25 #[.int .i64 0, .int .i64 0, .slice v1 0 c1, .int .i64 0]) := mkHid ZN.out.fill4
            refine (ris hI1 _ _ _ (HS.out.below K4.out)).mono ?_
            rintro e wb ⟨rfl, hbb⟩
            have K5 := mkHid (K4.out.step hbb)
            have Z5 := mkHid (Z4.out.keep hbb)
            have RV5 := mkHid ((RowOf.past4 (g := wr.heap.size) RV.out (by omega) (.int .i64 0) (.int .i64 0) (.slice v1 0 c1) (.int .i64 0)).below hbb)
            clear cR cN f0 f1 f2 f3 hbb K4 Z4 ZN KA RV hlen
            have bR := ZR.out.keep K5.out
            have cR := bR.four
            have cN := Z5.out.four
            have g0 := bR.frozen 0
            have g1 := bR.frozen 1
            have g2 := bR.frozen 2
            have g3 := bR.frozen 3
            clear g0 g1 g2 g3 bR cN
            go_wp2_with fail
            refine (ris hI1 _ _ _ (HS.out.below K5.out)).mono ?_
            rintro e wc ⟨rfl, hbc⟩
            have K6 := mkHid (K5.out.step hbc)
            clear hbc cR
            have cR := (ZR.out.keep K6.out).four
            have hlen := (MM.out.below K6.out).len_run
            go_wp2_with (first | (at_lookup; refine wp_look rfl _ _ rfl (w2.heap.size + 1) cap s rfl (MM.out.below K6.out) i rfl hib ?_))
            refine (rchk hC1 _ _ _ (HS.out.below K6.out)).mono ?_
            rintro e wd ⟨rfl, hbd⟩
            have K7 := mkHid (K6.out.step hbd)
            clear hbd cR hlen
            go_wp2_with fail
            go_roundw
            case rel => exact ⟨k + 1, cap, vc, va, s, n, by omega, by go_num, rfl, by omega, by omega, by omega, by omega, HG, mkHid (ZR.out.keep K7.out), mkHid (MM.out.below K7.out), mkHid (HS.out.below K7.out), mkHid (HL.out.below K7.out), mkHid (KB.out.step K7.out)⟩
            case measure => simp [intOf]; omega
          · have hr : ((x : Int) % 2 == 0) = true := beq_iff_eq.2 (by omega)
            have his2 : (if i ∈ s then (1 : Int) else 0) = 0 := if_neg his
            have t1 : ((s.length : Int) == room) = false := beq_eq_false_iff_ne.2 hlr
            clear hxi hx hxb G
            have KN : Below wr.heap.size wr (wr.alloc (.cells #[.int .i64 0, .int .i64 0, .slice none 0 0, .int .i64 0] 25)) := (Below.refl _ _).alloc (Nat.le_refl _) _
            have ZN0 : Blk (wr.alloc (.cells #[.int .i64 0, .int .i64 0, .slice none 0 0, .int .i64 0] 25)) wr.heap.size 25 #[.int .i64 0, .int .i64 0, .slice none 0 0, .int .i64 0] := Blk.new _ _ _
            go_wp2_with fail
            refine (revoke_any hA1 _ _ _ (HS.out.below KN)).mono ?_
            rintro e wa ⟨v1v, rfl, ho, hba⟩
            have RV := mkHid (RowOf.rebase (a := wr.heap.size + 1) ho (by simp))
            clear ho
            obtain ⟨v1, c1, rfl⟩ := RV.out.len
            have KA := mkHid (KN.step hba)
            have ZN := mkHid (ZN0.keep hba)
            clear hba ZN0 KN cZR
            have cR := (ZR.out.keep KA.out).four
            have lN := ZN.out.lt
            have cN := ZN.out.four
            have f0 := ZN.out.frozen 0
            have f1 := ZN.out.frozen 1
            have f2 := ZN.out.frozen 2
            have f3 := ZN.out.frozen 3
            have hlen := (MapOf.set4 (g := wr.heap.size) (MM.out.below KA.out) (by omega) (.int .i64 0) (.int .i64 0) (.slice v1 0 c1) (.int .i64 0)).len_run
            go_wp2_with (first | (at_lookup; refine wp_look rfl _ _ rfl (w2.heap.size + 1) cap s rfl (MapOf.set4 (MM.out.below KA.out) (by omega) _ _ _ _) i rfl hib ?_))
            have K4 : Hid (Below wr.heap.size wr ((((wa.setCell ⟨wr.heap.size, 0, none⟩ (.int .i64 0)).setCell ⟨wr.heap.size, 1, none⟩ (.int .i64 0)).setCell ⟨wr.heap.size, 2, none⟩ (.slice v1 0 c1)).setCell ⟨wr.heap.size, 3, none⟩ (.int .i64 0))) := mkHid (below_four KA.out (Nat.le_refl _) _ _ _ _)
            have Z4 : Hid (Blk ((((wa.setCell ⟨wr.heap.size, 0, none⟩ (.int .i64 0)).setCell ⟨wr.heap.size, 1, none⟩ (.int .i64 0)).setCell ⟨wr.heap.size, 2, none⟩ (.slice v1 0 c1)).setCell ⟨wr.heap.size, 3, none⟩ (.int .i64 0)) wr.heap.size 25 #[.int .i64 0, .int .i64 0, .slice v1 0 c1, .int .i64 0]) := mkHid ZN.out.fill4
            refine (ris hI1 _ _ _ (HS.out.below K4.out)).mono ?_
            rintro e wb ⟨rfl, hbb⟩
            have K5 := mkHid (K4.out.step hbb)
            have Z5 := mkHid (Z4.out.keep hbb)
            have RV5 := mkHid ((RowOf.past4 (g := wr.heap.size) RV.out (by omega) (.int .i64 0) (.int .i64 0) (.slice v1 0 c1) (.int .i64 0)).below hbb)
            clear cR cN f0 f1 f2 f3 hbb K4 Z4 ZN KA RV hlen
            have bR := ZR.out.keep K5.out
            have cR := bR.four
            have cN := Z5.out.four
            have g0 := bR.frozen 0
            have g1 := bR.frozen 1
            have g2 := bR.frozen 2
            have g3 := bR.frozen 3
            clear g0 g1 g2 g3 bR cN
            go_wp2_with fail
            refine (ris hI1 _ _ _ (HS.out.below K5.out)).mono ?_
            rintro e wc ⟨rfl, hbc⟩
            have K6 := mkHid (K5.out.step hbc)
            clear hbc cR
            have cR := (ZR.out.keep K6.out).four
            have hlen := (MM.out.below K6.out).len_run
            go_wp2_with (first | (at_lookup; refine wp_look rfl _ _ rfl (w2.heap.size + 1) cap s rfl (MM.out.below K6.out) i rfl hib ?_))
            refine (rchk hC1 _ _ _ (HS.out.below K6.out)).mono ?_
            rintro e wd ⟨rfl, hbd⟩
            have K7 := mkHid (K6.out.step hbd)
            clear hbd cR hlen
            go_wp2_with fail
            go_roundw
            case rel => exact ⟨k + 1, cap, vc, va, s, n, by omega, by go_num, rfl, by omega, by omega, by omega, by omega, HG, mkHid (ZR.out.keep K7.out), mkHid (MM.out.below K7.out), mkHid (HS.out.below K7.out), mkHid (HL.out.below K7.out), mkHid (KB.out.step K7.out)⟩
            case measure => simp [intOf]; omega
        · have hA1 : Hid (rollDel h room s n i = (⟨0, 0, [], 0⟩, 1)) := mkHid (by unfold rollDel; rw [if_neg (by rw [hbad]; simp)])
          have hr : ((x : Int) % 2 == 0) = false := beq_eq_false_iff_ne.2 (by omega)
          have his2 : (if i ∈ s then (1 : Int) else 0) = 0 := if_neg his
          clear hxi hx hxb G
          have KN : Below wr.heap.size wr (wr.alloc (.cells #[.int .i64 0, .int .i64 0, .slice none 0 0, .int .i64 0] 25)) := (Below.refl _ _).alloc (Nat.le_refl _) _
          have ZN0 : Blk (wr.alloc (.cells #[.int .i64 0, .int .i64 0, .slice none 0 0, .int .i64 0] 25)) wr.heap.size 25 #[.int .i64 0, .int .i64 0, .slice none 0 0, .int .i64 0] := Blk.new _ _ _
          go_wp2_with fail
          refine (reinstate_any hA1 _ _ _ (HS.out.below KN)).mono ?_
          rintro e wa ⟨v1v, rfl, ho, hba⟩
          have RV := mkHid (RowOf.rebase (a := wr.heap.size + 1) ho (by simp))
          clear ho
          obtain ⟨v1, c1, rfl⟩ := RV.out.len
          have KA := mkHid (KN.step hba)
          have ZN := mkHid (ZN0.keep hba)
          clear hba ZN0 KN cZR
          have cR := (ZR.out.keep KA.out).four
          have lN := ZN.out.lt
          have cN := ZN.out.four
          have f0 := ZN.out.frozen 0
          have f1 := ZN.out.frozen 1
          have f2 := ZN.out.frozen 2
          have f3 := ZN.out.frozen 3
          have hlen := (MapOf.set4 (g := wr.heap.size) (MM.out.below KA.out) (by omega) (.int .i64 0) (.int .i64 0) (.slice v1 0 c1) (.int .i64 0)).len_run
          go_wp2_with (first | (at_lookup; refine wp_look rfl _ _ rfl (w2.heap.size + 1) cap s rfl (MapOf.set4 (MM.out.below KA.out) (by omega) _ _ _ _) i rfl hib ?_))
          have K4 : Hid (Below wr.heap.size wr ((((wa.setCell ⟨wr.heap.size, 0, none⟩ (.int .i64 0)).setCell ⟨wr.heap.size, 1, none⟩ (.int .i64 0)).setCell ⟨wr.heap.size, 2, none⟩ (.slice v1 0 c1)).setCell ⟨wr.heap.size, 3, none⟩ (.int .i64 0))) := mkHid (below_four KA.out (Nat.le_refl _) _ _ _ _)
          have Z4 : Hid (Blk ((((wa.setCell ⟨wr.heap.size, 0, none⟩ (.int .i64 0)).setCell ⟨wr.heap.size, 1, none⟩ (.int .i64 0)).setCell ⟨wr.heap.size, 2, none⟩ (.slice v1 0 c1)).setCell ⟨wr.heap.size, 3, none⟩ (.int .i64 0)) wr.heap.size 25 #[.int .i64 0, .int .i64 0, .slice v1 0 c1, .int .i64 0]) := mkHid ZN.out.fill4
          refine (ris hI1 _ _ _ (HS.out.below K4.out)).mono ?_
          rintro e wb ⟨rfl, hbb⟩
          have K5 := mkHid (K4.out.step hbb)
          have Z5 := mkHid (Z4.out.keep hbb)
          have RV5 := mkHid ((RowOf.past4 (g := wr.heap.size) RV.out (by omega) (.int .i64 0) (.int .i64 0) (.slice v1 0 c1) (.int .i64 0)).below hbb)
          clear cR cN f0 f1 f2 f3 hbb K4 Z4 ZN KA RV hlen
          have bR := ZR.out.keep K5.out
          have cR := bR.four
          have cN := Z5.out.four
          have g0 := bR.frozen 0
          have g1 := bR.frozen 1
          have g2 := bR.frozen 2
          have g3 := bR.frozen 3
          clear g0 g1 g2 g3 bR cN
          go_wp2_with fail
          refine (ris hI1 _ _ _ (HS.out.below K5.out)).mono ?_
          rintro e wc ⟨rfl, hbc⟩
          have K6 := mkHid (K5.out.step hbc)
          clear hbc cR
          have cR := (ZR.out.keep K6.out).four
          have hlen := (MM.out.below K6.out).len_run
          go_wp2_with (first | (at_lookup; refine wp_look rfl _ _ rfl (w2.heap.size + 1) cap s rfl (MM.out.below K6.out) i rfl hib ?_))
          refine (rchk hC1 _ _ _ (HS.out.below K6.out)).mono ?_
          rintro e wd ⟨rfl, hbd⟩
          have K7 := mkHid (K6.out.step hbd)
          clear hbd cR hlen
          go_wp2_with fail
          go_roundw
          case rel => exact ⟨k + 1, cap, vc, va, s, n, by omega, by go_num, rfl, by omega, by omega, by omega, by omega, HG, mkHid (ZR.out.keep K7.out), mkHid (MM.out.below K7.out), mkHid (HS.out.below K7.out), mkHid (HL.out.below K7.out), mkHid (KB.out.step K7.out)⟩
          case measure => simp [intOf]; omega
    · obtain rfl : k = l.length := by omega
      go_wp2_with fail
      have G := HG.out
      have hpow := pow_le G.h2
      have HY : Hid (∀ q, q < s.length → s.getD q 0 ∈ s ∧ s.getD q 0 < 18446744073709551616) := mkHid fun q hq => by
        have hm : s.getD q 0 ∈ s := by rw [getD_eq hq]; exact List.getElem_mem hq
        have := (setOk_iff.1 G.set).2.2 _ hm
        exact ⟨hm, by omega⟩
      have hsl := G.short
      clear hpow G
      go_loop [139] (fun j => ∃ q : Nat, q ≤ s.length ∧ j = .int .i64 (q : Int)) (fun j => s.length - (intOf j).toNat)
      case atStart => exact ⟨0, by omega, rfl⟩
      case round =>
        obtain ⟨q, hq, rfl⟩ := hrel
        by_cases hlq : q < s.length
        · obtain ⟨bd, rfl, hd⟩ := HS.out.cell q hlq
          obtain ⟨hy1, hy2⟩ := HY.out q hlq
          generalize s.getD q 0 = y at *
          go_wp2_with (at_lookup; refine wp_look rfl _ _ rfl (w2.heap.size + 1) cap s rfl MM.out y rfl hy2 ?_)
          go_round
          case rel => exact ⟨q + 1, by omega, by go_num⟩
          case measure => simp [intOf]; omega
        · obtain rfl : q = s.length := by omega
          go_wp2_with fail
          go_ret
          exact ⟨rfl, KB.out⟩
theorem walk_RollMap {w : World} (h : Int) (_wh : (Lit.int .i64 h).wf = true) (room : Int) (_wr : (Lit.int .i64 room).wf = true) (A : Option Addr) (l : List Nat) (c : Nat) (_lc : l.length ≤ c) (_mc : c ≤ maxLen) (hA : Reads w A l) (hlb : ∀ j, l.getD j 0 < 18446744073709551616) :
    Calls Try.prog 3 #[.int .i64 h, .int .i64 room, .slice A l.length c] w fun e w' => e = .returned (.bool true) ∧ Below w.heap.size w w' := by
  by_cases hl : l.length ≤ 100
  · rcases rollCheck_or h room [] 0 with e | e
    · obtain ⟨kk, G⟩ := good_of e
      exact rmap_walk hl (mkHid G) hlb A c w hA
    · exact rmap_bad hl (mkHid e) A c w hA
  · exact rmap_long (by omega) A c w hA
end Go.Proofs.Ytmehbonjpmlmfaa
