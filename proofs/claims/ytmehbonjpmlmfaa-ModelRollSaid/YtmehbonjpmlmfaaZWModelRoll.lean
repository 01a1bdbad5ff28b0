/- The walk of ModelRoll: the Go text answers true and writes nothing that was there. -/
import Derived.Test.YtmehbonjpmlmfaaLib5
import Derived.Test.YtmehbonjpmlmfaaZMLaw
import Derived.Deep.CutBlock
namespace Go.Proofs.Ytmehbonjpmlmfaa
open Go.RowKit

set_option maxRecDepth 100000 in
set_option maxHeartbeats 8000000 in
theorem mroll_long {h room draws : Int} {l : List OpD} (hl : 60 < l.length)  (C : Option Addr) (cc : Nat) (w : World) (hA : OpsAt w C l) :
    Calls Try.prog 11 #[.int .i64 h, .int .i64 room, .int .i64 draws, .slice C l.length cc] w fun e w' => e = .returned (.bool true) ∧ Below w.heap.size w w' := by
  have t0 : decide ((60 : Int) < (l.length : Int)) = true := decide_eq_true (by omega)
  have KB : Hid (Below w.heap.size w w) := mkHid (Below.refl _ _)
  have _HL := mkHid hA
  clear hA
  go_enter Try.func11, Try.ntmps11
  go_wp2_with fail
  refine (live22 _).mono ?_
  rintro e w1 ⟨rfl, hb1⟩
  replace KB := mkHid (KB.out.step hb1)
  clear hb1
  go_wp2_with fail
  go_ret
  exact ⟨rfl, KB.out⟩

set_option maxRecDepth 100000 in
set_option maxHeartbeats 8000000 in
theorem mroll_bad0 {h room draws : Int} {l : List OpD} (hl : l.length ≤ 60) {m0 : ModD} {r : Int} (e : Hid (newM h room draws = (m0, r))) (hr : r ≠ 0) (f : Hid (rollCheck h room [] 0 = 0)) (C : Option Addr) (cc : Nat) (w : World) (hA : OpsAt w C l) :
    Calls Try.prog 11 #[.int .i64 h, .int .i64 room, .int .i64 draws, .slice C l.length cc] w fun e w' => e = .returned (.bool true) ∧ Below w.heap.size w w' := by
  have t0 : decide ((60 : Int) < (l.length : Int)) = false := decide_eq_false (by omega)
  have KB : Hid (Below w.heap.size w w) := mkHid (Below.refl _ _)
  have _HL := mkHid hA
  clear hA
  have t1 : (r != (0 : Int)) = true := bne_iff_ne.2 hr
  clear hr
  go_enter Try.func11, Try.ntmps11
  go_wp2_with fail
  refine (live22 _).mono ?_
  rintro e w1 ⟨rfl, hb1⟩
  replace KB := mkHid (KB.out.step hb1)
  clear hb1
  go_wp2_with fail
  refine (mnew e _).mono ?_
  rintro e w2 ⟨rfl, hb2⟩
  replace KB := mkHid (KB.out.step hb2)
  clear hb2
  have SZ := KB.out.size
  go_wp2_with fail
  replace KB := mkHid (KB.out.alloc KB.out.size (.cells #[.int .i64 m0.h, .int .i64 m0.cap, .slice none 0 0, .int .i64 m0.n, .int .i64 m0.draws, .slice none 0 0] 45))
  refine (rnew_yes f _).mono ?_
  rintro e w3 ⟨rfl, hb3⟩
  replace KB := mkHid (KB.out.step hb3)
  clear hb3
  have SZ3 := KB.out.size
  go_wp2_with fail
  go_ret
  exact ⟨rfl, KB.out.alloc SZ3 _⟩

set_option maxRecDepth 100000 in
set_option maxHeartbeats 8000000 in
theorem mroll_bad1 {h room draws : Int} {l : List OpD} (hl : l.length ≤ 60) {m0 : ModD} {r : Int} (e : Hid (newM h room draws = (m0, r))) (hr : r ≠ 0) (f : Hid (rollCheck h room [] 0 = 1)) (C : Option Addr) (cc : Nat) (w : World) (hA : OpsAt w C l) :
    Calls Try.prog 11 #[.int .i64 h, .int .i64 room, .int .i64 draws, .slice C l.length cc] w fun e w' => e = .returned (.bool true) ∧ Below w.heap.size w w' := by
  have t0 : decide ((60 : Int) < (l.length : Int)) = false := decide_eq_false (by omega)
  have KB : Hid (Below w.heap.size w w) := mkHid (Below.refl _ _)
  have _HL := mkHid hA
  clear hA
  have t1 : (r != (0 : Int)) = true := bne_iff_ne.2 hr
  clear hr
  go_enter Try.func11, Try.ntmps11
  go_wp2_with fail
  refine (live22 _).mono ?_
  rintro e w1 ⟨rfl, hb1⟩
  replace KB := mkHid (KB.out.step hb1)
  clear hb1
  go_wp2_with fail
  refine (mnew e _).mono ?_
  rintro e w2 ⟨rfl, hb2⟩
  replace KB := mkHid (KB.out.step hb2)
  clear hb2
  have SZ := KB.out.size
  go_wp2_with fail
  replace KB := mkHid (KB.out.alloc KB.out.size (.cells #[.int .i64 m0.h, .int .i64 m0.cap, .slice none 0 0, .int .i64 m0.n, .int .i64 m0.draws, .slice none 0 0] 45))
  refine (rnew_no f _).mono ?_
  rintro e w3 ⟨rfl, hb3⟩
  replace KB := mkHid (KB.out.step hb3)
  clear hb3
  have SZ3 := KB.out.size
  go_wp2_with fail
  go_ret
  exact ⟨rfl, KB.out.alloc SZ3 _⟩

set_option maxRecDepth 100000 in
set_option maxHeartbeats 8000000 in
theorem mroll_walk {h room draws : Int} {l : List OpD} (hl : l.length ≤ 60) (e : Hid (newM h room draws = (freshM h room draws, 0))) (hk0 : Hid (okM (freshM h room draws) = true)) (f : Hid (rollCheck h room [] 0 = 0))  (C : Option Addr) (cc : Nat) (w : World) (hA : OpsAt w C l) :
    Calls Try.prog 11 #[.int .i64 h, .int .i64 room, .int .i64 draws, .slice C l.length cc] w fun e w' => e = .returned (.bool true) ∧ Below w.heap.size w w' := by
  have t0 : decide ((60 : Int) < (l.length : Int)) = false := decide_eq_false (by omega)
  have KB : Hid (Below w.heap.size w w) := mkHid (Below.refl _ _)
  have HL := mkHid hA
  clear hA
  go_enter Try.func11, Try.ntmps11
  go_wp2_with fail
  refine (live22 _).mono ?_
  rintro e w1 ⟨rfl, hb1⟩
  replace KB := mkHid (KB.out.step hb1)
  clear hb1
  go_wp2_with fail
  refine (mnew e _).mono ?_
  rintro e w2 ⟨rfl, hb2⟩
  replace KB := mkHid (KB.out.step hb2)
  clear hb2
  have SZ := KB.out.size
  obtain ⟨G, hG⟩ : ∃ G, G = w2.heap.size := ⟨_, rfl⟩
  go_upto_region 5 with fail
  have E0 : Below w2.heap.size w2 (w2.alloc (.cells #[.int .i64 h, .int .i64 room, .slice none 0 0, .int .i64 0, .int .i64 draws, .slice none 0 0] 45)) := (Below.refl _ _).alloc (Nat.le_refl _) _
  have ZM : Hid (Blk (w2.alloc (.cells #[.int .i64 h, .int .i64 room, .slice none 0 0, .int .i64 0, .int .i64 draws, .slice none 0 0] 45)) w2.heap.size 45 #[.int .i64 h, .int .i64 room, .slice none 0 0, .int .i64 0, .int .i64 draws, .slice none 0 0]) := mkHid (Blk.new _ _ _)
  replace KB := mkHid (KB.out.step E0)
  simp only [freshM]
  generalize w2.alloc (.cells #[.int .i64 h, .int .i64 room, .slice none 0 0, .int .i64 0, .int .i64 draws, .slice none 0 0] 45) = u at *
  rw [← hG] at ZM SZ
  rw [← hG]
  clear hG E0
  have cM := ZM.out.six
  have lM := ZM.out.lt
  go_wp2_with fail
  refine (rnew_yes f _).mono ?_
  rintro e w3 ⟨rfl, hb3⟩
  clear cM
  replace ZM := mkHid (ZM.out.keep hb3)
  replace KB := mkHid (KB.out.step hb3)
  have lM3 := ZM.out.lt
  clear hb3 lM
  obtain ⟨GR, hGR⟩ : ∃ GR, GR = w3.heap.size := ⟨_, rfl⟩
  go_upto_region 6 with fail
  have E0 : Below w3.heap.size w3 (w3.alloc (.cells #[.int .i64 h, .int .i64 room, .slice none 0 0, .int .i64 0] 25)) := (Below.refl _ _).alloc (Nat.le_refl _) _
  have ZR : Hid (Blk (w3.alloc (.cells #[.int .i64 h, .int .i64 room, .slice none 0 0, .int .i64 0] 25)) w3.heap.size 25 #[.int .i64 h, .int .i64 room, .slice none 0 0, .int .i64 0]) := mkHid (Blk.new _ _ _)
  replace KB := mkHid (KB.out.step E0)
  replace ZM := mkHid (ZM.out.keep E0)
  generalize w3.alloc (.cells #[.int .i64 h, .int .i64 room, .slice none 0 0, .int .i64 0] 25) = u0 at *
  rw [← hGR] at ZR lM3
  rw [← hGR]
  clear hGR E0
  have lR := ZR.out.lt
  have cM := ZM.out.six
  go_wp2_with fail
  clear cM
  go_loopw [46] (fun j wr => ∃ (k : Nat) (nn : Int) (ml : List Nat) (S : List SentD) (A : Option Addr) (c : Nat) (B : Option Addr) (d : Nat) (X : List SX) (AR : Option Addr) (cR : Nat), k ≤ l.length ∧ j = .int .i64 (k : Int) ∧ Hid (okM ⟨h, room, ml, nn, draws, S⟩ = true) ∧ Hid (Blk wr G 45 #[.int .i64 h, .int .i64 room, .slice A ml.length c, .int .i64 nn, .int .i64 draws, .slice B S.length d]) ∧ Hid (Blk wr GR 25 #[.int .i64 h, .int .i64 room, .slice AR ml.length cR, .int .i64 nn]) ∧ Hid (RowOf wr (GR + 1) (.slice AR ml.length cR) ml) ∧ Hid (OwnM wr (GR + 1) A c B d X ⟨h, room, ml, nn, draws, S⟩) ∧ Hid (Below w.heap.size w wr)) (fun j _ => l.length - (intOf j).toNat)
  case atStart => exact ⟨0, 0, [], [], none, 0, none, 0, [], none, 0, by omega, rfl, hk0, ZM, ZR, mkHid (RowOf.nil _ _), mkHid ⟨RowOf.nil _ _, World.ownsRow_nil _ _ _ _, rfl, fun x hx => by simp at hx⟩, KB⟩
  case round =>
    clear ZM KB lR ZR
    obtain ⟨k, nn, ml, S, A, c, B, d, X, AR, cR, hk, rfl, hok, ZM, ZR, HR, HO, KB⟩ := hrel
    by_cases hlt : k < l.length
    · skip
      obtain ⟨b, off, rfl, o0, o1, o2, o3, o4⟩ := (HL.out.below KB.out).at hlt
      obtain ⟨⟨kd, i, n, p1, p2⟩, hoo⟩ : ∃ o, l[k] = o := ⟨_, rfl⟩
      rw [hoo] at o0 o1 o2 o3 o4
      clear hoo
      dsimp only at o0 o1 o2 o3 o4
      obtain ⟨m', a, r, hE⟩ : ∃ m' a r, doM ⟨h, room, ml, nn, draws, S⟩ ⟨kd, i, n, (p1, p2)⟩ = (m', a, r) := ⟨_, _, _, rfl⟩
      have hS := mkHid (roll_step hok.out hE)
      have HE := mkHid hE
      clear hE
      have hsz := mkHid (okM_sizes hok.out)
      have E1 : Below wr.heap.size wr (wr.alloc (.cells #[.int .i64 kd, .int .u64 (i : Int), .int .i64 n, .int .u64 (p1.toNat : Int), .int .u64 (p2.toNat : Int)] 53)) := (Below.refl _ _).alloc (Nat.le_refl _) _
      have HMM := mkHid ((HO.out.below E1).mem (by have := hsz.out.1; have := hsz.out.2.1; dsimp only at *; omega))
      have cM := ZM.out.six
      have lM := ZM.out.lt
      have lR := ZR.out.lt
      have ZO : Hid (Blk (wr.alloc (.cells #[.int .i64 kd, .int .u64 (i : Int), .int .i64 n, .int .u64 (p1.toNat : Int), .int .u64 (p2.toNat : Int)] 53)) wr.heap.size 53 #[.int .i64 kd, .int .u64 (i : Int), .int .i64 n, .int .u64 (p1.toNat : Int), .int .u64 (p2.toNat : Int)]) := mkHid (Blk.new _ _ _)
      go_wp2_with fail
      refine (mdo HE _ _ _ _ _ HMM.out).mono ?_
      rintro e wd ⟨A2, c2, B2, d2, X2, rfl, ho2, hbd⟩
      have E2 := E1.step hbd
      replace ZM := mkHid (ZM.out.keep E2)
      replace ZR := mkHid (ZR.out.keep E2)
      replace ZO := mkHid (ZO.out.keep hbd)
      have lO := ZO.out.lt
      replace HO := mkHid (HO.out.below E2)
      replace HR := mkHid (HR.out.below E2)
      replace KB := mkHid (KB.out.step E2)
      have HO2 := mkHid (ho2.base (b := GR + 1) (by simp; omega))
      clear ho2 hbd E1 E2 HMM o0 o1 o2 o3 o4 cM
      have SZd := KB.out.size
      have lMd := ZM.out.lt
      have lRd := ZR.out.lt
      go_upto_region 14 with fail
      have E3 : Below wd.heap.size wd ((wd.alloc (.cells #[.int .i64 m'.h, .int .i64 m'.cap, .slice A2 m'.l.length c2, .int .i64 m'.n, .int .i64 m'.draws, .slice B2 m'.sent.length d2] 45)).alloc (.cells #[.int .i64 a.e, .int .i64 a.epoch, .int .i64 a.draw, .int .u64 (a.p.1.toNat : Int), .int .u64 (a.p.2.toNat : Int)] 55)) := ((Below.refl _ _).alloc (Nat.le_refl _) _).alloc (by simp) _
      have ZN : Hid (Blk ((wd.alloc (.cells #[.int .i64 m'.h, .int .i64 m'.cap, .slice A2 m'.l.length c2, .int .i64 m'.n, .int .i64 m'.draws, .slice B2 m'.sent.length d2] 45)).alloc (.cells #[.int .i64 a.e, .int .i64 a.epoch, .int .i64 a.draw, .int .u64 (a.p.1.toNat : Int), .int .u64 (a.p.2.toNat : Int)] 55)) wd.heap.size 45 #[.int .i64 m'.h, .int .i64 m'.cap, .slice A2 m'.l.length c2, .int .i64 m'.n, .int .i64 m'.draws, .slice B2 m'.sent.length d2]) := mkHid ((Blk.new _ _ _).alloc _)
      have ZA : Hid (Blk ((wd.alloc (.cells #[.int .i64 m'.h, .int .i64 m'.cap, .slice A2 m'.l.length c2, .int .i64 m'.n, .int .i64 m'.draws, .slice B2 m'.sent.length d2] 45)).alloc (.cells #[.int .i64 a.e, .int .i64 a.epoch, .int .i64 a.draw, .int .u64 (a.p.1.toNat : Int), .int .u64 (a.p.2.toNat : Int)] 55)) (wd.heap.size + 1) 55 #[.int .i64 a.e, .int .i64 a.epoch, .int .i64 a.draw, .int .u64 (a.p.1.toNat : Int), .int .u64 (a.p.2.toNat : Int)]) := mkHid (Blk.at _ _ _ (by simp))
      replace ZM := mkHid (ZM.out.keep E3)
      replace ZR := mkHid (ZR.out.keep E3)
      replace ZO := mkHid (ZO.out.keep E3)
      replace HO := mkHid (HO.out.below E3)
      replace HO2 := mkHid (HO2.out.below E3)
      replace HR := mkHid (HR.out.below E3)
      replace KB := mkHid (KB.out.step E3)
      generalize ((wd.alloc (.cells #[.int .i64 m'.h, .int .i64 m'.cap, .slice A2 m'.l.length c2, .int .i64 m'.n, .int .i64 m'.draws, .slice B2 m'.sent.length d2] 45)).alloc (.cells #[.int .i64 a.e, .int .i64 a.epoch, .int .i64 a.draw, .int .u64 (a.p.1.toNat : Int), .int .u64 (a.p.2.toNat : Int)] 55)) = u5 at *
      clear E3 HE
      have lAA := ZA.out.lt
      rcases hS.out with ⟨rfl, _, _⟩ | ⟨rfl, hok', hst⟩
      · go_wp2_with fail
        go_roundw
        case rel => exact ⟨k + 1, nn, ml, S, A, c, B, d, X, AR, cR, by omega, by go_num, hok, ZM, ZR, HR, HO, KB⟩
        case measure => simp [intOf]; omega
      · have HOK := mkHid hok'
        clear hok' hS
        rcases hst with ⟨hkd, L, rfl, rfl, hA⟩ | ⟨hkd, q, hq, rfl, rfl, hA⟩ | ⟨hkd, L, rfl, rfl, hA⟩ | ⟨hkd, q, hq, rfl, rfl, hA⟩ | ⟨hk1, hk2, S2, rfl⟩
        · subst hkd
          dsimp only [ansE] at HO2 ZN ZA ZO HOK
          have HA1 := mkHid hA
          clear hA
          have cO := ZO.out.five
          have cN := ZN.out.six
          have cA := ZA.out.five
          have cR4 := ZR.out.four
          go_upto_region 16 with fail
          have E6 : Below u5.heap.size u5 (u5.alloc (.cells #[.int .i64 h, .int .i64 room, .slice AR ml.length cR, .int .i64 nn] 25)) := (Below.refl _ _).alloc (Nat.le_refl _) _
          have ZC : Hid (Blk (u5.alloc (.cells #[.int .i64 h, .int .i64 room, .slice AR ml.length cR, .int .i64 nn] 25)) u5.heap.size 25 #[.int .i64 h, .int .i64 room, .slice AR ml.length cR, .int .i64 nn]) := mkHid (Blk.new _ _ _)
          replace ZM := mkHid (ZM.out.keep E6)
          replace ZR := mkHid (ZR.out.keep E6)
          replace ZO := mkHid (ZO.out.keep E6)
          replace ZA := mkHid (ZA.out.keep E6)
          replace ZN := mkHid (ZN.out.keep E6)
          replace HO2 := mkHid (HO2.out.below E6)
          replace HR := mkHid (HR.out.below E6)
          replace KB := mkHid (KB.out.step E6)
          obtain ⟨GC, hGC⟩ : ∃ GC, GC = u5.heap.size := ⟨_, rfl⟩
          rw [← hGC] at ZC lAA
          rw [← hGC]
          generalize u5.alloc (.cells #[.int .i64 h, .int .i64 room, .slice AR ml.length cR, .int .i64 nn] 25) = u6 at *
          clear E6 hGC cO cN cA cR4 HO
          have lC := ZC.out.lt
          have cO := ZO.out.five
          have cN := ZN.out.six
          have cA := ZA.out.five
          have cR4 := ZR.out.four
          have cC := ZC.out.four
          go_wp2_with fail
          refine (revoke_any HA1 _ _ _ (reads_row HR.out)).mono ?_
          rintro e w7 ⟨v7, rfl, ho7, hb7⟩
          have RV := mkHid (RowOf.rebase (a := GR + 1) ho7 (by omega))
          clear ho7
          obtain ⟨va, vc, rfl⟩ := RV.out.len
          replace ZM := mkHid (ZM.out.keep hb7)
          replace ZR := mkHid (ZR.out.keep hb7)
          replace ZO := mkHid (ZO.out.keep hb7)
          replace ZA := mkHid (ZA.out.keep hb7)
          replace ZN := mkHid (ZN.out.keep hb7)
          replace ZC := mkHid (ZC.out.keep hb7)
          replace HO2 := mkHid (HO2.out.below hb7)
          replace HR := mkHid (HR.out.below hb7)
          replace KB := mkHid (KB.out.step hb7)
          have lC7 := ZC.out.lt
          clear hb7 cO cN cA cR4 cC
          have cO := ZO.out.five
          have cN := ZN.out.six
          have cA := ZA.out.five
          have cR4 := ZR.out.four
          have cC := ZC.out.four
          have fC0 := ZC.out.frozen 0
          have fC1 := ZC.out.frozen 1
          have fC2 := ZC.out.frozen 2
          have fC3 := ZC.out.frozen 3
          go_upto_region 21 with fail
          replace ZM := mkHid (blk_other4 ZM.out (g := GC) (by omega) (.int .i64 h) (.int .i64 room) (.slice va L.length vc) (.int .i64 (nn + 1)))
          replace ZR := mkHid (blk_other4 ZR.out (g := GC) (by omega) (.int .i64 h) (.int .i64 room) (.slice va L.length vc) (.int .i64 (nn + 1)))
          replace ZO := mkHid (blk_other4 ZO.out (g := GC) (by omega) (.int .i64 h) (.int .i64 room) (.slice va L.length vc) (.int .i64 (nn + 1)))
          replace ZA := mkHid (blk_other4 ZA.out (g := GC) (by omega) (.int .i64 h) (.int .i64 room) (.slice va L.length vc) (.int .i64 (nn + 1)))
          replace ZN := mkHid (blk_other4 ZN.out (g := GC) (by omega) (.int .i64 h) (.int .i64 room) (.slice va L.length vc) (.int .i64 (nn + 1)))
          have ZC0 := ZC
          replace ZC : Hid (Blk ((((w7.setCell ⟨GC, 0, none⟩ (.int .i64 h)).setCell ⟨GC, 1, none⟩ (.int .i64 room)).setCell ⟨GC, 2, none⟩ (.slice va L.length vc)).setCell ⟨GC, 3, none⟩ (.int .i64 (nn + 1))) GC 25 #[.int .i64 h, .int .i64 room, .slice va L.length vc, .int .i64 (nn + 1)]) := mkHid ZC.out.fill4
          replace HO2 := mkHid (own_past4 HO2.out ZC0.out (.int .i64 h) (.int .i64 room) (.slice va L.length vc) (.int .i64 (nn + 1)))
          replace HR := mkHid (row_past4 HR.out ZC0.out (.int .i64 h) (.int .i64 room) (.slice va L.length vc) (.int .i64 (nn + 1)))
          replace RV := mkHid (row_past4 RV.out ZC0.out (.int .i64 h) (.int .i64 room) (.slice va L.length vc) (.int .i64 (nn + 1)))
          replace KB := mkHid (below_four (g := GC) KB.out (by omega) (.int .i64 h) (.int .i64 room) (.slice va L.length vc) (.int .i64 (nn + 1)))
          clear ZC0
          generalize ((((w7.setCell ⟨GC, 0, none⟩ (.int .i64 h)).setCell ⟨GC, 1, none⟩ (.int .i64 room)).setCell ⟨GC, 2, none⟩ (.slice va L.length vc)).setCell ⟨GC, 3, none⟩ (.int .i64 (nn + 1))) = u8 at *
          clear cO cN cA cR4 cC fC0 fC1 fC2 fC3
          have cO := ZO.out.five
          have cN := ZN.out.six
          have cA := ZA.out.five
          have cR4 := ZR.out.four
          have cC := ZC.out.four
          have fR0 := ZR.out.frozen 0
          have fR1 := ZR.out.frozen 1
          have fR2 := ZR.out.frozen 2
          have fR3 := ZR.out.frozen 3
          have fM0 := ZM.out.frozen 0
          have fM1 := ZM.out.frozen 1
          have fM2 := ZM.out.frozen 2
          have fM3 := ZM.out.frozen 3
          have fM4 := ZM.out.frozen 4
          have fM5 := ZM.out.frozen 5
          have cM := ZM.out.six
          go_upto_region 26 with fail
          replace ZM := mkHid (blk_other4 ZM.out (g := GR) (by omega) (.int .i64 h) (.int .i64 room) (.slice va L.length vc) (.int .i64 (nn + 1)))
          have ZR0 := ZR
          replace ZR : Hid (Blk ((((u8.setCell ⟨GR, 0, none⟩ (.int .i64 h)).setCell ⟨GR, 1, none⟩ (.int .i64 room)).setCell ⟨GR, 2, none⟩ (.slice va L.length vc)).setCell ⟨GR, 3, none⟩ (.int .i64 (nn + 1))) GR 25 #[.int .i64 h, .int .i64 room, .slice va L.length vc, .int .i64 (nn + 1)]) := mkHid ZR.out.fill4
          replace HO2 := mkHid (own_past4 HO2.out ZR0.out (.int .i64 h) (.int .i64 room) (.slice va L.length vc) (.int .i64 (nn + 1)))
          replace HR := mkHid (row_past4 HR.out ZR0.out (.int .i64 h) (.int .i64 room) (.slice va L.length vc) (.int .i64 (nn + 1)))
          replace RV := mkHid (row_past4 RV.out ZR0.out (.int .i64 h) (.int .i64 room) (.slice va L.length vc) (.int .i64 (nn + 1)))
          replace KB := mkHid (below_four (g := GR) KB.out (by omega) (.int .i64 h) (.int .i64 room) (.slice va L.length vc) (.int .i64 (nn + 1)))
          clear ZR0
          have ZM0 := ZM
          replace ZM := mkHid (ZM.out.fill6 (b0 := .int .i64 h) (b1 := .int .i64 room) (b2 := .slice A2 L.length c2) (b3 := .int .i64 (nn + 1)) (b4 := .int .i64 draws) (b5 := .slice B2 S.length d2))
          replace ZR := mkHid (ZR.out.other6 (g := G) (x0 := .int .i64 h) (x1 := .int .i64 room) (x2 := .slice A2 L.length c2) (x3 := .int .i64 (nn + 1)) (x4 := .int .i64 draws) (x5 := .slice B2 S.length d2) (by omega))
          replace HO2 := mkHid (HO2.out.past6 (g := G) (by omega) (.int .i64 h) (.int .i64 room) (.slice A2 L.length c2) (.int .i64 (nn + 1)) (.int .i64 draws) (.slice B2 S.length d2))
          replace RV := mkHid (row_past6 RV.out ZM0.out (.int .i64 h) (.int .i64 room) (.slice A2 L.length c2) (.int .i64 (nn + 1)) (.int .i64 draws) (.slice B2 S.length d2))
          replace KB := mkHid (below_six KB.out SZ (.int .i64 h) (.int .i64 room) (.slice A2 L.length c2) (.int .i64 (nn + 1)) (.int .i64 draws) (.slice B2 S.length d2))
          generalize ((((((((((u8.setCell ⟨GR, 0, none⟩ (.int .i64 h)).setCell ⟨GR, 1, none⟩ (.int .i64 room)).setCell ⟨GR, 2, none⟩ (.slice va L.length vc)).setCell ⟨GR, 3, none⟩ (.int .i64 (nn + 1))).setCell ⟨G, 0, none⟩ (.int .i64 h)).setCell ⟨G, 1, none⟩ (.int .i64 room)).setCell ⟨G, 2, none⟩ (.slice A2 L.length c2)).setCell ⟨G, 3, none⟩ (.int .i64 (nn + 1))).setCell ⟨G, 4, none⟩ (.int .i64 draws)).setCell ⟨G, 5, none⟩ (.slice B2 S.length d2)) = u9 at *
          clear cO cN cA cR4 cC cM fR0 fR1 fR2 fR3 fM0 fM1 fM2 fM3 fM4 fM5 ZM0
          have cM := ZM.out.six
          have cR4 := ZR.out.four
          have lM9 := ZM.out.lt
          have lR9 := ZR.out.lt
          have hsz9 := okM_sizes HOK.out
          dsimp only at hsz9
          have HM9 := mkHid (HO2.out.mem ⟨by dsimp only; omega, by dsimp only; omega⟩)
          go_wp2_with fail
          have hsl : (L).length < 4611686018427387904 := by omega
          refine (rsame (rollSame_self h room L (nn + 1)) hsl _ _ _ _ _ (reads_row RV.out) HM9.out.reads).mono ?_
          rintro e wa ⟨rfl, hba⟩
          clear cM cR4
          replace ZM := mkHid (ZM.out.keep hba)
          replace ZR := mkHid (ZR.out.keep hba)
          replace HO2 := mkHid (HO2.out.below hba)
          replace HM9 := mkHid (HM9.out.below hba)
          replace RV := mkHid (RV.out.below hba)
          replace KB := mkHid (KB.out.step hba)
          clear hba
          have cM := ZM.out.six
          have cR4 := ZR.out.four
          go_wp2_with fail
          refine (mchk (r := 0) (mkHid (by rw [HOK.out]; rfl)) _ _ _ _ _ HM9.out).mono ?_
          rintro e wb ⟨rfl, hbb⟩
          clear cM cR4
          replace ZM := mkHid (ZM.out.keep hbb)
          replace ZR := mkHid (ZR.out.keep hbb)
          replace HO2 := mkHid (HO2.out.below hbb)
          replace RV := mkHid (RV.out.below hbb)
          replace KB := mkHid (KB.out.step hbb)
          clear hbb HM9
          go_wp2_with fail
          go_roundw
          case rel => exact ⟨k + 1, _, _, _, A2, c2, B2, d2, X2, va, vc, by omega, by go_num, HOK, ZM, ZR, RV, HO2, KB⟩
          case measure => simp [intOf]; omega
        · subst hkd
          dsimp only [ansE] at HO2 ZN ZA ZO HOK
          have hq0 : (q == (0 : Int)) = false := beq_eq_false_iff_ne.2 hq
          have HA1 := mkHid hA
          clear hA hq
          have cO := ZO.out.five
          have cN := ZN.out.six
          have cA := ZA.out.five
          have cR4 := ZR.out.four
          go_upto_region 16 with fail
          have E6 : Below u5.heap.size u5 (u5.alloc (.cells #[.int .i64 h, .int .i64 room, .slice AR ml.length cR, .int .i64 nn] 25)) := (Below.refl _ _).alloc (Nat.le_refl _) _
          have ZC : Hid (Blk (u5.alloc (.cells #[.int .i64 h, .int .i64 room, .slice AR ml.length cR, .int .i64 nn] 25)) u5.heap.size 25 #[.int .i64 h, .int .i64 room, .slice AR ml.length cR, .int .i64 nn]) := mkHid (Blk.new _ _ _)
          replace ZM := mkHid (ZM.out.keep E6)
          replace ZR := mkHid (ZR.out.keep E6)
          replace ZO := mkHid (ZO.out.keep E6)
          replace ZA := mkHid (ZA.out.keep E6)
          replace ZN := mkHid (ZN.out.keep E6)
          replace HO2 := mkHid (HO2.out.below E6)
          replace HR := mkHid (HR.out.below E6)
          replace KB := mkHid (KB.out.step E6)
          obtain ⟨GC, hGC⟩ : ∃ GC, GC = u5.heap.size := ⟨_, rfl⟩
          rw [← hGC] at ZC lAA
          rw [← hGC]
          generalize u5.alloc (.cells #[.int .i64 h, .int .i64 room, .slice AR ml.length cR, .int .i64 nn] 25) = u6 at *
          clear E6 hGC cO cN cA cR4 HO
          have lC := ZC.out.lt
          have cO := ZO.out.five
          have cN := ZN.out.six
          have cA := ZA.out.five
          have cR4 := ZR.out.four
          have cC := ZC.out.four
          go_wp2_with fail
          refine (revoke_any HA1 _ _ _ (reads_row HR.out)).mono ?_
          rintro e w7 ⟨v7, rfl, ho7, hb7⟩
          have RV := mkHid (RowOf.rebase (a := GR + 1) ho7 (by omega))
          clear ho7
          obtain ⟨va, vc, rfl⟩ := RV.out.len
          replace ZM := mkHid (ZM.out.keep hb7)
          replace ZR := mkHid (ZR.out.keep hb7)
          replace ZO := mkHid (ZO.out.keep hb7)
          replace ZA := mkHid (ZA.out.keep hb7)
          replace ZN := mkHid (ZN.out.keep hb7)
          replace ZC := mkHid (ZC.out.keep hb7)
          replace HO2 := mkHid (HO2.out.below hb7)
          replace HR := mkHid (HR.out.below hb7)
          replace KB := mkHid (KB.out.step hb7)
          have lC7 := ZC.out.lt
          clear hb7 cO cN cA cR4 cC
          have cO := ZO.out.five
          have cN := ZN.out.six
          have cA := ZA.out.five
          have cR4 := ZR.out.four
          have cC := ZC.out.four
          have fC0 := ZC.out.frozen 0
          have fC1 := ZC.out.frozen 1
          have fC2 := ZC.out.frozen 2
          have fC3 := ZC.out.frozen 3
          go_upto_region 21 with fail
          replace ZM := mkHid (blk_other4 ZM.out (g := GC) (by omega) (.int .i64 0) (.int .i64 0) (.slice va 0 vc) (.int .i64 0))
          replace ZR := mkHid (blk_other4 ZR.out (g := GC) (by omega) (.int .i64 0) (.int .i64 0) (.slice va 0 vc) (.int .i64 0))
          replace ZO := mkHid (blk_other4 ZO.out (g := GC) (by omega) (.int .i64 0) (.int .i64 0) (.slice va 0 vc) (.int .i64 0))
          replace ZA := mkHid (blk_other4 ZA.out (g := GC) (by omega) (.int .i64 0) (.int .i64 0) (.slice va 0 vc) (.int .i64 0))
          replace ZN := mkHid (blk_other4 ZN.out (g := GC) (by omega) (.int .i64 0) (.int .i64 0) (.slice va 0 vc) (.int .i64 0))
          have ZC0 := ZC
          replace ZC : Hid (Blk ((((w7.setCell ⟨GC, 0, none⟩ (.int .i64 0)).setCell ⟨GC, 1, none⟩ (.int .i64 0)).setCell ⟨GC, 2, none⟩ (.slice va 0 vc)).setCell ⟨GC, 3, none⟩ (.int .i64 0)) GC 25 #[.int .i64 0, .int .i64 0, .slice va 0 vc, .int .i64 0]) := mkHid ZC.out.fill4
          replace HO2 := mkHid (own_past4 HO2.out ZC0.out (.int .i64 0) (.int .i64 0) (.slice va 0 vc) (.int .i64 0))
          replace HR := mkHid (row_past4 HR.out ZC0.out (.int .i64 0) (.int .i64 0) (.slice va 0 vc) (.int .i64 0))
          replace RV := mkHid (row_past4 RV.out ZC0.out (.int .i64 0) (.int .i64 0) (.slice va 0 vc) (.int .i64 0))
          replace KB := mkHid (below_four (g := GC) KB.out (by omega) (.int .i64 0) (.int .i64 0) (.slice va 0 vc) (.int .i64 0))
          clear ZC0
          generalize ((((w7.setCell ⟨GC, 0, none⟩ (.int .i64 0)).setCell ⟨GC, 1, none⟩ (.int .i64 0)).setCell ⟨GC, 2, none⟩ (.slice va 0 vc)).setCell ⟨GC, 3, none⟩ (.int .i64 0)) = u8 at *
          clear cO cN cA cR4 cC fC0 fC1 fC2 fC3
          have cO := ZO.out.five
          have cN := ZN.out.six
          have cA := ZA.out.five
          have cR4 := ZR.out.four
          have cC := ZC.out.four
          have fR0 := ZR.out.frozen 0
          have fR1 := ZR.out.frozen 1
          have fR2 := ZR.out.frozen 2
          have fR3 := ZR.out.frozen 3
          have fM0 := ZM.out.frozen 0
          have fM1 := ZM.out.frozen 1
          have fM2 := ZM.out.frozen 2
          have fM3 := ZM.out.frozen 3
          have fM4 := ZM.out.frozen 4
          have fM5 := ZM.out.frozen 5
          have cM := ZM.out.six
          go_upto_region 26 with fail
          have ZM0 := ZM
          replace ZM := mkHid (ZM.out.fill6 (b0 := .int .i64 h) (b1 := .int .i64 room) (b2 := .slice A2 ml.length c2) (b3 := .int .i64 nn) (b4 := .int .i64 draws) (b5 := .slice B2 S.length d2))
          replace ZR := mkHid (ZR.out.other6 (g := G) (x0 := .int .i64 h) (x1 := .int .i64 room) (x2 := .slice A2 ml.length c2) (x3 := .int .i64 nn) (x4 := .int .i64 draws) (x5 := .slice B2 S.length d2) (by omega))
          replace HO2 := mkHid (HO2.out.past6 (g := G) (by omega) (.int .i64 h) (.int .i64 room) (.slice A2 ml.length c2) (.int .i64 nn) (.int .i64 draws) (.slice B2 S.length d2))
          replace HR := mkHid (row_past6 HR.out ZM0.out (.int .i64 h) (.int .i64 room) (.slice A2 ml.length c2) (.int .i64 nn) (.int .i64 draws) (.slice B2 S.length d2))
          replace KB := mkHid (below_six KB.out SZ (.int .i64 h) (.int .i64 room) (.slice A2 ml.length c2) (.int .i64 nn) (.int .i64 draws) (.slice B2 S.length d2))
          generalize ((((((u8.setCell ⟨G, 0, none⟩ (.int .i64 h)).setCell ⟨G, 1, none⟩ (.int .i64 room)).setCell ⟨G, 2, none⟩ (.slice A2 ml.length c2)).setCell ⟨G, 3, none⟩ (.int .i64 nn)).setCell ⟨G, 4, none⟩ (.int .i64 draws)).setCell ⟨G, 5, none⟩ (.slice B2 S.length d2)) = u9 at *
          clear cO cN cA cR4 cC cM fR0 fR1 fR2 fR3 fM0 fM1 fM2 fM3 fM4 fM5 ZM0
          have cM := ZM.out.six
          have cR4 := ZR.out.four
          have lM9 := ZM.out.lt
          have lR9 := ZR.out.lt
          have hsz9 := okM_sizes HOK.out
          dsimp only at hsz9
          have HM9 := mkHid (HO2.out.mem ⟨by dsimp only; omega, by dsimp only; omega⟩)
          go_wp2_with fail
          have hsl : (ml).length < 4611686018427387904 := by omega
          refine (rsame (rollSame_self h room ml nn) hsl _ _ _ _ _ (reads_row HR.out) HM9.out.reads).mono ?_
          rintro e wa ⟨rfl, hba⟩
          clear cM cR4
          replace ZM := mkHid (ZM.out.keep hba)
          replace ZR := mkHid (ZR.out.keep hba)
          replace HO2 := mkHid (HO2.out.below hba)
          replace HM9 := mkHid (HM9.out.below hba)
          replace HR := mkHid (HR.out.below hba)
          replace KB := mkHid (KB.out.step hba)
          clear hba
          have cM := ZM.out.six
          have cR4 := ZR.out.four
          go_wp2_with fail
          refine (mchk (r := 0) (mkHid (by rw [HOK.out]; rfl)) _ _ _ _ _ HM9.out).mono ?_
          rintro e wb ⟨rfl, hbb⟩
          clear cM cR4
          replace ZM := mkHid (ZM.out.keep hbb)
          replace ZR := mkHid (ZR.out.keep hbb)
          replace HO2 := mkHid (HO2.out.below hbb)
          replace HR := mkHid (HR.out.below hbb)
          replace KB := mkHid (KB.out.step hbb)
          clear hbb HM9
          go_wp2_with fail
          go_roundw
          case rel => exact ⟨k + 1, _, _, _, A2, c2, B2, d2, X2, AR, cR, by omega, by go_num, HOK, ZM, ZR, HR, HO2, KB⟩
          case measure => simp [intOf]; omega
        · subst hkd
          dsimp only [ansE] at HO2 ZN ZA ZO HOK
          have HA1 := mkHid hA
          clear hA
          have cO := ZO.out.five
          have cN := ZN.out.six
          have cA := ZA.out.five
          have cR4 := ZR.out.four
          go_upto_region 16 with fail
          have E6 : Below u5.heap.size u5 (u5.alloc (.cells #[.int .i64 h, .int .i64 room, .slice AR ml.length cR, .int .i64 nn] 25)) := (Below.refl _ _).alloc (Nat.le_refl _) _
          have ZC : Hid (Blk (u5.alloc (.cells #[.int .i64 h, .int .i64 room, .slice AR ml.length cR, .int .i64 nn] 25)) u5.heap.size 25 #[.int .i64 h, .int .i64 room, .slice AR ml.length cR, .int .i64 nn]) := mkHid (Blk.new _ _ _)
          replace ZM := mkHid (ZM.out.keep E6)
          replace ZR := mkHid (ZR.out.keep E6)
          replace ZO := mkHid (ZO.out.keep E6)
          replace ZA := mkHid (ZA.out.keep E6)
          replace ZN := mkHid (ZN.out.keep E6)
          replace HO2 := mkHid (HO2.out.below E6)
          replace HR := mkHid (HR.out.below E6)
          replace KB := mkHid (KB.out.step E6)
          obtain ⟨GC, hGC⟩ : ∃ GC, GC = u5.heap.size := ⟨_, rfl⟩
          rw [← hGC] at ZC lAA
          rw [← hGC]
          generalize u5.alloc (.cells #[.int .i64 h, .int .i64 room, .slice AR ml.length cR, .int .i64 nn] 25) = u6 at *
          clear E6 hGC cO cN cA cR4 HO
          have lC := ZC.out.lt
          have cO := ZO.out.five
          have cN := ZN.out.six
          have cA := ZA.out.five
          have cR4 := ZR.out.four
          have cC := ZC.out.four
          go_wp2_with fail
          refine (reinstate_any HA1 _ _ _ (reads_row HR.out)).mono ?_
          rintro e w7 ⟨v7, rfl, ho7, hb7⟩
          have RV := mkHid (RowOf.rebase (a := GR + 1) ho7 (by omega))
          clear ho7
          obtain ⟨va, vc, rfl⟩ := RV.out.len
          replace ZM := mkHid (ZM.out.keep hb7)
          replace ZR := mkHid (ZR.out.keep hb7)
          replace ZO := mkHid (ZO.out.keep hb7)
          replace ZA := mkHid (ZA.out.keep hb7)
          replace ZN := mkHid (ZN.out.keep hb7)
          replace ZC := mkHid (ZC.out.keep hb7)
          replace HO2 := mkHid (HO2.out.below hb7)
          replace HR := mkHid (HR.out.below hb7)
          replace KB := mkHid (KB.out.step hb7)
          have lC7 := ZC.out.lt
          clear hb7 cO cN cA cR4 cC
          have cO := ZO.out.five
          have cN := ZN.out.six
          have cA := ZA.out.five
          have cR4 := ZR.out.four
          have cC := ZC.out.four
          have fC0 := ZC.out.frozen 0
          have fC1 := ZC.out.frozen 1
          have fC2 := ZC.out.frozen 2
          have fC3 := ZC.out.frozen 3
          go_upto_region 21 with fail
          replace ZM := mkHid (blk_other4 ZM.out (g := GC) (by omega) (.int .i64 h) (.int .i64 room) (.slice va L.length vc) (.int .i64 (nn + 1)))
          replace ZR := mkHid (blk_other4 ZR.out (g := GC) (by omega) (.int .i64 h) (.int .i64 room) (.slice va L.length vc) (.int .i64 (nn + 1)))
          replace ZO := mkHid (blk_other4 ZO.out (g := GC) (by omega) (.int .i64 h) (.int .i64 room) (.slice va L.length vc) (.int .i64 (nn + 1)))
          replace ZA := mkHid (blk_other4 ZA.out (g := GC) (by omega) (.int .i64 h) (.int .i64 room) (.slice va L.length vc) (.int .i64 (nn + 1)))
          replace ZN := mkHid (blk_other4 ZN.out (g := GC) (by omega) (.int .i64 h) (.int .i64 room) (.slice va L.length vc) (.int .i64 (nn + 1)))
          have ZC0 := ZC
          replace ZC : Hid (Blk ((((w7.setCell ⟨GC, 0, none⟩ (.int .i64 h)).setCell ⟨GC, 1, none⟩ (.int .i64 room)).setCell ⟨GC, 2, none⟩ (.slice va L.length vc)).setCell ⟨GC, 3, none⟩ (.int .i64 (nn + 1))) GC 25 #[.int .i64 h, .int .i64 room, .slice va L.length vc, .int .i64 (nn + 1)]) := mkHid ZC.out.fill4
          replace HO2 := mkHid (own_past4 HO2.out ZC0.out (.int .i64 h) (.int .i64 room) (.slice va L.length vc) (.int .i64 (nn + 1)))
          replace HR := mkHid (row_past4 HR.out ZC0.out (.int .i64 h) (.int .i64 room) (.slice va L.length vc) (.int .i64 (nn + 1)))
          replace RV := mkHid (row_past4 RV.out ZC0.out (.int .i64 h) (.int .i64 room) (.slice va L.length vc) (.int .i64 (nn + 1)))
          replace KB := mkHid (below_four (g := GC) KB.out (by omega) (.int .i64 h) (.int .i64 room) (.slice va L.length vc) (.int .i64 (nn + 1)))
          clear ZC0
          generalize ((((w7.setCell ⟨GC, 0, none⟩ (.int .i64 h)).setCell ⟨GC, 1, none⟩ (.int .i64 room)).setCell ⟨GC, 2, none⟩ (.slice va L.length vc)).setCell ⟨GC, 3, none⟩ (.int .i64 (nn + 1))) = u8 at *
          clear cO cN cA cR4 cC fC0 fC1 fC2 fC3
          have cO := ZO.out.five
          have cN := ZN.out.six
          have cA := ZA.out.five
          have cR4 := ZR.out.four
          have cC := ZC.out.four
          have fR0 := ZR.out.frozen 0
          have fR1 := ZR.out.frozen 1
          have fR2 := ZR.out.frozen 2
          have fR3 := ZR.out.frozen 3
          have fM0 := ZM.out.frozen 0
          have fM1 := ZM.out.frozen 1
          have fM2 := ZM.out.frozen 2
          have fM3 := ZM.out.frozen 3
          have fM4 := ZM.out.frozen 4
          have fM5 := ZM.out.frozen 5
          have cM := ZM.out.six
          go_upto_region 26 with fail
          replace ZM := mkHid (blk_other4 ZM.out (g := GR) (by omega) (.int .i64 h) (.int .i64 room) (.slice va L.length vc) (.int .i64 (nn + 1)))
          have ZR0 := ZR
          replace ZR : Hid (Blk ((((u8.setCell ⟨GR, 0, none⟩ (.int .i64 h)).setCell ⟨GR, 1, none⟩ (.int .i64 room)).setCell ⟨GR, 2, none⟩ (.slice va L.length vc)).setCell ⟨GR, 3, none⟩ (.int .i64 (nn + 1))) GR 25 #[.int .i64 h, .int .i64 room, .slice va L.length vc, .int .i64 (nn + 1)]) := mkHid ZR.out.fill4
          replace HO2 := mkHid (own_past4 HO2.out ZR0.out (.int .i64 h) (.int .i64 room) (.slice va L.length vc) (.int .i64 (nn + 1)))
          replace HR := mkHid (row_past4 HR.out ZR0.out (.int .i64 h) (.int .i64 room) (.slice va L.length vc) (.int .i64 (nn + 1)))
          replace RV := mkHid (row_past4 RV.out ZR0.out (.int .i64 h) (.int .i64 room) (.slice va L.length vc) (.int .i64 (nn + 1)))
          replace KB := mkHid (below_four (g := GR) KB.out (by omega) (.int .i64 h) (.int .i64 room) (.slice va L.length vc) (.int .i64 (nn + 1)))
          clear ZR0
          have ZM0 := ZM
          replace ZM := mkHid (ZM.out.fill6 (b0 := .int .i64 h) (b1 := .int .i64 room) (b2 := .slice A2 L.length c2) (b3 := .int .i64 (nn + 1)) (b4 := .int .i64 draws) (b5 := .slice B2 S.length d2))
          replace ZR := mkHid (ZR.out.other6 (g := G) (x0 := .int .i64 h) (x1 := .int .i64 room) (x2 := .slice A2 L.length c2) (x3 := .int .i64 (nn + 1)) (x4 := .int .i64 draws) (x5 := .slice B2 S.length d2) (by omega))
          replace HO2 := mkHid (HO2.out.past6 (g := G) (by omega) (.int .i64 h) (.int .i64 room) (.slice A2 L.length c2) (.int .i64 (nn + 1)) (.int .i64 draws) (.slice B2 S.length d2))
          replace RV := mkHid (row_past6 RV.out ZM0.out (.int .i64 h) (.int .i64 room) (.slice A2 L.length c2) (.int .i64 (nn + 1)) (.int .i64 draws) (.slice B2 S.length d2))
          replace KB := mkHid (below_six KB.out SZ (.int .i64 h) (.int .i64 room) (.slice A2 L.length c2) (.int .i64 (nn + 1)) (.int .i64 draws) (.slice B2 S.length d2))
          generalize ((((((((((u8.setCell ⟨GR, 0, none⟩ (.int .i64 h)).setCell ⟨GR, 1, none⟩ (.int .i64 room)).setCell ⟨GR, 2, none⟩ (.slice va L.length vc)).setCell ⟨GR, 3, none⟩ (.int .i64 (nn + 1))).setCell ⟨G, 0, none⟩ (.int .i64 h)).setCell ⟨G, 1, none⟩ (.int .i64 room)).setCell ⟨G, 2, none⟩ (.slice A2 L.length c2)).setCell ⟨G, 3, none⟩ (.int .i64 (nn + 1))).setCell ⟨G, 4, none⟩ (.int .i64 draws)).setCell ⟨G, 5, none⟩ (.slice B2 S.length d2)) = u9 at *
          clear cO cN cA cR4 cC cM fR0 fR1 fR2 fR3 fM0 fM1 fM2 fM3 fM4 fM5 ZM0
          have cM := ZM.out.six
          have cR4 := ZR.out.four
          have lM9 := ZM.out.lt
          have lR9 := ZR.out.lt
          have hsz9 := okM_sizes HOK.out
          dsimp only at hsz9
          have HM9 := mkHid (HO2.out.mem ⟨by dsimp only; omega, by dsimp only; omega⟩)
          go_wp2_with fail
          have hsl : (L).length < 4611686018427387904 := by omega
          refine (rsame (rollSame_self h room L (nn + 1)) hsl _ _ _ _ _ (reads_row RV.out) HM9.out.reads).mono ?_
          rintro e wa ⟨rfl, hba⟩
          clear cM cR4
          replace ZM := mkHid (ZM.out.keep hba)
          replace ZR := mkHid (ZR.out.keep hba)
          replace HO2 := mkHid (HO2.out.below hba)
          replace HM9 := mkHid (HM9.out.below hba)
          replace RV := mkHid (RV.out.below hba)
          replace KB := mkHid (KB.out.step hba)
          clear hba
          have cM := ZM.out.six
          have cR4 := ZR.out.four
          go_wp2_with fail
          refine (mchk (r := 0) (mkHid (by rw [HOK.out]; rfl)) _ _ _ _ _ HM9.out).mono ?_
          rintro e wb ⟨rfl, hbb⟩
          clear cM cR4
          replace ZM := mkHid (ZM.out.keep hbb)
          replace ZR := mkHid (ZR.out.keep hbb)
          replace HO2 := mkHid (HO2.out.below hbb)
          replace RV := mkHid (RV.out.below hbb)
          replace KB := mkHid (KB.out.step hbb)
          clear hbb HM9
          go_wp2_with fail
          go_roundw
          case rel => exact ⟨k + 1, _, _, _, A2, c2, B2, d2, X2, va, vc, by omega, by go_num, HOK, ZM, ZR, RV, HO2, KB⟩
          case measure => simp [intOf]; omega
        · subst hkd
          dsimp only [ansE] at HO2 ZN ZA ZO HOK
          have hq0 : (q == (0 : Int)) = false := beq_eq_false_iff_ne.2 hq
          have HA1 := mkHid hA
          clear hA hq
          have cO := ZO.out.five
          have cN := ZN.out.six
          have cA := ZA.out.five
          have cR4 := ZR.out.four
          go_upto_region 16 with fail
          have E6 : Below u5.heap.size u5 (u5.alloc (.cells #[.int .i64 h, .int .i64 room, .slice AR ml.length cR, .int .i64 nn] 25)) := (Below.refl _ _).alloc (Nat.le_refl _) _
          have ZC : Hid (Blk (u5.alloc (.cells #[.int .i64 h, .int .i64 room, .slice AR ml.length cR, .int .i64 nn] 25)) u5.heap.size 25 #[.int .i64 h, .int .i64 room, .slice AR ml.length cR, .int .i64 nn]) := mkHid (Blk.new _ _ _)
          replace ZM := mkHid (ZM.out.keep E6)
          replace ZR := mkHid (ZR.out.keep E6)
          replace ZO := mkHid (ZO.out.keep E6)
          replace ZA := mkHid (ZA.out.keep E6)
          replace ZN := mkHid (ZN.out.keep E6)
          replace HO2 := mkHid (HO2.out.below E6)
          replace HR := mkHid (HR.out.below E6)
          replace KB := mkHid (KB.out.step E6)
          obtain ⟨GC, hGC⟩ : ∃ GC, GC = u5.heap.size := ⟨_, rfl⟩
          rw [← hGC] at ZC lAA
          rw [← hGC]
          generalize u5.alloc (.cells #[.int .i64 h, .int .i64 room, .slice AR ml.length cR, .int .i64 nn] 25) = u6 at *
          clear E6 hGC cO cN cA cR4 HO
          have lC := ZC.out.lt
          have cO := ZO.out.five
          have cN := ZN.out.six
          have cA := ZA.out.five
          have cR4 := ZR.out.four
          have cC := ZC.out.four
          go_wp2_with fail
          refine (reinstate_any HA1 _ _ _ (reads_row HR.out)).mono ?_
          rintro e w7 ⟨v7, rfl, ho7, hb7⟩
          have RV := mkHid (RowOf.rebase (a := GR + 1) ho7 (by omega))
          clear ho7
          obtain ⟨va, vc, rfl⟩ := RV.out.len
          replace ZM := mkHid (ZM.out.keep hb7)
          replace ZR := mkHid (ZR.out.keep hb7)
          replace ZO := mkHid (ZO.out.keep hb7)
          replace ZA := mkHid (ZA.out.keep hb7)
          replace ZN := mkHid (ZN.out.keep hb7)
          replace ZC := mkHid (ZC.out.keep hb7)
          replace HO2 := mkHid (HO2.out.below hb7)
          replace HR := mkHid (HR.out.below hb7)
          replace KB := mkHid (KB.out.step hb7)
          have lC7 := ZC.out.lt
          clear hb7 cO cN cA cR4 cC
          have cO := ZO.out.five
          have cN := ZN.out.six
          have cA := ZA.out.five
          have cR4 := ZR.out.four
          have cC := ZC.out.four
          have fC0 := ZC.out.frozen 0
          have fC1 := ZC.out.frozen 1
          have fC2 := ZC.out.frozen 2
          have fC3 := ZC.out.frozen 3
          go_upto_region 21 with fail
          replace ZM := mkHid (blk_other4 ZM.out (g := GC) (by omega) (.int .i64 0) (.int .i64 0) (.slice va 0 vc) (.int .i64 0))
          replace ZR := mkHid (blk_other4 ZR.out (g := GC) (by omega) (.int .i64 0) (.int .i64 0) (.slice va 0 vc) (.int .i64 0))
          replace ZO := mkHid (blk_other4 ZO.out (g := GC) (by omega) (.int .i64 0) (.int .i64 0) (.slice va 0 vc) (.int .i64 0))
          replace ZA := mkHid (blk_other4 ZA.out (g := GC) (by omega) (.int .i64 0) (.int .i64 0) (.slice va 0 vc) (.int .i64 0))
          replace ZN := mkHid (blk_other4 ZN.out (g := GC) (by omega) (.int .i64 0) (.int .i64 0) (.slice va 0 vc) (.int .i64 0))
          have ZC0 := ZC
          replace ZC : Hid (Blk ((((w7.setCell ⟨GC, 0, none⟩ (.int .i64 0)).setCell ⟨GC, 1, none⟩ (.int .i64 0)).setCell ⟨GC, 2, none⟩ (.slice va 0 vc)).setCell ⟨GC, 3, none⟩ (.int .i64 0)) GC 25 #[.int .i64 0, .int .i64 0, .slice va 0 vc, .int .i64 0]) := mkHid ZC.out.fill4
          replace HO2 := mkHid (own_past4 HO2.out ZC0.out (.int .i64 0) (.int .i64 0) (.slice va 0 vc) (.int .i64 0))
          replace HR := mkHid (row_past4 HR.out ZC0.out (.int .i64 0) (.int .i64 0) (.slice va 0 vc) (.int .i64 0))
          replace RV := mkHid (row_past4 RV.out ZC0.out (.int .i64 0) (.int .i64 0) (.slice va 0 vc) (.int .i64 0))
          replace KB := mkHid (below_four (g := GC) KB.out (by omega) (.int .i64 0) (.int .i64 0) (.slice va 0 vc) (.int .i64 0))
          clear ZC0
          generalize ((((w7.setCell ⟨GC, 0, none⟩ (.int .i64 0)).setCell ⟨GC, 1, none⟩ (.int .i64 0)).setCell ⟨GC, 2, none⟩ (.slice va 0 vc)).setCell ⟨GC, 3, none⟩ (.int .i64 0)) = u8 at *
          clear cO cN cA cR4 cC fC0 fC1 fC2 fC3
          have cO := ZO.out.five
          have cN := ZN.out.six
          have cA := ZA.out.five
          have cR4 := ZR.out.four
          have cC := ZC.out.four
          have fR0 := ZR.out.frozen 0
          have fR1 := ZR.out.frozen 1
          have fR2 := ZR.out.frozen 2
          have fR3 := ZR.out.frozen 3
          have fM0 := ZM.out.frozen 0
          have fM1 := ZM.out.frozen 1
          have fM2 := ZM.out.frozen 2
          have fM3 := ZM.out.frozen 3
          have fM4 := ZM.out.frozen 4
          have fM5 := ZM.out.frozen 5
          have cM := ZM.out.six
          go_upto_region 26 with fail
          have ZM0 := ZM
          replace ZM := mkHid (ZM.out.fill6 (b0 := .int .i64 h) (b1 := .int .i64 room) (b2 := .slice A2 ml.length c2) (b3 := .int .i64 nn) (b4 := .int .i64 draws) (b5 := .slice B2 S.length d2))
          replace ZR := mkHid (ZR.out.other6 (g := G) (x0 := .int .i64 h) (x1 := .int .i64 room) (x2 := .slice A2 ml.length c2) (x3 := .int .i64 nn) (x4 := .int .i64 draws) (x5 := .slice B2 S.length d2) (by omega))
          replace HO2 := mkHid (HO2.out.past6 (g := G) (by omega) (.int .i64 h) (.int .i64 room) (.slice A2 ml.length c2) (.int .i64 nn) (.int .i64 draws) (.slice B2 S.length d2))
          replace HR := mkHid (row_past6 HR.out ZM0.out (.int .i64 h) (.int .i64 room) (.slice A2 ml.length c2) (.int .i64 nn) (.int .i64 draws) (.slice B2 S.length d2))
          replace KB := mkHid (below_six KB.out SZ (.int .i64 h) (.int .i64 room) (.slice A2 ml.length c2) (.int .i64 nn) (.int .i64 draws) (.slice B2 S.length d2))
          generalize ((((((u8.setCell ⟨G, 0, none⟩ (.int .i64 h)).setCell ⟨G, 1, none⟩ (.int .i64 room)).setCell ⟨G, 2, none⟩ (.slice A2 ml.length c2)).setCell ⟨G, 3, none⟩ (.int .i64 nn)).setCell ⟨G, 4, none⟩ (.int .i64 draws)).setCell ⟨G, 5, none⟩ (.slice B2 S.length d2)) = u9 at *
          clear cO cN cA cR4 cC cM fR0 fR1 fR2 fR3 fM0 fM1 fM2 fM3 fM4 fM5 ZM0
          have cM := ZM.out.six
          have cR4 := ZR.out.four
          have lM9 := ZM.out.lt
          have lR9 := ZR.out.lt
          have hsz9 := okM_sizes HOK.out
          dsimp only at hsz9
          have HM9 := mkHid (HO2.out.mem ⟨by dsimp only; omega, by dsimp only; omega⟩)
          go_wp2_with fail
          have hsl : (ml).length < 4611686018427387904 := by omega
          refine (rsame (rollSame_self h room ml nn) hsl _ _ _ _ _ (reads_row HR.out) HM9.out.reads).mono ?_
          rintro e wa ⟨rfl, hba⟩
          clear cM cR4
          replace ZM := mkHid (ZM.out.keep hba)
          replace ZR := mkHid (ZR.out.keep hba)
          replace HO2 := mkHid (HO2.out.below hba)
          replace HM9 := mkHid (HM9.out.below hba)
          replace HR := mkHid (HR.out.below hba)
          replace KB := mkHid (KB.out.step hba)
          clear hba
          have cM := ZM.out.six
          have cR4 := ZR.out.four
          go_wp2_with fail
          refine (mchk (r := 0) (mkHid (by rw [HOK.out]; rfl)) _ _ _ _ _ HM9.out).mono ?_
          rintro e wb ⟨rfl, hbb⟩
          clear cM cR4
          replace ZM := mkHid (ZM.out.keep hbb)
          replace ZR := mkHid (ZR.out.keep hbb)
          replace HO2 := mkHid (HO2.out.below hbb)
          replace HR := mkHid (HR.out.below hbb)
          replace KB := mkHid (KB.out.step hbb)
          clear hbb HM9
          go_wp2_with fail
          go_roundw
          case rel => exact ⟨k + 1, _, _, _, A2, c2, B2, d2, X2, AR, cR, by omega, by go_num, HOK, ZM, ZR, HR, HO2, KB⟩
          case measure => simp [intOf]; omega
        · have h1 : (kd == (1 : Int)) = false := beq_eq_false_iff_ne.2 hk1
          have h2 : (kd == (2 : Int)) = false := beq_eq_false_iff_ne.2 hk2
          dsimp only at HO2 ZN ZA ZO HOK
          clear hk1 hk2
          have cO := ZO.out.five
          have cN := ZN.out.six
          have cA := ZA.out.five
          have cR4 := ZR.out.four
          go_upto_region 16 with fail
          have E6 : Below u5.heap.size u5 (u5.alloc (.cells #[.int .i64 h, .int .i64 room, .slice AR ml.length cR, .int .i64 nn] 25)) := (Below.refl _ _).alloc (Nat.le_refl _) _
          have ZC : Hid (Blk (u5.alloc (.cells #[.int .i64 h, .int .i64 room, .slice AR ml.length cR, .int .i64 nn] 25)) u5.heap.size 25 #[.int .i64 h, .int .i64 room, .slice AR ml.length cR, .int .i64 nn]) := mkHid (Blk.new _ _ _)
          replace ZM := mkHid (ZM.out.keep E6)
          replace ZR := mkHid (ZR.out.keep E6)
          replace ZO := mkHid (ZO.out.keep E6)
          replace ZA := mkHid (ZA.out.keep E6)
          replace ZN := mkHid (ZN.out.keep E6)
          replace HO2 := mkHid (HO2.out.below E6)
          replace HR := mkHid (HR.out.below E6)
          replace KB := mkHid (KB.out.step E6)
          obtain ⟨GC, hGC⟩ : ∃ GC, GC = u5.heap.size := ⟨_, rfl⟩
          rw [← hGC] at ZC lAA
          rw [← hGC]
          generalize u5.alloc (.cells #[.int .i64 h, .int .i64 room, .slice AR ml.length cR, .int .i64 nn] 25) = u6 at *
          clear E6 hGC cO cN cA cR4 HO
          have lC := ZC.out.lt
          have cO := ZO.out.five
          have cN := ZN.out.six
          have cA := ZA.out.five
          have cR4 := ZR.out.four
          have cC := ZC.out.four
          have fR0 := ZR.out.frozen 0
          have fR1 := ZR.out.frozen 1
          have fR2 := ZR.out.frozen 2
          have fR3 := ZR.out.frozen 3
          have fM0 := ZM.out.frozen 0
          have fM1 := ZM.out.frozen 1
          have fM2 := ZM.out.frozen 2
          have fM3 := ZM.out.frozen 3
          have fM4 := ZM.out.frozen 4
          have fM5 := ZM.out.frozen 5
          have cM := ZM.out.six
          go_upto_region 26 with fail
          replace ZM := mkHid (blk_other4 ZM.out (g := GR) (by omega) (.int .i64 h) (.int .i64 room) (.slice AR ml.length cR) (.int .i64 nn))
          have ZR0 := ZR
          replace ZR : Hid (Blk ((((u6.setCell ⟨GR, 0, none⟩ (.int .i64 h)).setCell ⟨GR, 1, none⟩ (.int .i64 room)).setCell ⟨GR, 2, none⟩ (.slice AR ml.length cR)).setCell ⟨GR, 3, none⟩ (.int .i64 nn)) GR 25 #[.int .i64 h, .int .i64 room, .slice AR ml.length cR, .int .i64 nn]) := mkHid ZR.out.fill4
          replace HO2 := mkHid (own_past4 HO2.out ZR0.out (.int .i64 h) (.int .i64 room) (.slice AR ml.length cR) (.int .i64 nn))
          replace HR := mkHid (row_past4 HR.out ZR0.out (.int .i64 h) (.int .i64 room) (.slice AR ml.length cR) (.int .i64 nn))
          skip
          replace KB := mkHid (below_four (g := GR) KB.out (by omega) (.int .i64 h) (.int .i64 room) (.slice AR ml.length cR) (.int .i64 nn))
          clear ZR0
          have ZM0 := ZM
          replace ZM := mkHid (ZM.out.fill6 (b0 := .int .i64 h) (b1 := .int .i64 room) (b2 := .slice A2 ml.length c2) (b3 := .int .i64 nn) (b4 := .int .i64 draws) (b5 := .slice B2 S2.length d2))
          replace ZR := mkHid (ZR.out.other6 (g := G) (x0 := .int .i64 h) (x1 := .int .i64 room) (x2 := .slice A2 ml.length c2) (x3 := .int .i64 nn) (x4 := .int .i64 draws) (x5 := .slice B2 S2.length d2) (by omega))
          replace HO2 := mkHid (HO2.out.past6 (g := G) (by omega) (.int .i64 h) (.int .i64 room) (.slice A2 ml.length c2) (.int .i64 nn) (.int .i64 draws) (.slice B2 S2.length d2))
          replace HR := mkHid (row_past6 HR.out ZM0.out (.int .i64 h) (.int .i64 room) (.slice A2 ml.length c2) (.int .i64 nn) (.int .i64 draws) (.slice B2 S2.length d2))
          replace KB := mkHid (below_six KB.out SZ (.int .i64 h) (.int .i64 room) (.slice A2 ml.length c2) (.int .i64 nn) (.int .i64 draws) (.slice B2 S2.length d2))
          generalize ((((((((((u6.setCell ⟨GR, 0, none⟩ (.int .i64 h)).setCell ⟨GR, 1, none⟩ (.int .i64 room)).setCell ⟨GR, 2, none⟩ (.slice AR ml.length cR)).setCell ⟨GR, 3, none⟩ (.int .i64 nn)).setCell ⟨G, 0, none⟩ (.int .i64 h)).setCell ⟨G, 1, none⟩ (.int .i64 room)).setCell ⟨G, 2, none⟩ (.slice A2 ml.length c2)).setCell ⟨G, 3, none⟩ (.int .i64 nn)).setCell ⟨G, 4, none⟩ (.int .i64 draws)).setCell ⟨G, 5, none⟩ (.slice B2 S2.length d2)) = u9 at *
          clear cO cN cA cR4 cC cM fR0 fR1 fR2 fR3 fM0 fM1 fM2 fM3 fM4 fM5 ZM0
          have cM := ZM.out.six
          have cR4 := ZR.out.four
          have lM9 := ZM.out.lt
          have lR9 := ZR.out.lt
          have hsz9 := okM_sizes HOK.out
          dsimp only at hsz9
          have HM9 := mkHid (HO2.out.mem ⟨by dsimp only; omega, by dsimp only; omega⟩)
          go_wp2_with fail
          have hsl : (ml).length < 4611686018427387904 := by omega
          refine (rsame (rollSame_self h room ml nn) hsl _ _ _ _ _ (reads_row HR.out) HM9.out.reads).mono ?_
          rintro e wa ⟨rfl, hba⟩
          clear cM cR4
          replace ZM := mkHid (ZM.out.keep hba)
          replace ZR := mkHid (ZR.out.keep hba)
          replace HO2 := mkHid (HO2.out.below hba)
          replace HM9 := mkHid (HM9.out.below hba)
          replace HR := mkHid (HR.out.below hba)
          replace KB := mkHid (KB.out.step hba)
          clear hba
          have cM := ZM.out.six
          have cR4 := ZR.out.four
          go_wp2_with fail
          refine (mchk (r := 0) (mkHid (by rw [HOK.out]; rfl)) _ _ _ _ _ HM9.out).mono ?_
          rintro e wb ⟨rfl, hbb⟩
          clear cM cR4
          replace ZM := mkHid (ZM.out.keep hbb)
          replace ZR := mkHid (ZR.out.keep hbb)
          replace HO2 := mkHid (HO2.out.below hbb)
          replace HR := mkHid (HR.out.below hbb)
          replace KB := mkHid (KB.out.step hbb)
          clear hbb HM9
          go_wp2_with fail
          go_roundw
          case rel => exact ⟨k + 1, _, _, _, A2, c2, B2, d2, X2, AR, cR, by omega, by go_num, HOK, ZM, ZR, HR, HO2, KB⟩
          case measure => simp [intOf]; omega
    · obtain rfl : k = l.length := by omega
      go_wp2_with fail
      go_ret
      exact ⟨rfl, KB.out⟩

theorem walk_ModelRoll {w : World} (h : Int) (_wh : (Lit.int .i64 h).wf = true) (room : Int) (_wr : (Lit.int .i64 room).wf = true) (draws : Int) (_wd : (Lit.int .i64 draws).wf = true) (C : Option Addr) (l : List OpD) (cc : Nat) (hA : OpsAt w C l) :
    Calls Try.prog 11 #[.int .i64 h, .int .i64 room, .int .i64 draws, .slice C l.length cc] w fun e w' => e = .returned (.bool true) ∧ Below w.heap.size w w' := by
  by_cases hl : l.length ≤ 60
  · obtain ⟨m0, r, e⟩ : ∃ m0 r, newM h room draws = (m0, r) := ⟨_, _, rfl⟩
    by_cases hr : r = 0
    · subst hr
      obtain ⟨rfl, hk⟩ := newM_ok e
      exact mroll_walk hl (mkHid e) (mkHid hk) (mkHid (okM_roll hk)) C cc w hA
    · rcases rollCheck_or h room [] 0 with f | f
      · exact mroll_bad0 hl (mkHid e) hr (mkHid f) C cc w hA
      · exact mroll_bad1 hl (mkHid e) hr (mkHid f) C cc w hA
  · exact mroll_long (by omega) C cc w hA
end Go.Proofs.Ytmehbonjpmlmfaa
