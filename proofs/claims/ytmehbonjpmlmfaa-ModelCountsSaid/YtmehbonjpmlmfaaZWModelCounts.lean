/- The walk of ModelCounts: the Go text answers true and writes nothing that was there. -/
import Derived.Test.YtmehbonjpmlmfaaLib5
import Derived.Deep.CutBlock
namespace Go.Proofs.Ytmehbonjpmlmfaa
open Go.RowKit

theorem min_or {a b c : Int} (h : a = min b c) : (b ≤ c ∧ a = b) ∨ (c ≤ b ∧ a = c) := by
  rw [Int.min_def] at h
  split at h
  · exact .inl ⟨by assumption, h⟩
  · exact .inr ⟨by omega, h⟩
theorem min_of {a b c : Int} (h : (b ≤ c ∧ a = b) ∨ (c ≤ b ∧ a = c)) : a = min b c := by
  rw [Int.min_def]
  split <;> omega
set_option maxRecDepth 100000 in
theorem OpsAt.at {w : World} {A : Option Addr} {L : List OpD} (h : OpsAt w A L) {i : Nat} (hi : i < L.length) : ∃ b off, A = some ⟨b, off, none⟩ ∧ w.cell? ⟨b, off + i * 5, none⟩ = some (.int .i64 L[i].kind) ∧ w.cell? ⟨b, off + i * 5 + 1, none⟩ = some (.int .u64 (L[i].i : Int)) ∧
    w.cell? ⟨b, off + i * 5 + 2, none⟩ = some (.int .i64 L[i].n) ∧ w.cell? ⟨b, off + i * 5 + 3, none⟩ = some (.int .u64 (L[i].p.1.toNat : Int)) ∧ w.cell? ⟨b, off + i * 5 + 4, none⟩ = some (.int .u64 (L[i].p.2.toNat : Int)) := by
  obtain ⟨⟨b, off, sp⟩, rfl, hc⟩ := h i hi
  have c0 := hc 0 _ rfl
  have c1 := hc 1 _ rfl
  have c2 := hc 2 _ rfl
  have c3 := hc 3 _ rfl
  have c4 := hc 4 _ rfl
  have : sp = none := by
    obtain ⟨ad, e, hz⟩ := h 0 (by omega)
    cases e
    have := World.cell?_spot (hz 0 _ rfl)
    simpa [Addr.add] using this
  subst this
  rw [addr_add] at c0 c1 c2 c3 c4
  refine ⟨b, off, rfl, ?_, ?_, ?_, ?_, ?_⟩
  · rw [← Nat.add_assoc] at c0; exact c0
  · rw [Nat.add_assoc]; exact c1
  · rw [Nat.add_assoc]; exact c2
  · rw [Nat.add_assoc]; exact c3
  · rw [Nat.add_assoc]; exact c4

set_option maxRecDepth 100000 in
set_option maxHeartbeats 8000000 in
theorem mcounts_long {h room draws : Int} {l : List OpD} (hl : 60 < l.length)  (C : Option Addr) (cc : Nat) (w : World) (hA : OpsAt w C l) :
    Calls Try.prog 8 #[.int .i64 h, .int .i64 room, .int .i64 draws, .slice C l.length cc] w fun e w' => e = .returned (.bool true) ∧ Below w.heap.size w w' := by
  have t0 : decide ((60 : Int) < (l.length : Int)) = true := decide_eq_true (by omega)
  have KB : Hid (Below w.heap.size w w) := mkHid (Below.refl _ _)
  have _HA := mkHid hA
  clear hA
  go_enter Try.func8, Try.ntmps8
  go_wp2_with fail
  refine (live22 _).mono ?_
  rintro e w1 ⟨rfl, hb1⟩
  replace KB := mkHid (KB.out.step hb1)
  clear hb1
  go_wp2_with fail
  go_ret
  exact ⟨rfl, KB.out⟩

set_option maxRecDepth 100000 in
set_option maxHeartbeats 8000000 in
theorem mcounts_bad {h room draws : Int} {l : List OpD} (hl : l.length ≤ 60) {m0 : ModD} {r : Int} (e : Hid (newM h room draws = (m0, r))) (hr : r ≠ 0)  (C : Option Addr) (cc : Nat) (w : World) (hA : OpsAt w C l) :
    Calls Try.prog 8 #[.int .i64 h, .int .i64 room, .int .i64 draws, .slice C l.length cc] w fun e w' => e = .returned (.bool true) ∧ Below w.heap.size w w' := by
  have t0 : decide ((60 : Int) < (l.length : Int)) = false := decide_eq_false (by omega)
  have KB : Hid (Below w.heap.size w w) := mkHid (Below.refl _ _)
  have _HL := mkHid hA
  clear hA
  have t1 : (r != (0 : Int)) = true := bne_iff_ne.2 hr
  clear hr
  go_enter Try.func8, Try.ntmps8
  go_wp2_with fail
  refine (live22 _).mono ?_
  rintro e w1 ⟨rfl, hb1⟩
  replace KB := mkHid (KB.out.step hb1)
  clear hb1
  go_wp2_with fail
  refine (mnew e _).mono ?_
  rintro e w2 ⟨rfl, hb2⟩
  replace KB := mkHid (KB.out.step hb2)
  clear hb2
  have SZ := KB.out.size
  go_wp2_with fail
  go_ret
  exact ⟨rfl, KB.out.alloc SZ _⟩

set_option maxRecDepth 100000 in
set_option maxHeartbeats 8000000 in
theorem mcounts_walk {h room draws : Int} {l : List OpD} (hl : l.length ≤ 60) (e : Hid (newM h room draws = (freshM h room draws, 0))) (hk0 : Hid (okM (freshM h room draws) = true))  (C : Option Addr) (cc : Nat) (w : World) (hA : OpsAt w C l) :
    Calls Try.prog 8 #[.int .i64 h, .int .i64 room, .int .i64 draws, .slice C l.length cc] w fun e w' => e = .returned (.bool true) ∧ Below w.heap.size w w' := by
  have t0 : decide ((60 : Int) < (l.length : Int)) = false := decide_eq_false (by omega)
  have KB : Hid (Below w.heap.size w w) := mkHid (Below.refl _ _)
  have HL := mkHid hA
  clear hA
  go_enter Try.func8, Try.ntmps8
  go_wp2_with fail
  refine (live22 _).mono ?_
  rintro e w1 ⟨rfl, hb1⟩
  replace KB := mkHid (KB.out.step hb1)
  clear hb1
  go_wp2_with fail
  refine (mnew e _).mono ?_
  rintro e w2 ⟨rfl, hb2⟩
  replace KB := mkHid (KB.out.step hb2)
  clear hb2
  have SZ := KB.out.size
  obtain ⟨G, hG⟩ : ∃ G, G = w2.heap.size := ⟨_, rfl⟩
  go_upto_region 5 with fail
  have E0 : Below w2.heap.size w2 (w2.alloc (.cells #[.int .i64 h, .int .i64 room, .slice none 0 0, .int .i64 0, .int .i64 draws, .slice none 0 0] 45)) := (Below.refl _ _).alloc (Nat.le_refl _) _
  have ZM : Hid (Blk (w2.alloc (.cells #[.int .i64 h, .int .i64 room, .slice none 0 0, .int .i64 0, .int .i64 draws, .slice none 0 0] 45)) w2.heap.size 45 #[.int .i64 h, .int .i64 room, .slice none 0 0, .int .i64 0, .int .i64 draws, .slice none 0 0]) := mkHid (Blk.new _ _ _)
  replace KB := mkHid (KB.out.step E0)
  simp only [freshM]
  generalize w2.alloc (.cells #[.int .i64 h, .int .i64 room, .slice none 0 0, .int .i64 0, .int .i64 draws, .slice none 0 0] 45) = u at *
  rw [← hG] at ZM SZ
  rw [← hG]
  clear hG E0
  have cM := ZM.out.six
  have lM := ZM.out.lt
  go_wp2_with fail
  clear cM
  go_loopw [12, 13, 36] (fun vc vs j wr => ∃ (k chg snd : Nat) (ml : List Nat) (S : List SentD) (A : Option Addr) (c : Nat) (B : Option Addr) (d : Nat) (X : List SX), k ≤ l.length ∧ vc = .int .i64 (chg : Int) ∧ vs = .int .i64 (snd : Int) ∧ j = .int .i64 (k : Int) ∧ chg ≤ k ∧ snd ≤ k ∧ Hid ((S.length : Int) = min (snd : Int) (draws - 1)) ∧ Hid (okM ⟨h, room, ml, (chg : Int), draws, S⟩ = true) ∧ Hid (Blk wr G 45 #[.int .i64 h, .int .i64 room, .slice A ml.length c, .int .i64 (chg : Int), .int .i64 draws, .slice B S.length d]) ∧ Hid (OwnM wr (G + 1) A c B d X ⟨h, room, ml, (chg : Int), draws, S⟩) ∧ Hid (Below w.heap.size w wr)) (fun _ _ j _ => l.length - (intOf j).toNat)
  case atStart => exact ⟨0, 0, 0, [], [], none, 0, none, 0, [], by omega, rfl, rfl, rfl, by omega, by omega, mkHid (min_of (by have := (okM_parts hk0.out).2.2.2.2.2.2.1; simp [freshM] at this; simp; omega)), hk0, ZM, mkHid ⟨RowOf.nil _ _, World.ownsRow_nil _ _ _ _, rfl, fun x hx => by simp at hx⟩, KB⟩
  case round =>
    clear ZM KB lM
    obtain ⟨k, chg, snd, ml, S, A, c, B, d, X, hk, rfl, rfl, rfl, hck, hsk, hmin, hok, ZM, HO, KB⟩ := hrel
    by_cases hlt : k < l.length
    · skip
      obtain ⟨b, off, rfl, o0, o1, o2, o3, o4⟩ := (HL.out.below KB.out).at hlt
      obtain ⟨⟨kd, i, n, p1, p2⟩, hoo⟩ : ∃ o, l[k] = o := ⟨_, rfl⟩
      rw [hoo] at o0 o1 o2 o3 o4
      clear hoo
      dsimp only at o0 o1 o2 o3 o4
      obtain ⟨m', a, r, hE⟩ : ∃ m' a r, doM ⟨h, room, ml, (chg : Int), draws, S⟩ ⟨kd, i, n, (p1, p2)⟩ = (m', a, r) := ⟨_, _, _, rfl⟩
      have hS := doM_step hok.out hE
      have HE := mkHid hE
      clear hE
      have hsz := mkHid (okM_sizes hok.out)
      have E1 : Below wr.heap.size wr (wr.alloc (.cells #[.int .i64 kd, .int .u64 (i : Int), .int .i64 n, .int .u64 (p1.toNat : Int), .int .u64 (p2.toNat : Int)] 53)) := (Below.refl _ _).alloc (Nat.le_refl _) _
      have HMM := mkHid ((HO.out.below E1).mem (by have := hsz.out.1; have := hsz.out.2.1; dsimp only at *; omega))
      have cM := ZM.out.six
      have lM := ZM.out.lt
      have ZO : Hid (Blk (wr.alloc (.cells #[.int .i64 kd, .int .u64 (i : Int), .int .i64 n, .int .u64 (p1.toNat : Int), .int .u64 (p2.toNat : Int)] 53)) wr.heap.size 53 #[.int .i64 kd, .int .u64 (i : Int), .int .i64 n, .int .u64 (p1.toNat : Int), .int .u64 (p2.toNat : Int)]) := mkHid (Blk.new _ _ _)
      go_wp2_with fail
      refine (mdo HE _ _ _ _ _ HMM.out).mono ?_
      rintro e wd ⟨A2, c2, B2, d2, X2, rfl, ho2, hbd⟩
      have E2 := E1.step hbd
      replace ZM := mkHid (ZM.out.keep E2)
      replace ZO := mkHid (ZO.out.keep hbd)
      have lO := ZO.out.lt
      replace HO := mkHid (HO.out.below E2)
      replace KB := mkHid (KB.out.step E2)
      have HO2 := mkHid (ho2.base (b := G + 1) (by simp; omega))
      clear ho2 hbd E1 E2 HMM o0 o1 o2 o3 o4 cM
      have SZd := KB.out.size
      have lMd := ZM.out.lt
      go_upto_region 13 with fail
      
      have E3 : Below wd.heap.size wd ((wd.alloc (.cells #[.int .i64 m'.h, .int .i64 m'.cap, .slice A2 m'.l.length c2, .int .i64 m'.n, .int .i64 m'.draws, .slice B2 m'.sent.length d2] 45)).alloc (.cells #[.int .i64 a.e, .int .i64 a.epoch, .int .i64 a.draw, .int .u64 (a.p.1.toNat : Int), .int .u64 (a.p.2.toNat : Int)] 55)) := ((Below.refl _ _).alloc (Nat.le_refl _) _).alloc (by simp) _
      have ZN : Hid (Blk ((wd.alloc (.cells #[.int .i64 m'.h, .int .i64 m'.cap, .slice A2 m'.l.length c2, .int .i64 m'.n, .int .i64 m'.draws, .slice B2 m'.sent.length d2] 45)).alloc (.cells #[.int .i64 a.e, .int .i64 a.epoch, .int .i64 a.draw, .int .u64 (a.p.1.toNat : Int), .int .u64 (a.p.2.toNat : Int)] 55)) wd.heap.size 45 #[.int .i64 m'.h, .int .i64 m'.cap, .slice A2 m'.l.length c2, .int .i64 m'.n, .int .i64 m'.draws, .slice B2 m'.sent.length d2]) := mkHid ((Blk.new _ _ _).alloc _)
      have ZA : Hid (Blk ((wd.alloc (.cells #[.int .i64 m'.h, .int .i64 m'.cap, .slice A2 m'.l.length c2, .int .i64 m'.n, .int .i64 m'.draws, .slice B2 m'.sent.length d2] 45)).alloc (.cells #[.int .i64 a.e, .int .i64 a.epoch, .int .i64 a.draw, .int .u64 (a.p.1.toNat : Int), .int .u64 (a.p.2.toNat : Int)] 55)) (wd.heap.size + 1) 55 #[.int .i64 a.e, .int .i64 a.epoch, .int .i64 a.draw, .int .u64 (a.p.1.toNat : Int), .int .u64 (a.p.2.toNat : Int)]) := mkHid (Blk.at _ _ _ (by simp))
      replace ZM := mkHid (ZM.out.keep E3)
      replace ZO := mkHid (ZO.out.keep E3)
      replace HO := mkHid (HO.out.below E3)
      replace HO2 := mkHid (HO2.out.below E3)
      replace KB := mkHid (KB.out.step E3)
      generalize ((wd.alloc (.cells #[.int .i64 m'.h, .int .i64 m'.cap, .slice A2 m'.l.length c2, .int .i64 m'.n, .int .i64 m'.draws, .slice B2 m'.sent.length d2] 45)).alloc (.cells #[.int .i64 a.e, .int .i64 a.epoch, .int .i64 a.draw, .int .u64 (a.p.1.toNat : Int), .int .u64 (a.p.2.toNat : Int)] 55)) = u5 at *
      clear E3 HE
      have qq := Hid.out hmin
      clear hmin
      have HMIN := mkHid qq
      clear qq
      rcases hS with ⟨rfl, _, rfl, rfl⟩ | ⟨rfl, hk1, hk4, hst, hok'⟩
      · go_wp2_with fail
        go_roundw
        case rel => exact ⟨k + 1, chg, snd, ml, S, A, c, B, d, X, by omega, rfl, rfl, by go_num, by omega, by omega, HMIN, hok, ZM, HO, KB⟩
        case measure => simp [intOf]; omega
      · have HOK := mkHid hok'
        clear hok'
        cases hst with
        | add hkd hi e1 e2 =>
          subst hkd e1 e2
          dsimp only [ansE] at HO2 ZN ZA ZO HOK
          have cO := ZO.out.five
          have cN := ZN.out.six
          have cA := ZA.out.five
          have fM0 := ZM.out.frozen 0
          have fM1 := ZM.out.frozen 1
          have fM2 := ZM.out.frozen 2
          have fM3 := ZM.out.frozen 3
          have fM4 := ZM.out.frozen 4
          have fM5 := ZM.out.frozen 5
          have cM := ZM.out.six
          have hlr : decide (room < ((addL ml i).length : Int)) = false := decide_eq_false (by have := (okM_parts HOK.out).1; have := (okM_parts HOK.out).2.1; dsimp only at *; omega)
          have hmq : (((S.length : Int)) != min ((snd : Int)) (wrap64 (draws - 1))) = false := by
            have h1 := (okM_parts hok.out).2.2.2.2.2.1
            have h2 := (okM_parts hok.out).2.2.2.2.2.2.1
            have h3 := min_or HMIN.out
            dsimp only at h1 h2
            rw [show wrap64 (draws - 1) = draws - 1 by unfold wrap64; omega]
            exact bne_eq_false_iff_eq.2 (min_of (by omega))
          go_upto_region 21 with fail
          replace ZM := mkHid (ZM.out.fill6 (b0 := .int .i64 h) (b1 := .int .i64 room) (b2 := .slice A2 (addL ml i).length c2) (b3 := .int .i64 ((chg : Int) + 1)) (b4 := .int .i64 draws) (b5 := .slice B2 (S).length d2))
          replace HO2 := mkHid (HO2.out.past6 (g := G) (Nat.lt_succ_self _) (.int .i64 h) (.int .i64 room) (.slice A2 (addL ml i).length c2) (.int .i64 ((chg : Int) + 1)) (.int .i64 draws) (.slice B2 (S).length d2))
          replace KB := mkHid (below_six KB.out SZ (.int .i64 h) (.int .i64 room) (.slice A2 (addL ml i).length c2) (.int .i64 ((chg : Int) + 1)) (.int .i64 draws) (.slice B2 (S).length d2))
          generalize ((((((u5.setCell ⟨G, 0, none⟩ (.int .i64 h)).setCell ⟨G, 1, none⟩ (.int .i64 room)).setCell ⟨G, 2, none⟩ (.slice A2 (addL ml i).length c2)).setCell ⟨G, 3, none⟩ (.int .i64 ((chg : Int) + 1))).setCell ⟨G, 4, none⟩ (.int .i64 draws)).setCell ⟨G, 5, none⟩ (.slice B2 (S).length d2)) = u6 at *
          clear cO cN cA fM0 fM1 fM2 fM3 fM4 fM5 cM
          have cM := ZM.out.six
          go_wp2_with fail
          go_roundw
          case rel => exact ⟨k + 1, chg + 1, snd, addL ml i, S, A2, c2, B2, d2, X2, by omega, by go_num, by go_num, by go_num, by omega, by omega, HMIN, HOK, ZM, HO2, KB⟩
          case measure => simp [intOf]; omega
        | del hkd hi e1 e2 =>
          subst hkd e1 e2
          dsimp only [ansE] at HO2 ZN ZA ZO HOK
          have cO := ZO.out.five
          have cN := ZN.out.six
          have cA := ZA.out.five
          have fM0 := ZM.out.frozen 0
          have fM1 := ZM.out.frozen 1
          have fM2 := ZM.out.frozen 2
          have fM3 := ZM.out.frozen 3
          have fM4 := ZM.out.frozen 4
          have fM5 := ZM.out.frozen 5
          have cM := ZM.out.six
          have hlr : decide (room < ((remL ml i).length : Int)) = false := decide_eq_false (by have := (okM_parts HOK.out).1; have := (okM_parts HOK.out).2.1; dsimp only at *; omega)
          have hmq : (((S.length : Int)) != min ((snd : Int)) (wrap64 (draws - 1))) = false := by
            have h1 := (okM_parts hok.out).2.2.2.2.2.1
            have h2 := (okM_parts hok.out).2.2.2.2.2.2.1
            have h3 := min_or HMIN.out
            dsimp only at h1 h2
            rw [show wrap64 (draws - 1) = draws - 1 by unfold wrap64; omega]
            exact bne_eq_false_iff_eq.2 (min_of (by omega))
          go_upto_region 21 with fail
          replace ZM := mkHid (ZM.out.fill6 (b0 := .int .i64 h) (b1 := .int .i64 room) (b2 := .slice A2 (remL ml i).length c2) (b3 := .int .i64 ((chg : Int) + 1)) (b4 := .int .i64 draws) (b5 := .slice B2 (S).length d2))
          replace HO2 := mkHid (HO2.out.past6 (g := G) (Nat.lt_succ_self _) (.int .i64 h) (.int .i64 room) (.slice A2 (remL ml i).length c2) (.int .i64 ((chg : Int) + 1)) (.int .i64 draws) (.slice B2 (S).length d2))
          replace KB := mkHid (below_six KB.out SZ (.int .i64 h) (.int .i64 room) (.slice A2 (remL ml i).length c2) (.int .i64 ((chg : Int) + 1)) (.int .i64 draws) (.slice B2 (S).length d2))
          generalize ((((((u5.setCell ⟨G, 0, none⟩ (.int .i64 h)).setCell ⟨G, 1, none⟩ (.int .i64 room)).setCell ⟨G, 2, none⟩ (.slice A2 (remL ml i).length c2)).setCell ⟨G, 3, none⟩ (.int .i64 ((chg : Int) + 1))).setCell ⟨G, 4, none⟩ (.int .i64 draws)).setCell ⟨G, 5, none⟩ (.slice B2 (S).length d2)) = u6 at *
          clear cO cN cA fM0 fM1 fM2 fM3 fM4 fM5 cM
          have cM := ZM.out.six
          go_wp2_with fail
          go_roundw
          case rel => exact ⟨k + 1, chg + 1, snd, remL ml i, S, A2, c2, B2, d2, X2, by omega, by go_num, by go_num, by go_num, by omega, by omega, HMIN, HOK, ZM, HO2, KB⟩
          case measure => simp [intOf]; omega
        | no hkd e1 q hq e2 =>
          subst e1 e2
          have hq0 : (q == (0 : Int)) = false := beq_eq_false_iff_ne.2 hq
          have hkk : (kd == (3 : Int)) = false := beq_eq_false_iff_ne.2 (by dsimp only at hkd; omega)
          clear hq
          dsimp only [ansE] at HO2 ZN ZA ZO HOK
          clear hkd hk1 hk4
          have cO := ZO.out.five
          have cN := ZN.out.six
          have cA := ZA.out.five
          have fM0 := ZM.out.frozen 0
          have fM1 := ZM.out.frozen 1
          have fM2 := ZM.out.frozen 2
          have fM3 := ZM.out.frozen 3
          have fM4 := ZM.out.frozen 4
          have fM5 := ZM.out.frozen 5
          have cM := ZM.out.six
          have hlr : decide (room < ((ml).length : Int)) = false := decide_eq_false (by have := (okM_parts HOK.out).1; have := (okM_parts HOK.out).2.1; dsimp only at *; omega)
          have hmq : (((S.length : Int)) != min ((snd : Int)) (wrap64 (draws - 1))) = false := by
            have h1 := (okM_parts hok.out).2.2.2.2.2.1
            have h2 := (okM_parts hok.out).2.2.2.2.2.2.1
            have h3 := min_or HMIN.out
            dsimp only at h1 h2
            rw [show wrap64 (draws - 1) = draws - 1 by unfold wrap64; omega]
            exact bne_eq_false_iff_eq.2 (min_of (by omega))
          go_upto_region 21 with fail
          replace ZM := mkHid (ZM.out.fill6 (b0 := .int .i64 h) (b1 := .int .i64 room) (b2 := .slice A2 (ml).length c2) (b3 := .int .i64 (chg : Int)) (b4 := .int .i64 draws) (b5 := .slice B2 (S).length d2))
          replace HO2 := mkHid (HO2.out.past6 (g := G) (Nat.lt_succ_self _) (.int .i64 h) (.int .i64 room) (.slice A2 (ml).length c2) (.int .i64 (chg : Int)) (.int .i64 draws) (.slice B2 (S).length d2))
          replace KB := mkHid (below_six KB.out SZ (.int .i64 h) (.int .i64 room) (.slice A2 (ml).length c2) (.int .i64 (chg : Int)) (.int .i64 draws) (.slice B2 (S).length d2))
          generalize ((((((u5.setCell ⟨G, 0, none⟩ (.int .i64 h)).setCell ⟨G, 1, none⟩ (.int .i64 room)).setCell ⟨G, 2, none⟩ (.slice A2 (ml).length c2)).setCell ⟨G, 3, none⟩ (.int .i64 (chg : Int))).setCell ⟨G, 4, none⟩ (.int .i64 draws)).setCell ⟨G, 5, none⟩ (.slice B2 (S).length d2)) = u6 at *
          clear cO cN cA fM0 fM1 fM2 fM3 fM4 fM5 cM
          have cM := ZM.out.six
          go_wp2_with fail
          go_roundw
          case rel => exact ⟨k + 1, chg, snd, ml, S, A2, c2, B2, d2, X2, by omega, by go_num, by go_num, by go_num, by omega, by omega, HMIN, HOK, ZM, HO2, KB⟩
          case measure => simp [intOf]; omega
        | sent hkd hd e1 e2 =>
          obtain ⟨S2, hS2⟩ : ∃ S2, S ++ [⟨ml, (S.length : Int) + 1, (p1, p2)⟩] = S2 := ⟨_, rfl⟩
          have HS2 : Hid (S2.length = S.length + 1) := mkHid (by rw [← hS2]; simp)
          dsimp only at e1
          rw [hS2] at e1
          clear hS2
          subst hkd e1 e2
          have hls : Hid ((S.length : Int) = (snd : Int)) := mkHid (by have := (okM_parts hok.out).2.2.2.2.2.2.1; have := min_or HMIN.out; dsimp only at *; omega)
          have HF : Hid ((S2.length : Int) = (snd : Int) + 1 ∧ (snd : Int) + 1 < draws) := mkHid (by have := (okM_parts hok.out).2.2.2.2.2.2.1; have := hls.out; have := HS2.out; dsimp only at *; omega)
          have hlt2 : decide ((snd : Int) + 1 < draws) = true := decide_eq_true HF.out.2
          dsimp only at hd
          dsimp only [ansE] at HO2 ZN ZA ZO HOK
          rw [hls.out] at ZA
          clear hd
          have cO := ZO.out.five
          have cN := ZN.out.six
          have cA := ZA.out.five
          have fM0 := ZM.out.frozen 0
          have fM1 := ZM.out.frozen 1
          have fM2 := ZM.out.frozen 2
          have fM3 := ZM.out.frozen 3
          have fM4 := ZM.out.frozen 4
          have fM5 := ZM.out.frozen 5
          have cM := ZM.out.six
          have hlr : decide (room < ((ml).length : Int)) = false := decide_eq_false (by have := (okM_parts HOK.out).1; have := (okM_parts HOK.out).2.1; dsimp only at *; omega)
          have hmq : (((S2.length : Int)) != min ((snd : Int) + 1) (wrap64 (draws - 1))) = false := by
            have h1 := (okM_parts hok.out).2.2.2.2.2.1
            have h2 := (okM_parts hok.out).2.2.2.2.2.2.1
            have h3 := min_or HMIN.out
            dsimp only at h1 h2
            rw [show wrap64 (draws - 1) = draws - 1 by unfold wrap64; omega]
            exact bne_eq_false_iff_eq.2 (min_of (by have := HF.out; omega))
          go_upto_region 21 with fail
          replace ZM := mkHid (ZM.out.fill6 (b0 := .int .i64 h) (b1 := .int .i64 room) (b2 := .slice A2 ml.length c2) (b3 := .int .i64 (chg : Int)) (b4 := .int .i64 draws) (b5 := .slice B2 S2.length d2))
          replace HO2 := mkHid (HO2.out.past6 (g := G) (Nat.lt_succ_self _) (.int .i64 h) (.int .i64 room) (.slice A2 ml.length c2) (.int .i64 (chg : Int)) (.int .i64 draws) (.slice B2 S2.length d2))
          replace KB := mkHid (below_six KB.out SZ (.int .i64 h) (.int .i64 room) (.slice A2 ml.length c2) (.int .i64 (chg : Int)) (.int .i64 draws) (.slice B2 S2.length d2))
          generalize ((((((u5.setCell ⟨G, 0, none⟩ (.int .i64 h)).setCell ⟨G, 1, none⟩ (.int .i64 room)).setCell ⟨G, 2, none⟩ (.slice A2 ml.length c2)).setCell ⟨G, 3, none⟩ (.int .i64 (chg : Int))).setCell ⟨G, 4, none⟩ (.int .i64 draws)).setCell ⟨G, 5, none⟩ (.slice B2 S2.length d2)) = u6 at *
          clear cO cN cA fM0 fM1 fM2 fM3 fM4 fM5 cM
          have cM := ZM.out.six
          go_wp2_with fail
          go_roundw
          case rel => exact ⟨k + 1, chg, snd + 1, ml, S2, A2, c2, B2, d2, X2, by omega, by go_num, by go_num, by go_num, by omega, by omega, mkHid (min_of (by have := HF.out; omega)), HOK, ZM, HO2, KB⟩
          case measure => simp [intOf]; omega
        | full hkd hd e1 e2 =>
          subst hkd e1 e2
          have hlt2 : decide ((snd : Int) + 1 < draws) = false := decide_eq_false (by have := (okM_parts hok.out).2.2.2.2.2.2.1; have := min_or HMIN.out; dsimp only at *; omega)
          dsimp only at hd
          dsimp only [ansE] at HO2 ZN ZA ZO HOK
          have cO := ZO.out.five
          have cN := ZN.out.six
          have cA := ZA.out.five
          have fM0 := ZM.out.frozen 0
          have fM1 := ZM.out.frozen 1
          have fM2 := ZM.out.frozen 2
          have fM3 := ZM.out.frozen 3
          have fM4 := ZM.out.frozen 4
          have fM5 := ZM.out.frozen 5
          have cM := ZM.out.six
          have hlr : decide (room < ((ml).length : Int)) = false := decide_eq_false (by have := (okM_parts HOK.out).1; have := (okM_parts HOK.out).2.1; dsimp only at *; omega)
          have hmq : (((S.length : Int)) != min ((snd : Int) + 1) (wrap64 (draws - 1))) = false := by
            have h1 := (okM_parts hok.out).2.2.2.2.2.1
            have h2 := (okM_parts hok.out).2.2.2.2.2.2.1
            have h3 := min_or HMIN.out
            dsimp only at h1 h2
            rw [show wrap64 (draws - 1) = draws - 1 by unfold wrap64; omega]
            exact bne_eq_false_iff_eq.2 (min_of (by omega))
          go_upto_region 21 with fail
          replace ZM := mkHid (ZM.out.fill6 (b0 := .int .i64 h) (b1 := .int .i64 room) (b2 := .slice A2 (ml).length c2) (b3 := .int .i64 (chg : Int)) (b4 := .int .i64 draws) (b5 := .slice B2 (S).length d2))
          replace HO2 := mkHid (HO2.out.past6 (g := G) (Nat.lt_succ_self _) (.int .i64 h) (.int .i64 room) (.slice A2 (ml).length c2) (.int .i64 (chg : Int)) (.int .i64 draws) (.slice B2 (S).length d2))
          replace KB := mkHid (below_six KB.out SZ (.int .i64 h) (.int .i64 room) (.slice A2 (ml).length c2) (.int .i64 (chg : Int)) (.int .i64 draws) (.slice B2 (S).length d2))
          generalize ((((((u5.setCell ⟨G, 0, none⟩ (.int .i64 h)).setCell ⟨G, 1, none⟩ (.int .i64 room)).setCell ⟨G, 2, none⟩ (.slice A2 (ml).length c2)).setCell ⟨G, 3, none⟩ (.int .i64 (chg : Int))).setCell ⟨G, 4, none⟩ (.int .i64 draws)).setCell ⟨G, 5, none⟩ (.slice B2 (S).length d2)) = u6 at *
          clear cO cN cA fM0 fM1 fM2 fM3 fM4 fM5 cM
          have cM := ZM.out.six
          go_wp2_with fail
          go_roundw
          case rel => exact ⟨k + 1, chg, snd + 1, ml, S, A2, c2, B2, d2, X2, by omega, by go_num, by go_num, by go_num, by omega, by omega, mkHid (min_of (by have := min_or HMIN.out; omega)), HOK, ZM, HO2, KB⟩
          case measure => simp [intOf]; omega
        | read hkd e1 e2 =>
          subst hkd e1
          obtain ⟨ae, aep, adr, ap, aq⟩ := a
          clear e2
          have hz : ∃ z, (ae == (0 : Int)) = z := ⟨_, rfl⟩
          obtain ⟨z, hz⟩ := hz
          cases z
          · dsimp only at HO2 ZN ZA ZO HOK
            have cO := ZO.out.five
            have cN := ZN.out.six
            have cA := ZA.out.five
            have fM0 := ZM.out.frozen 0
            have fM1 := ZM.out.frozen 1
            have fM2 := ZM.out.frozen 2
            have fM3 := ZM.out.frozen 3
            have fM4 := ZM.out.frozen 4
            have fM5 := ZM.out.frozen 5
            have cM := ZM.out.six
            have hlr : decide (room < ((ml).length : Int)) = false := decide_eq_false (by have := (okM_parts HOK.out).1; have := (okM_parts HOK.out).2.1; dsimp only at *; omega)
            have hmq : (((S.length : Int)) != min ((snd : Int)) (wrap64 (draws - 1))) = false := by
              have h1 := (okM_parts hok.out).2.2.2.2.2.1
              have h2 := (okM_parts hok.out).2.2.2.2.2.2.1
              have h3 := min_or HMIN.out
              dsimp only at h1 h2
              rw [show wrap64 (draws - 1) = draws - 1 by unfold wrap64; omega]
              exact bne_eq_false_iff_eq.2 (min_of (by omega))
            go_upto_region 21 with fail
            replace ZM := mkHid (ZM.out.fill6 (b0 := .int .i64 h) (b1 := .int .i64 room) (b2 := .slice A2 (ml).length c2) (b3 := .int .i64 (chg : Int)) (b4 := .int .i64 draws) (b5 := .slice B2 (S).length d2))
            replace HO2 := mkHid (HO2.out.past6 (g := G) (Nat.lt_succ_self _) (.int .i64 h) (.int .i64 room) (.slice A2 (ml).length c2) (.int .i64 (chg : Int)) (.int .i64 draws) (.slice B2 (S).length d2))
            replace KB := mkHid (below_six KB.out SZ (.int .i64 h) (.int .i64 room) (.slice A2 (ml).length c2) (.int .i64 (chg : Int)) (.int .i64 draws) (.slice B2 (S).length d2))
            generalize ((((((u5.setCell ⟨G, 0, none⟩ (.int .i64 h)).setCell ⟨G, 1, none⟩ (.int .i64 room)).setCell ⟨G, 2, none⟩ (.slice A2 (ml).length c2)).setCell ⟨G, 3, none⟩ (.int .i64 (chg : Int))).setCell ⟨G, 4, none⟩ (.int .i64 draws)).setCell ⟨G, 5, none⟩ (.slice B2 (S).length d2)) = u6 at *
            clear cO cN cA fM0 fM1 fM2 fM3 fM4 fM5 cM
            have cM := ZM.out.six
            go_wp2_with fail
            go_roundw
            case rel => exact ⟨k + 1, chg, snd, ml, S, A2, c2, B2, d2, X2, by omega, by go_num, by go_num, by go_num, by omega, by omega, HMIN, HOK, ZM, HO2, KB⟩
            case measure => simp [intOf]; omega
          · dsimp only at HO2 ZN ZA ZO HOK
            have cO := ZO.out.five
            have cN := ZN.out.six
            have cA := ZA.out.five
            have fM0 := ZM.out.frozen 0
            have fM1 := ZM.out.frozen 1
            have fM2 := ZM.out.frozen 2
            have fM3 := ZM.out.frozen 3
            have fM4 := ZM.out.frozen 4
            have fM5 := ZM.out.frozen 5
            have cM := ZM.out.six
            have hlr : decide (room < ((ml).length : Int)) = false := decide_eq_false (by have := (okM_parts HOK.out).1; have := (okM_parts HOK.out).2.1; dsimp only at *; omega)
            have hmq : (((S.length : Int)) != min ((snd : Int)) (wrap64 (draws - 1))) = false := by
              have h1 := (okM_parts hok.out).2.2.2.2.2.1
              have h2 := (okM_parts hok.out).2.2.2.2.2.2.1
              have h3 := min_or HMIN.out
              dsimp only at h1 h2
              rw [show wrap64 (draws - 1) = draws - 1 by unfold wrap64; omega]
              exact bne_eq_false_iff_eq.2 (min_of (by omega))
            go_upto_region 21 with fail
            replace ZM := mkHid (ZM.out.fill6 (b0 := .int .i64 h) (b1 := .int .i64 room) (b2 := .slice A2 (ml).length c2) (b3 := .int .i64 (chg : Int)) (b4 := .int .i64 draws) (b5 := .slice B2 (S).length d2))
            replace HO2 := mkHid (HO2.out.past6 (g := G) (Nat.lt_succ_self _) (.int .i64 h) (.int .i64 room) (.slice A2 (ml).length c2) (.int .i64 (chg : Int)) (.int .i64 draws) (.slice B2 (S).length d2))
            replace KB := mkHid (below_six KB.out SZ (.int .i64 h) (.int .i64 room) (.slice A2 (ml).length c2) (.int .i64 (chg : Int)) (.int .i64 draws) (.slice B2 (S).length d2))
            generalize ((((((u5.setCell ⟨G, 0, none⟩ (.int .i64 h)).setCell ⟨G, 1, none⟩ (.int .i64 room)).setCell ⟨G, 2, none⟩ (.slice A2 (ml).length c2)).setCell ⟨G, 3, none⟩ (.int .i64 (chg : Int))).setCell ⟨G, 4, none⟩ (.int .i64 draws)).setCell ⟨G, 5, none⟩ (.slice B2 (S).length d2)) = u6 at *
            clear cO cN cA fM0 fM1 fM2 fM3 fM4 fM5 cM
            have cM := ZM.out.six
            go_wp2_with fail
            go_roundw
            case rel => exact ⟨k + 1, chg, snd, ml, S, A2, c2, B2, d2, X2, by omega, by go_num, by go_num, by go_num, by omega, by omega, HMIN, HOK, ZM, HO2, KB⟩
            case measure => simp [intOf]; omega
    · obtain rfl : k = l.length := by omega
      go_wp2_with fail
      go_ret
      exact ⟨rfl, KB.out⟩

theorem walk_ModelCounts {w : World} (h : Int) (_wh : (Lit.int .i64 h).wf = true) (room : Int) (_wr : (Lit.int .i64 room).wf = true) (draws : Int) (_wd : (Lit.int .i64 draws).wf = true) (C : Option Addr) (l : List OpD) (cc : Nat) (hA : OpsAt w C l) :
    Calls Try.prog 8 #[.int .i64 h, .int .i64 room, .int .i64 draws, .slice C l.length cc] w fun e w' => e = .returned (.bool true) ∧ Below w.heap.size w w' := by
  by_cases hl : l.length ≤ 60
  · obtain ⟨m0, r, e⟩ : ∃ m0 r, newM h room draws = (m0, r) := ⟨_, _, rfl⟩
    by_cases hr : r = 0
    · subst hr
      obtain ⟨rfl, hk⟩ := newM_ok e
      exact mcounts_walk hl (mkHid e) (mkHid hk) C cc w hA
    · exact mcounts_bad hl (mkHid e) hr C cc w hA
  · exact mcounts_long (by omega) C cc w hA
end Go.Proofs.Ytmehbonjpmlmfaa
