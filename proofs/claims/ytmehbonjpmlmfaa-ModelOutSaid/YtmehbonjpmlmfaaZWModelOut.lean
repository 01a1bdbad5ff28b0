/- The walk of ModelOut: the Go text answers true and writes nothing that was there. -/
import Derived.Test.YtmehbonjpmlmfaaZModR
import Derived.Test.YtmehbonjpmlmfaaLib5
import Derived.Deep.CutBlock
namespace Go.Proofs.Ytmehbonjpmlmfaa
open Go.RowKit

set_option maxRecDepth 100000 in
set_option maxHeartbeats 16000000 in
theorem mout_long {h room draws : Int} {l : List OpD} {i : Nat} (hl : 60 < l.length)  (C : Option Addr) (cc : Nat) (w : World) (hA : OpsAt w C l) :
    Calls Try.prog 7 #[.int .i64 h, .int .i64 room, .int .i64 draws, .slice C l.length cc, .int .u64 (i : Int)] w fun e w' => e = .returned (.bool true) ∧ Below w.heap.size w w' := by
  have t0 : decide ((60 : Int) < (l.length : Int)) = true := decide_eq_true (by omega)
  have KB : Hid (Below w.heap.size w w) := mkHid (Below.refl _ _)
  have _HL := mkHid hA
  clear hA
  go_enter Try.func7, Try.ntmps7
  go_wp2_with fail
  refine (live22 _).mono ?_
  rintro e w1 ⟨rfl, hb1⟩
  replace KB := mkHid (KB.out.step hb1)
  clear hb1
  go_wp2_with fail
  go_ret
  exact ⟨rfl, KB.out⟩

set_option maxRecDepth 100000 in
set_option maxHeartbeats 16000000 in
theorem mout_bad {h room draws : Int} {l : List OpD} {i : Nat} (hl : l.length ≤ 60) {m0 : ModD} {r : Int} (e : Hid (newM h room draws = (m0, r))) (hr : r ≠ 0)  (C : Option Addr) (cc : Nat) (w : World) (hA : OpsAt w C l) :
    Calls Try.prog 7 #[.int .i64 h, .int .i64 room, .int .i64 draws, .slice C l.length cc, .int .u64 (i : Int)] w fun e w' => e = .returned (.bool true) ∧ Below w.heap.size w w' := by
  have t0 : decide ((60 : Int) < (l.length : Int)) = false := decide_eq_false (by omega)
  have KB : Hid (Below w.heap.size w w) := mkHid (Below.refl _ _)
  have _HL := mkHid hA
  clear hA
  have t1 : (r != (0 : Int)) = true := bne_iff_ne.2 hr
  clear hr
  go_enter Try.func7, Try.ntmps7
  go_wp2_with fail
  refine (live22 _).mono ?_
  rintro e w1 ⟨rfl, hb1⟩
  replace KB := mkHid (KB.out.step hb1)
  clear hb1
  go_wp2_with fail
  refine (mnew e _).mono ?_
  rintro e w2 ⟨rfl, hb2⟩
  replace KB := mkHid (KB.out.step hb2)
  clear hb2
  have SZ := KB.out.size
  go_wp2_with fail
  go_ret
  exact ⟨rfl, KB.out.alloc SZ _⟩

set_option linter.unusedSimpArgs false in
set_option maxRecDepth 100000 in
set_option maxHeartbeats 16000000 in
theorem mout_walk {h room draws : Int} {l : List OpD} {i : Nat} (hl : l.length ≤ 60) (e : Hid (newM h room draws = (freshM h room draws, 0))) (hk0 : Hid (okM (freshM h room draws) = true))  (C : Option Addr) (cc : Nat) (w : World) (hA : OpsAt w C l) :
    Calls Try.prog 7 #[.int .i64 h, .int .i64 room, .int .i64 draws, .slice C l.length cc, .int .u64 (i : Int)] w fun e w' => e = .returned (.bool true) ∧ Below w.heap.size w w' := by
  have t0 : decide ((60 : Int) < (l.length : Int)) = false := decide_eq_false (by omega)
  have KB : Hid (Below w.heap.size w w) := mkHid (Below.refl _ _)
  have HL := mkHid hA
  clear hA
  have hq := eq_blocks
  go_enter Try.func7, Try.ntmps7
  go_wp2_with fail
  refine (live22 _).mono ?_
  rintro e w1 ⟨rfl, hb1⟩
  replace KB := mkHid (KB.out.step hb1)
  clear hb1
  go_wp2_with fail
  refine (mnew e _).mono ?_
  rintro e w2 ⟨rfl, hb2⟩
  replace KB := mkHid (KB.out.step hb2)
  clear hb2
  have SZ := KB.out.size
  obtain ⟨G, hG⟩ : ∃ G, G = w2.heap.size := ⟨_, rfl⟩
  go_upto_region 5 with fail
  have E0 : Below w2.heap.size w2 (w2.alloc (.cells #[.int .i64 h, .int .i64 room, .slice none 0 0, .int .i64 0, .int .i64 draws, .slice none 0 0] 45)) := (Below.refl _ _).alloc (Nat.le_refl _) _
  have ZM : Hid (Blk (w2.alloc (.cells #[.int .i64 h, .int .i64 room, .slice none 0 0, .int .i64 0, .int .i64 draws, .slice none 0 0] 45)) w2.heap.size 45 #[.int .i64 h, .int .i64 room, .slice none 0 0, .int .i64 0, .int .i64 draws, .slice none 0 0]) := mkHid (Blk.new _ _ _)
  replace KB := mkHid (KB.out.step E0)
  simp only [freshM]
  generalize w2.alloc (.cells #[.int .i64 h, .int .i64 room, .slice none 0 0, .int .i64 0, .int .i64 draws, .slice none 0 0] 45) = u at *
  rw [← hG] at ZM SZ
  rw [← hG]
  clear hG E0
  have cM := ZM.out.six
  have lM := ZM.out.lt
  go_wp2_with fail
  clear cM
  go_loopw [14, 15, 16, 45] (fun vO vP vi j wr => ∃ (k : Nat) (nn : Int) (ml : List Nat) (S : List SentD) (z : Bool) (A : Option Addr) (c : Nat) (B : Option Addr) (d : Nat) (X : List SX) (aO : Option Addr) (cO : Nat) (aP : Option Addr) (cP : Nat), k ≤ l.length ∧ vO = .slice aO S.length cO ∧ vP = .slice aP S.length cP ∧ vi = .bool z ∧ j = .int .i64 (k : Int) ∧ Hid (decide (i ∈ ml) = z) ∧ Hid (okM ⟨h, room, ml, nn, draws, S⟩ = true) ∧ Hid (Blk wr G 45 #[.int .i64 h, .int .i64 room, .slice A ml.length c, .int .i64 nn, .int .i64 draws, .slice B S.length d]) ∧ Hid (OwnM wr (G + 1) A c B d X ⟨h, room, ml, nn, draws, S⟩) ∧ Hid ((wr).ownsRow (G + 1) 4 1 (.slice aO S.length cO) S.length (boolCells (outB i S))) ∧ Hid ((wr).ownsRow (G + 1) 51 2 (.slice aP S.length cP) S.length (payCells (payP S))) ∧ Hid (Below w.heap.size w wr)) (fun _ _ _ j _ => l.length - (intOf j).toNat)
  case atStart => exact ⟨0, 0, [], [], false, none, 0, none, 0, [], none, 0, none, 0, by omega, rfl, rfl, rfl, rfl, mkHid (by simp), hk0, ZM, mkHid ⟨RowOf.nil _ _, World.ownsRow_nil _ _ _ _, rfl, fun x hx => by simp at hx⟩, mkHid (World.ownsRow_nil _ _ _ _), mkHid (World.ownsRow_nil _ _ _ _), KB⟩
  case round =>
    clear ZM KB lM
    obtain ⟨k, nn, ml, S, z, A, c, B, d, X, aO, cO, aP, cP, hk, rfl, rfl, rfl, rfl, hz, hok, ZM, HO, HB, HP, KB⟩ := hrel
    by_cases hlt : k < l.length
    · skip
      obtain ⟨b, off, rfl, o0, o1, o2, o3, o4⟩ := (HL.out.below KB.out).at hlt
      go_upto_block 1 with fail
      refine wp_block ?_
      refine ahead7 (fun a wx => ∃ u : Nat → Value, (∃ (nn2 : Int) (ml2 : List Nat) (S2 : List SentD) (z2 : Bool) (A2 : Option Addr) (c2 : Nat) (B2 : Option Addr) (d2 : Nat) (X2 : List SX) (aO2 : Option Addr) (cO2 : Nat) (aP2 : Option Addr) (cP2 : Nat), u 14 = .slice aO2 S2.length cO2 ∧ u 15 = .slice aP2 S2.length cP2 ∧ u 16 = .bool z2 ∧ Hid (decide (i ∈ ml2) = z2) ∧ Hid (okM ⟨h, room, ml2, nn2, draws, S2⟩ = true) ∧ Hid (Blk wx G 45 #[.int .i64 h, .int .i64 room, .slice A2 ml2.length c2, .int .i64 nn2, .int .i64 draws, .slice B2 S2.length d2]) ∧ Hid (OwnM wx (G + 1) A2 c2 B2 d2 X2 ⟨h, room, ml2, nn2, draws, S2⟩) ∧ Hid ((wx).ownsRow (G + 1) 4 1 (.slice aO2 S2.length cO2) S2.length (boolCells (outB i S2))) ∧ Hid ((wx).ownsRow (G + 1) 51 2 (.slice aP2 S2.length cP2) S2.length (payCells (payP S2))) ∧ Hid (Below w.heap.size w wx)) ∧ a = ⟨#[.int .i64 h, .int .i64 room, .int .i64 draws, .slice (some ⟨b, off, none⟩) l.length cc, .int .u64 (i : Int), undef, undef, undef, undef, undef, u10, .bool true, .pointer (some ⟨G, 0, none⟩), .int .i64 0, u 14, u 15, u 16, undef, u 18, u 19, u 20, u 21, u 22, u 23, u 24, u 25, u 26, u 27, .bool true, .slice (some ⟨b, off, none⟩) l.length cc, .int .i64 (l.length : Int), .bool false, undef, .tuple #[.agg #[.int .i64 h, .int .i64 room, .slice none 0 0, .int .i64 0, .int .i64 draws, .slice none 0 0], .int .i64 0], .int .i64 h, .int .i64 room, .int .i64 draws, .tuple #[.agg #[.int .i64 h, .int .i64 room, .slice none 0 0, .int .i64 0, .int .i64 draws, .slice none 0 0], .int .i64 0], .agg #[.int .i64 h, .int .i64 room, .slice none 0 0, .int .i64 0, .int .i64 draws, .slice none 0 0], .int .i64 0, .int .i64 0, .bool false, undef, .slice (some ⟨b, off, none⟩) l.length cc, .int .i64 (l.length : Int), .int .i64 (k : Int), u 46, u 47, u 48, u 49, u 50, u 51, u 52, u 53, u 54, u 55, u 56, u 57, u 58, u 59, u 60, u 61, u 62, u 63, u 64, u 65, u 66, u 67, u 68, u 69, u 70, u 71, u 72, u 73, u 74, u 75, u 76, u 77, u 78, u 79, u 80, u 81, u 82, u 83, u 84, u 85, u 86, u 87, u 88, u 89, u 90, u 91, u 92, u 93, u 94, u 95, u 96, u 97, u 98, u 99, u 100, u 101, u 102, u 103, u 104, u 105, u 106, u 107, u 108, u 109, u 110, u 111, u 112, u 113, u 114, u 115, u 116, u 117, u 118, u 119, u 120, u 121, u 122, u 123, u 124, u 125, u 126, u 127, u 128, u 129, u 130, u 131, u 132, u 133, u 134, u 135, u 136, u 137, u 138, u 139, u 140, u 141, u 142, u 143, u 144, u 145, u 146, u 147, u 148, u 149, u 150, u 151, u 152, u 153, u 154, u 155, u 156, u 157, u 158, u 159, u 160, u 161, u 162, u 163, u 164, u 165, u 166, u 167, u 168, u 169, u 170, u 171, u 172, u 173, u 174, u 175, u 176, u 177, u 178, u 179, u 180, u 181, u 182, undef, undef, undef, undef, undef, undef, undef, undef, undef], []⟩) ?rest ?main
      case main =>
        intro REST
        obtain ⟨⟨kd, ii, n, p1, p2⟩, hoo⟩ : ∃ o, l[k] = o := ⟨_, rfl⟩
        rw [hoo] at o0 o1 o2 o3 o4
        clear hoo
        dsimp only at o0 o1 o2 o3 o4
        obtain ⟨m', a, r, hE⟩ : ∃ m' a r, doM ⟨h, room, ml, nn, draws, S⟩ ⟨kd, ii, n, (p1, p2)⟩ = (m', a, r) := ⟨_, _, _, rfl⟩
        have hS := mkHid (out_step hok.out hE i)
        have HE := mkHid hE
        clear hE
        have hsz := mkHid (okM_sizes hok.out)
        have E1 : Below wr.heap.size wr (wr.alloc (.cells #[.int .i64 kd, .int .u64 (ii : Int), .int .i64 n, .int .u64 (p1.toNat : Int), .int .u64 (p2.toNat : Int)] 53)) := (Below.refl _ _).alloc (Nat.le_refl _) _
        have HMM := mkHid ((HO.out.below E1).mem (by have := hsz.out.1; have := hsz.out.2.1; dsimp only at *; omega))
        have cM := ZM.out.six
        have lM := ZM.out.lt
        have ZO : Hid (Blk (wr.alloc (.cells #[.int .i64 kd, .int .u64 (ii : Int), .int .i64 n, .int .u64 (p1.toNat : Int), .int .u64 (p2.toNat : Int)] 53)) wr.heap.size 53 #[.int .i64 kd, .int .u64 (ii : Int), .int .i64 n, .int .u64 (p1.toNat : Int), .int .u64 (p2.toNat : Int)]) := mkHid (Blk.new _ _ _)
        go_wp2_with fail
        refine (mdo HE _ _ _ _ _ HMM.out).mono ?_
        rintro e wd ⟨A2, c2, B2, d2, X2, rfl, ho2, hbd⟩
        have E2 := E1.step hbd
        replace ZM := mkHid (ZM.out.keep E2)
        replace ZO := mkHid (ZO.out.keep hbd)
        have lO := ZO.out.lt
        replace HO := mkHid (HO.out.below E2)
        replace HB := mkHid (own_keep HB.out E2)
        replace HP := mkHid (own_keep HP.out E2)
        replace KB := mkHid (KB.out.step E2)
        have HO2 := mkHid (ho2.base (b := G + 1) (by simp; omega))
        clear ho2 hbd E1 E2 HMM o0 o1 o2 o3 o4 cM
        have SZd := KB.out.size
        have lMd := ZM.out.lt
        go_upto_region 14 with fail
        have E3 : Below wd.heap.size wd ((wd.alloc (.cells #[.int .i64 m'.h, .int .i64 m'.cap, .slice A2 m'.l.length c2, .int .i64 m'.n, .int .i64 m'.draws, .slice B2 m'.sent.length d2] 45)).alloc (.cells #[.int .i64 a.e, .int .i64 a.epoch, .int .i64 a.draw, .int .u64 (a.p.1.toNat : Int), .int .u64 (a.p.2.toNat : Int)] 55)) := ((Below.refl _ _).alloc (Nat.le_refl _) _).alloc (by simp) _
        have ZN : Hid (Blk ((wd.alloc (.cells #[.int .i64 m'.h, .int .i64 m'.cap, .slice A2 m'.l.length c2, .int .i64 m'.n, .int .i64 m'.draws, .slice B2 m'.sent.length d2] 45)).alloc (.cells #[.int .i64 a.e, .int .i64 a.epoch, .int .i64 a.draw, .int .u64 (a.p.1.toNat : Int), .int .u64 (a.p.2.toNat : Int)] 55)) wd.heap.size 45 #[.int .i64 m'.h, .int .i64 m'.cap, .slice A2 m'.l.length c2, .int .i64 m'.n, .int .i64 m'.draws, .slice B2 m'.sent.length d2]) := mkHid ((Blk.new _ _ _).alloc _)
        have ZA : Hid (Blk ((wd.alloc (.cells #[.int .i64 m'.h, .int .i64 m'.cap, .slice A2 m'.l.length c2, .int .i64 m'.n, .int .i64 m'.draws, .slice B2 m'.sent.length d2] 45)).alloc (.cells #[.int .i64 a.e, .int .i64 a.epoch, .int .i64 a.draw, .int .u64 (a.p.1.toNat : Int), .int .u64 (a.p.2.toNat : Int)] 55)) (wd.heap.size + 1) 55 #[.int .i64 a.e, .int .i64 a.epoch, .int .i64 a.draw, .int .u64 (a.p.1.toNat : Int), .int .u64 (a.p.2.toNat : Int)]) := mkHid (Blk.at _ _ _ (by simp))
        replace ZM := mkHid (ZM.out.keep E3)
        replace ZO := mkHid (ZO.out.keep E3)
        replace HO := mkHid (HO.out.below E3)
        replace HB := mkHid (own_keep HB.out E3)
        replace HP := mkHid (own_keep HP.out E3)
        replace HO2 := mkHid (HO2.out.below E3)
        replace KB := mkHid (KB.out.step E3)
        generalize ((wd.alloc (.cells #[.int .i64 m'.h, .int .i64 m'.cap, .slice A2 m'.l.length c2, .int .i64 m'.n, .int .i64 m'.draws, .slice B2 m'.sent.length d2] 45)).alloc (.cells #[.int .i64 a.e, .int .i64 a.epoch, .int .i64 a.draw, .int .u64 (a.p.1.toNat : Int), .int .u64 (a.p.2.toNat : Int)] 55)) = u5 at *
        clear E3 HE
        have lAA := ZA.out.lt
        rcases hS.out with ⟨rfl, _, _⟩ | ⟨rfl, hok', hst⟩
        · go_wp2_with fail
          go_roundw
          case rel => exact ⟨k + 1, nn, ml, S, z, A, c, B, d, X, aO, cO, aP, cP, by omega, rfl, rfl, rfl, by go_num, hz, hok, ZM, HO, HB, HP, KB⟩
          case measure => simp [intOf]; omega
        · have HOK := mkHid hok'
          clear hok' hS
          rcases hst with ⟨hkd, hii, rfl, ml2, mn2, rfl, hz2⟩ | ⟨hkd, hii, rfl, ml2, mn2, rfl, hz2⟩ | ⟨hkd, hii, rfl, ml2, mn2, rfl, hz2⟩ | ⟨hkd, hii, rfl, ml2, mn2, rfl, hz2⟩ | ⟨hkd, rfl, rfl⟩ | ⟨hae, rfl⟩ | ⟨hae, hkd, rfl⟩
          · (try dsimp only at hz2)
            (try dsimp only at hkd hii)
            have hii2 := hii.symm
            clear hii
            subst hkd hii2
            have hz3 := mkHid hz2
            clear hz2
            (try dsimp only [ansE] at HO2 ZN ZA ZO HOK)
            have cO5 := ZO.out.five
            have cA5 := ZA.out.five
            go_upto_region 22 with fail
            
            have fM0 := ZM.out.frozen 0
            have fM1 := ZM.out.frozen 1
            have fM2 := ZM.out.frozen 2
            have fM3 := ZM.out.frozen 3
            have fM4 := ZM.out.frozen 4
            have fM5 := ZM.out.frozen 5
            have cM := ZM.out.six
            have cN := ZN.out.six
            have ZM0 := ZM
            replace ZM := mkHid (ZM.out.fill6 (b0 := .int .i64 h) (b1 := .int .i64 room) (b2 := .slice A2 ml2.length c2) (b3 := .int .i64 mn2) (b4 := .int .i64 draws) (b5 := .slice B2 S.length d2))
            replace HO2 := mkHid (HO2.out.past6 (g := G) (Nat.lt_succ_self _) (.int .i64 h) (.int .i64 room) (.slice A2 ml2.length c2) (.int .i64 mn2) (.int .i64 draws) (.slice B2 S.length d2))
            replace HB := mkHid (own_past6b HB.out ZM0.out (by decide) (.int .i64 h) (.int .i64 room) (.slice A2 ml2.length c2) (.int .i64 mn2) (.int .i64 draws) (.slice B2 S.length d2))
            replace HP := mkHid (own_past6b HP.out ZM0.out (by decide) (.int .i64 h) (.int .i64 room) (.slice A2 ml2.length c2) (.int .i64 mn2) (.int .i64 draws) (.slice B2 S.length d2))
            replace KB := mkHid (below_six KB.out SZ (.int .i64 h) (.int .i64 room) (.slice A2 ml2.length c2) (.int .i64 mn2) (.int .i64 draws) (.slice B2 S.length d2))
            clear ZM0
            (try (first | (refine endAt REST ?_ ?_; focus (assumption)) | go_values | go_skip | go_guarded | go_step | go_upon))
            (try (first | (refine endAt REST ?_ ?_; focus (assumption)) | go_values | go_skip | go_guarded | go_step | go_upon))
            (try (first | (refine endAt REST ?_ ?_; focus (assumption)) | go_values | go_skip | go_guarded | go_step | go_upon))
            (try (first | (refine endAt REST ?_ ?_; focus (assumption)) | go_values | go_skip | go_guarded | go_step | go_upon))
            (try (first | (refine endAt REST ?_ ?_; focus (assumption)) | go_values | go_skip | go_guarded | go_step | go_upon))
            (try (first | (refine endAt REST ?_ ?_; focus (assumption)) | go_values | go_skip | go_guarded | go_step | go_upon))
            (try (first | (refine endAt REST ?_ ?_; focus (assumption)) | go_values | go_skip | go_guarded | go_step | go_upon))
            (try (first | (refine endAt REST ?_ ?_; focus (assumption)) | go_values | go_skip | go_guarded | go_step | go_upon))
            (try (first | (refine endAt REST ?_ ?_; focus (assumption)) | go_values | go_skip | go_guarded | go_step | go_upon))
            exact exU ⟨mn2, ml2, S, true, A2, c2, B2, d2, X2, aO, cO, aP, cP, rfl, rfl, rfl, hz3, HOK, ZM, HO2, HB, HP, KB⟩ rfl
          · (try dsimp only at hz2)
            (try dsimp only at hkd hii)
            subst hkd
            have hin : ((ii : Int) == (i : Int)) = false := beq_eq_false_iff_ne.2 (by omega)
            have hin2 : (ii == i) = false := beq_eq_false_iff_ne.2 hii
            rw [hz.out] at hz2
            have hz3 := mkHid hz2
            clear hz2 hii
            (try dsimp only [ansE] at HO2 ZN ZA ZO HOK)
            have cO5 := ZO.out.five
            have cA5 := ZA.out.five
            go_upto_region 22 with fail
            
            have fM0 := ZM.out.frozen 0
            have fM1 := ZM.out.frozen 1
            have fM2 := ZM.out.frozen 2
            have fM3 := ZM.out.frozen 3
            have fM4 := ZM.out.frozen 4
            have fM5 := ZM.out.frozen 5
            have cM := ZM.out.six
            have cN := ZN.out.six
            have ZM0 := ZM
            replace ZM := mkHid (ZM.out.fill6 (b0 := .int .i64 h) (b1 := .int .i64 room) (b2 := .slice A2 ml2.length c2) (b3 := .int .i64 mn2) (b4 := .int .i64 draws) (b5 := .slice B2 S.length d2))
            replace HO2 := mkHid (HO2.out.past6 (g := G) (Nat.lt_succ_self _) (.int .i64 h) (.int .i64 room) (.slice A2 ml2.length c2) (.int .i64 mn2) (.int .i64 draws) (.slice B2 S.length d2))
            replace HB := mkHid (own_past6b HB.out ZM0.out (by decide) (.int .i64 h) (.int .i64 room) (.slice A2 ml2.length c2) (.int .i64 mn2) (.int .i64 draws) (.slice B2 S.length d2))
            replace HP := mkHid (own_past6b HP.out ZM0.out (by decide) (.int .i64 h) (.int .i64 room) (.slice A2 ml2.length c2) (.int .i64 mn2) (.int .i64 draws) (.slice B2 S.length d2))
            replace KB := mkHid (below_six KB.out SZ (.int .i64 h) (.int .i64 room) (.slice A2 ml2.length c2) (.int .i64 mn2) (.int .i64 draws) (.slice B2 S.length d2))
            clear ZM0
            (try (first | (refine endAt REST ?_ ?_; focus (assumption)) | go_values | go_skip | go_guarded | go_step | go_upon))
            (try (first | (refine endAt REST ?_ ?_; focus (assumption)) | go_values | go_skip | go_guarded | go_step | go_upon))
            (try (first | (refine endAt REST ?_ ?_; focus (assumption)) | go_values | go_skip | go_guarded | go_step | go_upon))
            (try (first | (refine endAt REST ?_ ?_; focus (assumption)) | go_values | go_skip | go_guarded | go_step | go_upon))
            (try (first | (refine endAt REST ?_ ?_; focus (assumption)) | go_values | go_skip | go_guarded | go_step | go_upon))
            (try (first | (refine endAt REST ?_ ?_; focus (assumption)) | go_values | go_skip | go_guarded | go_step | go_upon))
            (try (first | (refine endAt REST ?_ ?_; focus (assumption)) | go_values | go_skip | go_guarded | go_step | go_upon))
            (try (first | (refine endAt REST ?_ ?_; focus (assumption)) | go_values | go_skip | go_guarded | go_step | go_upon))
            (try (first | (refine endAt REST ?_ ?_; focus (assumption)) | go_values | go_skip | go_guarded | go_step | go_upon))
            exact exU ⟨mn2, ml2, S, z, A2, c2, B2, d2, X2, aO, cO, aP, cP, rfl, rfl, rfl, hz3, HOK, ZM, HO2, HB, HP, KB⟩ rfl
          · (try dsimp only at hz2)
            (try dsimp only at hkd hii)
            have hii2 := hii.symm
            clear hii
            subst hkd hii2
            have hz3 := mkHid hz2
            clear hz2
            (try dsimp only [ansE] at HO2 ZN ZA ZO HOK)
            have cO5 := ZO.out.five
            have cA5 := ZA.out.five
            go_upto_region 22 with fail
            
            have fM0 := ZM.out.frozen 0
            have fM1 := ZM.out.frozen 1
            have fM2 := ZM.out.frozen 2
            have fM3 := ZM.out.frozen 3
            have fM4 := ZM.out.frozen 4
            have fM5 := ZM.out.frozen 5
            have cM := ZM.out.six
            have cN := ZN.out.six
            have ZM0 := ZM
            replace ZM := mkHid (ZM.out.fill6 (b0 := .int .i64 h) (b1 := .int .i64 room) (b2 := .slice A2 ml2.length c2) (b3 := .int .i64 mn2) (b4 := .int .i64 draws) (b5 := .slice B2 S.length d2))
            replace HO2 := mkHid (HO2.out.past6 (g := G) (Nat.lt_succ_self _) (.int .i64 h) (.int .i64 room) (.slice A2 ml2.length c2) (.int .i64 mn2) (.int .i64 draws) (.slice B2 S.length d2))
            replace HB := mkHid (own_past6b HB.out ZM0.out (by decide) (.int .i64 h) (.int .i64 room) (.slice A2 ml2.length c2) (.int .i64 mn2) (.int .i64 draws) (.slice B2 S.length d2))
            replace HP := mkHid (own_past6b HP.out ZM0.out (by decide) (.int .i64 h) (.int .i64 room) (.slice A2 ml2.length c2) (.int .i64 mn2) (.int .i64 draws) (.slice B2 S.length d2))
            replace KB := mkHid (below_six KB.out SZ (.int .i64 h) (.int .i64 room) (.slice A2 ml2.length c2) (.int .i64 mn2) (.int .i64 draws) (.slice B2 S.length d2))
            clear ZM0
            (try (first | (refine endAt REST ?_ ?_; focus (assumption)) | go_values | go_skip | go_guarded | go_step | go_upon))
            (try (first | (refine endAt REST ?_ ?_; focus (assumption)) | go_values | go_skip | go_guarded | go_step | go_upon))
            (try (first | (refine endAt REST ?_ ?_; focus (assumption)) | go_values | go_skip | go_guarded | go_step | go_upon))
            (try (first | (refine endAt REST ?_ ?_; focus (assumption)) | go_values | go_skip | go_guarded | go_step | go_upon))
            (try (first | (refine endAt REST ?_ ?_; focus (assumption)) | go_values | go_skip | go_guarded | go_step | go_upon))
            (try (first | (refine endAt REST ?_ ?_; focus (assumption)) | go_values | go_skip | go_guarded | go_step | go_upon))
            (try (first | (refine endAt REST ?_ ?_; focus (assumption)) | go_values | go_skip | go_guarded | go_step | go_upon))
            (try (first | (refine endAt REST ?_ ?_; focus (assumption)) | go_values | go_skip | go_guarded | go_step | go_upon))
            (try (first | (refine endAt REST ?_ ?_; focus (assumption)) | go_values | go_skip | go_guarded | go_step | go_upon))
            exact exU ⟨mn2, ml2, S, false, A2, c2, B2, d2, X2, aO, cO, aP, cP, rfl, rfl, rfl, hz3, HOK, ZM, HO2, HB, HP, KB⟩ rfl
          · (try dsimp only at hz2)
            (try dsimp only at hkd hii)
            subst hkd
            have hin : ((ii : Int) == (i : Int)) = false := beq_eq_false_iff_ne.2 (by omega)
            have hin2 : (ii == i) = false := beq_eq_false_iff_ne.2 hii
            rw [hz.out] at hz2
            have hz3 := mkHid hz2
            clear hz2 hii
            (try dsimp only [ansE] at HO2 ZN ZA ZO HOK)
            have cO5 := ZO.out.five
            have cA5 := ZA.out.five
            go_upto_region 22 with fail
            
            have fM0 := ZM.out.frozen 0
            have fM1 := ZM.out.frozen 1
            have fM2 := ZM.out.frozen 2
            have fM3 := ZM.out.frozen 3
            have fM4 := ZM.out.frozen 4
            have fM5 := ZM.out.frozen 5
            have cM := ZM.out.six
            have cN := ZN.out.six
            have ZM0 := ZM
            replace ZM := mkHid (ZM.out.fill6 (b0 := .int .i64 h) (b1 := .int .i64 room) (b2 := .slice A2 ml2.length c2) (b3 := .int .i64 mn2) (b4 := .int .i64 draws) (b5 := .slice B2 S.length d2))
            replace HO2 := mkHid (HO2.out.past6 (g := G) (Nat.lt_succ_self _) (.int .i64 h) (.int .i64 room) (.slice A2 ml2.length c2) (.int .i64 mn2) (.int .i64 draws) (.slice B2 S.length d2))
            replace HB := mkHid (own_past6b HB.out ZM0.out (by decide) (.int .i64 h) (.int .i64 room) (.slice A2 ml2.length c2) (.int .i64 mn2) (.int .i64 draws) (.slice B2 S.length d2))
            replace HP := mkHid (own_past6b HP.out ZM0.out (by decide) (.int .i64 h) (.int .i64 room) (.slice A2 ml2.length c2) (.int .i64 mn2) (.int .i64 draws) (.slice B2 S.length d2))
            replace KB := mkHid (below_six KB.out SZ (.int .i64 h) (.int .i64 room) (.slice A2 ml2.length c2) (.int .i64 mn2) (.int .i64 draws) (.slice B2 S.length d2))
            clear ZM0
            (try (first | (refine endAt REST ?_ ?_; focus (assumption)) | go_values | go_skip | go_guarded | go_step | go_upon))
            (try (first | (refine endAt REST ?_ ?_; focus (assumption)) | go_values | go_skip | go_guarded | go_step | go_upon))
            (try (first | (refine endAt REST ?_ ?_; focus (assumption)) | go_values | go_skip | go_guarded | go_step | go_upon))
            (try (first | (refine endAt REST ?_ ?_; focus (assumption)) | go_values | go_skip | go_guarded | go_step | go_upon))
            (try (first | (refine endAt REST ?_ ?_; focus (assumption)) | go_values | go_skip | go_guarded | go_step | go_upon))
            (try (first | (refine endAt REST ?_ ?_; focus (assumption)) | go_values | go_skip | go_guarded | go_step | go_upon))
            (try (first | (refine endAt REST ?_ ?_; focus (assumption)) | go_values | go_skip | go_guarded | go_step | go_upon))
            (try (first | (refine endAt REST ?_ ?_; focus (assumption)) | go_values | go_skip | go_guarded | go_step | go_upon))
            (try (first | (refine endAt REST ?_ ?_; focus (assumption)) | go_values | go_skip | go_guarded | go_step | go_upon))
            exact exU ⟨mn2, ml2, S, z, A2, c2, B2, d2, X2, aO, cO, aP, cP, rfl, rfl, rfl, hz3, HOK, ZM, HO2, HB, HP, KB⟩ rfl
          · by_cases hii : ii = i
            · have hii2 := hii.symm
              clear hii
              subst hii2
              (try dsimp only at hkd)
              subst hkd
              obtain ⟨S2, hS2⟩ : ∃ S2, S ++ [⟨ml, (S.length : Int) + 1, (p1, p2)⟩] = S2 := ⟨_, rfl⟩
              have HS2 : Hid (S2.length = S.length + 1 ∧ boolCells (outB i S2) = boolCells (outB i S) ++ [.bool z] ∧ payCells (payP S2) = payCells (payP S) ++ [.int .u64 (p1.toNat : Int), .int .u64 (p2.toNat : Int)]) := mkHid (by rw [← hS2]; refine ⟨by simp, ?_, ?_⟩ <;> simp [outB, payP, boolCells, payCells, hz.out])
              (try dsimp only at HO2 ZN ZA ZO HOK)
              (try dsimp only at hsz)
              rw [hS2] at HO2 ZN HOK
              clear hS2
              have cO5 := ZO.out.five
              have cA5 := ZA.out.five
              go_upto_region 20 with fail
              have hsz5 := hsz.out.2.1
              (try dsimp only at hsz5)
              obtain ⟨ib, hib, hbz0, hbz1, hbz2⟩ := info_parts info_bool
              obtain ⟨ik, hik, hkz0, hkz1, hkz2⟩ := info_parts info_block
              have E6 : Below u5.heap.size u5 (u5.alloc (.cells #[.bool z] 4)) := (Below.refl _ _).alloc (Nat.le_refl _) _
              have EB := mkHid (own_keep HB.out E6)
              have n5 : ∀ (q : Nat) (u : Value), [Value.bool z][q]? = some u → (u5.alloc (.cells #[.bool z] 4)).cell? ((⟨u5.heap.size, 0, none⟩ : Addr).add q) = some u := fun q u hqq => by
                match q, hqq with
                | 0, hqq => simp at hqq; subst hqq; simp [Addr.add]
              have N5 := mkHid n5
              clear n5
              go_wp2_with (at_builtin; refine wpList_append_own _ rfl _ _ 48 rfl (G + 1) 4 ib (.bool false) 1 1 Try.underlying48 hib hbz0 hbz1 hbz2 rfl (by decide) (.slice aO S.length cO) S.length (boolCells (outB i S)) rfl EB.out ⟨u5.heap.size, 0, none⟩ 1 1 [.bool z] rfl rfl N5.out (by simp [Value.oneCell']) (by unfold maxLen; omega) (by omega) (by simp; omega) ?_)
              intro vO2 w6 ho6 hg6 _
              have HB2 : Hid (w6.ownsRow (G + 1) 4 1 vO2 S2.length (boolCells (outB i S2))) := mkHid (by rw [HS2.out.1, HS2.out.2.1]; exact ho6)
              replace ZM := mkHid (blk_grown (ZM.out.keep E6) EB.out (by decide) hg6)
              replace ZO := mkHid (blk_grown (ZO.out.keep E6) EB.out (by decide) hg6)
              replace ZN := mkHid (blk_grown (ZN.out.keep E6) EB.out (by decide) hg6)
              replace HO2 := mkHid ((HO2.out.below E6).grown2 EB.out (by decide) (by decide) hg6)
              replace HP := mkHid (own_grown2 (own_keep HP.out E6) EB.out (by decide) hg6)
              replace KB := mkHid (below_grown2 (KB.out.step E6) EB.out (by omega) hg6)
              obtain ⟨aO2, cO2, rfl, _⟩ := RowAt.of_own HB2.out
              clear E6 EB N5 ho6 hg6 cO5 cA5 ZA HB lAA
              have lM6 := ZM.out.lt
              have cO5 := ZO.out.five
              go_upto_region 21 with fail
              have E7 : Below w6.heap.size w6 (w6.alloc (.cells #[.int .u64 (p1.toNat : Int), .int .u64 (p2.toNat : Int)] 51)) := (Below.refl _ _).alloc (Nat.le_refl _) _
              have EP := mkHid (own_keep HP.out E7)
              have n6 : ∀ (q : Nat) (u : Value), [Value.int .u64 (p1.toNat : Int), .int .u64 (p2.toNat : Int)][q]? = some u → (w6.alloc (.cells #[.int .u64 (p1.toNat : Int), .int .u64 (p2.toNat : Int)] 51)).cell? ((⟨w6.heap.size, 0, none⟩ : Addr).add q) = some u := fun q u hqq => by
                match q, hqq with
                | 0, hqq => simp at hqq; subst hqq; simp [Addr.add]
                | 1, hqq => simp at hqq; subst hqq; simp [Addr.add]
              have N6 := mkHid n6
              clear n6
              go_wp2_with (at_builtin; refine wpList_append_own _ rfl _ _ 49 rfl (G + 1) 51 ik (.agg #[.int .u64 0, .int .u64 0]) 2 16 Try.underlying49 hik hkz0 hkz1 hkz2 rfl (by decide) (.slice aP S.length cP) S.length (payCells (payP S)) rfl EP.out ⟨w6.heap.size, 0, none⟩ 1 1 [.int .u64 (p1.toNat : Int), .int .u64 (p2.toNat : Int)] rfl rfl N6.out (by simp [Value.oneCell']) (by unfold maxLen; omega) (by omega) (by simp; omega) ?_)
              intro vP2 w7 ho7 hg7 _
              have HP2 : Hid (w7.ownsRow (G + 1) 51 2 vP2 S2.length (payCells (payP S2))) := mkHid (by rw [HS2.out.1, HS2.out.2.2]; exact ho7)
              replace ZM := mkHid (blk_grown (ZM.out.keep E7) EP.out (by decide) hg7)
              replace ZN := mkHid (blk_grown (ZN.out.keep E7) EP.out (by decide) hg7)
              replace HO2 := mkHid ((HO2.out.below E7).grown2 EP.out (by decide) (by decide) hg7)
              replace HB2 := mkHid (own_grown2 (own_keep HB2.out E7) EP.out (by decide) hg7)
              replace KB := mkHid (below_grown2 (KB.out.step E7) EP.out (by omega) hg7)
              obtain ⟨aP2, cP2, rfl, _⟩ := RowAt.of_own HP2.out
              clear E7 EP N6 ho7 hg7 cO5 ZO HP
              have HB := HB2
              have HP := HP2
              clear HB2 HP2
              have lM7 := ZM.out.lt
              go_upto_region 22 with fail
              have hl2 := HS2.out.1
              rw [← hl2]
              clear hl2
              have fM0 := ZM.out.frozen 0
              have fM1 := ZM.out.frozen 1
              have fM2 := ZM.out.frozen 2
              have fM3 := ZM.out.frozen 3
              have fM4 := ZM.out.frozen 4
              have fM5 := ZM.out.frozen 5
              have cM := ZM.out.six
              have cN := ZN.out.six
              have ZM0 := ZM
              replace ZM := mkHid (ZM.out.fill6 (b0 := .int .i64 h) (b1 := .int .i64 room) (b2 := .slice A2 ml.length c2) (b3 := .int .i64 nn) (b4 := .int .i64 draws) (b5 := .slice B2 S2.length d2))
              replace HO2 := mkHid (HO2.out.past6 (g := G) (Nat.lt_succ_self _) (.int .i64 h) (.int .i64 room) (.slice A2 ml.length c2) (.int .i64 nn) (.int .i64 draws) (.slice B2 S2.length d2))
              replace HB := mkHid (own_past6b HB.out ZM0.out (by decide) (.int .i64 h) (.int .i64 room) (.slice A2 ml.length c2) (.int .i64 nn) (.int .i64 draws) (.slice B2 S2.length d2))
              replace HP := mkHid (own_past6b HP.out ZM0.out (by decide) (.int .i64 h) (.int .i64 room) (.slice A2 ml.length c2) (.int .i64 nn) (.int .i64 draws) (.slice B2 S2.length d2))
              replace KB := mkHid (below_six KB.out SZ (.int .i64 h) (.int .i64 room) (.slice A2 ml.length c2) (.int .i64 nn) (.int .i64 draws) (.slice B2 S2.length d2))
              clear ZM0
              (try (first | (refine endAt REST ?_ ?_; focus (assumption)) | go_values | go_skip | go_guarded | go_step | go_upon))
              (try (first | (refine endAt REST ?_ ?_; focus (assumption)) | go_values | go_skip | go_guarded | go_step | go_upon))
              (try (first | (refine endAt REST ?_ ?_; focus (assumption)) | go_values | go_skip | go_guarded | go_step | go_upon))
              (try (first | (refine endAt REST ?_ ?_; focus (assumption)) | go_values | go_skip | go_guarded | go_step | go_upon))
              (try (first | (refine endAt REST ?_ ?_; focus (assumption)) | go_values | go_skip | go_guarded | go_step | go_upon))
              (try (first | (refine endAt REST ?_ ?_; focus (assumption)) | go_values | go_skip | go_guarded | go_step | go_upon))
              (try (first | (refine endAt REST ?_ ?_; focus (assumption)) | go_values | go_skip | go_guarded | go_step | go_upon))
              (try (first | (refine endAt REST ?_ ?_; focus (assumption)) | go_values | go_skip | go_guarded | go_step | go_upon))
              (try (first | (refine endAt REST ?_ ?_; focus (assumption)) | go_values | go_skip | go_guarded | go_step | go_upon))
              exact exU ⟨nn, ml, S2, z, A2, c2, B2, d2, X2, aO2, cO2, aP2, cP2, rfl, rfl, rfl, hz, HOK, ZM, HO2, HB, HP, KB⟩ rfl
            · have hin : ((ii : Int) == (i : Int)) = false := beq_eq_false_iff_ne.2 (by omega)
              have hin2 : (ii == i) = false := beq_eq_false_iff_ne.2 hii
              clear hii
              (try dsimp only at hkd)
              subst hkd
              obtain ⟨S2, hS2⟩ : ∃ S2, S ++ [⟨ml, (S.length : Int) + 1, (p1, p2)⟩] = S2 := ⟨_, rfl⟩
              have HS2 : Hid (S2.length = S.length + 1 ∧ boolCells (outB i S2) = boolCells (outB i S) ++ [.bool z] ∧ payCells (payP S2) = payCells (payP S) ++ [.int .u64 (p1.toNat : Int), .int .u64 (p2.toNat : Int)]) := mkHid (by rw [← hS2]; refine ⟨by simp, ?_, ?_⟩ <;> simp [outB, payP, boolCells, payCells, hz.out])
              (try dsimp only at HO2 ZN ZA ZO HOK)
              (try dsimp only at hsz)
              rw [hS2] at HO2 ZN HOK
              clear hS2
              have cO5 := ZO.out.five
              have cA5 := ZA.out.five
              go_upto_region 20 with fail
              have hsz5 := hsz.out.2.1
              (try dsimp only at hsz5)
              obtain ⟨ib, hib, hbz0, hbz1, hbz2⟩ := info_parts info_bool
              obtain ⟨ik, hik, hkz0, hkz1, hkz2⟩ := info_parts info_block
              have E6 : Below u5.heap.size u5 (u5.alloc (.cells #[.bool z] 4)) := (Below.refl _ _).alloc (Nat.le_refl _) _
              have EB := mkHid (own_keep HB.out E6)
              have n5 : ∀ (q : Nat) (u : Value), [Value.bool z][q]? = some u → (u5.alloc (.cells #[.bool z] 4)).cell? ((⟨u5.heap.size, 0, none⟩ : Addr).add q) = some u := fun q u hqq => by
                match q, hqq with
                | 0, hqq => simp at hqq; subst hqq; simp [Addr.add]
              have N5 := mkHid n5
              clear n5
              go_wp2_with (at_builtin; refine wpList_append_own _ rfl _ _ 48 rfl (G + 1) 4 ib (.bool false) 1 1 Try.underlying48 hib hbz0 hbz1 hbz2 rfl (by decide) (.slice aO S.length cO) S.length (boolCells (outB i S)) rfl EB.out ⟨u5.heap.size, 0, none⟩ 1 1 [.bool z] rfl rfl N5.out (by simp [Value.oneCell']) (by unfold maxLen; omega) (by omega) (by simp; omega) ?_)
              intro vO2 w6 ho6 hg6 _
              have HB2 : Hid (w6.ownsRow (G + 1) 4 1 vO2 S2.length (boolCells (outB i S2))) := mkHid (by rw [HS2.out.1, HS2.out.2.1]; exact ho6)
              replace ZM := mkHid (blk_grown (ZM.out.keep E6) EB.out (by decide) hg6)
              replace ZO := mkHid (blk_grown (ZO.out.keep E6) EB.out (by decide) hg6)
              replace ZN := mkHid (blk_grown (ZN.out.keep E6) EB.out (by decide) hg6)
              replace HO2 := mkHid ((HO2.out.below E6).grown2 EB.out (by decide) (by decide) hg6)
              replace HP := mkHid (own_grown2 (own_keep HP.out E6) EB.out (by decide) hg6)
              replace KB := mkHid (below_grown2 (KB.out.step E6) EB.out (by omega) hg6)
              obtain ⟨aO2, cO2, rfl, _⟩ := RowAt.of_own HB2.out
              clear E6 EB N5 ho6 hg6 cO5 cA5 ZA HB lAA
              have lM6 := ZM.out.lt
              have cO5 := ZO.out.five
              go_upto_region 21 with fail
              have E7 : Below w6.heap.size w6 (w6.alloc (.cells #[.int .u64 (p1.toNat : Int), .int .u64 (p2.toNat : Int)] 51)) := (Below.refl _ _).alloc (Nat.le_refl _) _
              have EP := mkHid (own_keep HP.out E7)
              have n6 : ∀ (q : Nat) (u : Value), [Value.int .u64 (p1.toNat : Int), .int .u64 (p2.toNat : Int)][q]? = some u → (w6.alloc (.cells #[.int .u64 (p1.toNat : Int), .int .u64 (p2.toNat : Int)] 51)).cell? ((⟨w6.heap.size, 0, none⟩ : Addr).add q) = some u := fun q u hqq => by
                match q, hqq with
                | 0, hqq => simp at hqq; subst hqq; simp [Addr.add]
                | 1, hqq => simp at hqq; subst hqq; simp [Addr.add]
              have N6 := mkHid n6
              clear n6
              go_wp2_with (at_builtin; refine wpList_append_own _ rfl _ _ 49 rfl (G + 1) 51 ik (.agg #[.int .u64 0, .int .u64 0]) 2 16 Try.underlying49 hik hkz0 hkz1 hkz2 rfl (by decide) (.slice aP S.length cP) S.length (payCells (payP S)) rfl EP.out ⟨w6.heap.size, 0, none⟩ 1 1 [.int .u64 (p1.toNat : Int), .int .u64 (p2.toNat : Int)] rfl rfl N6.out (by simp [Value.oneCell']) (by unfold maxLen; omega) (by omega) (by simp; omega) ?_)
              intro vP2 w7 ho7 hg7 _
              have HP2 : Hid (w7.ownsRow (G + 1) 51 2 vP2 S2.length (payCells (payP S2))) := mkHid (by rw [HS2.out.1, HS2.out.2.2]; exact ho7)
              replace ZM := mkHid (blk_grown (ZM.out.keep E7) EP.out (by decide) hg7)
              replace ZN := mkHid (blk_grown (ZN.out.keep E7) EP.out (by decide) hg7)
              replace HO2 := mkHid ((HO2.out.below E7).grown2 EP.out (by decide) (by decide) hg7)
              replace HB2 := mkHid (own_grown2 (own_keep HB2.out E7) EP.out (by decide) hg7)
              replace KB := mkHid (below_grown2 (KB.out.step E7) EP.out (by omega) hg7)
              obtain ⟨aP2, cP2, rfl, _⟩ := RowAt.of_own HP2.out
              clear E7 EP N6 ho7 hg7 cO5 ZO HP
              have HB := HB2
              have HP := HP2
              clear HB2 HP2
              have lM7 := ZM.out.lt
              go_upto_region 22 with fail
              have hl2 := HS2.out.1
              rw [← hl2]
              clear hl2
              have fM0 := ZM.out.frozen 0
              have fM1 := ZM.out.frozen 1
              have fM2 := ZM.out.frozen 2
              have fM3 := ZM.out.frozen 3
              have fM4 := ZM.out.frozen 4
              have fM5 := ZM.out.frozen 5
              have cM := ZM.out.six
              have cN := ZN.out.six
              have ZM0 := ZM
              replace ZM := mkHid (ZM.out.fill6 (b0 := .int .i64 h) (b1 := .int .i64 room) (b2 := .slice A2 ml.length c2) (b3 := .int .i64 nn) (b4 := .int .i64 draws) (b5 := .slice B2 S2.length d2))
              replace HO2 := mkHid (HO2.out.past6 (g := G) (Nat.lt_succ_self _) (.int .i64 h) (.int .i64 room) (.slice A2 ml.length c2) (.int .i64 nn) (.int .i64 draws) (.slice B2 S2.length d2))
              replace HB := mkHid (own_past6b HB.out ZM0.out (by decide) (.int .i64 h) (.int .i64 room) (.slice A2 ml.length c2) (.int .i64 nn) (.int .i64 draws) (.slice B2 S2.length d2))
              replace HP := mkHid (own_past6b HP.out ZM0.out (by decide) (.int .i64 h) (.int .i64 room) (.slice A2 ml.length c2) (.int .i64 nn) (.int .i64 draws) (.slice B2 S2.length d2))
              replace KB := mkHid (below_six KB.out SZ (.int .i64 h) (.int .i64 room) (.slice A2 ml.length c2) (.int .i64 nn) (.int .i64 draws) (.slice B2 S2.length d2))
              clear ZM0
              (try (first | (refine endAt REST ?_ ?_; focus (assumption)) | go_values | go_skip | go_guarded | go_step | go_upon))
              (try (first | (refine endAt REST ?_ ?_; focus (assumption)) | go_values | go_skip | go_guarded | go_step | go_upon))
              (try (first | (refine endAt REST ?_ ?_; focus (assumption)) | go_values | go_skip | go_guarded | go_step | go_upon))
              (try (first | (refine endAt REST ?_ ?_; focus (assumption)) | go_values | go_skip | go_guarded | go_step | go_upon))
              (try (first | (refine endAt REST ?_ ?_; focus (assumption)) | go_values | go_skip | go_guarded | go_step | go_upon))
              (try (first | (refine endAt REST ?_ ?_; focus (assumption)) | go_values | go_skip | go_guarded | go_step | go_upon))
              (try (first | (refine endAt REST ?_ ?_; focus (assumption)) | go_values | go_skip | go_guarded | go_step | go_upon))
              (try (first | (refine endAt REST ?_ ?_; focus (assumption)) | go_values | go_skip | go_guarded | go_step | go_upon))
              (try (first | (refine endAt REST ?_ ?_; focus (assumption)) | go_values | go_skip | go_guarded | go_step | go_upon))
              exact exU ⟨nn, ml, S2, z, A2, c2, B2, d2, X2, aO2, cO2, aP2, cP2, rfl, rfl, rfl, hz, HOK, ZM, HO2, HB, HP, KB⟩ rfl
          · have hae0 : (a.e == (0 : Int)) = false := beq_eq_false_iff_ne.2 hae
            clear hae
            (try dsimp only at HO2 ZN ZA ZO HOK)
            have cO5 := ZO.out.five
            have cA5 := ZA.out.five
            go_upto_region 22 with fail
            
            have fM0 := ZM.out.frozen 0
            have fM1 := ZM.out.frozen 1
            have fM2 := ZM.out.frozen 2
            have fM3 := ZM.out.frozen 3
            have fM4 := ZM.out.frozen 4
            have fM5 := ZM.out.frozen 5
            have cM := ZM.out.six
            have cN := ZN.out.six
            have ZM0 := ZM
            replace ZM := mkHid (ZM.out.fill6 (b0 := .int .i64 h) (b1 := .int .i64 room) (b2 := .slice A2 ml.length c2) (b3 := .int .i64 nn) (b4 := .int .i64 draws) (b5 := .slice B2 S.length d2))
            replace HO2 := mkHid (HO2.out.past6 (g := G) (Nat.lt_succ_self _) (.int .i64 h) (.int .i64 room) (.slice A2 ml.length c2) (.int .i64 nn) (.int .i64 draws) (.slice B2 S.length d2))
            replace HB := mkHid (own_past6b HB.out ZM0.out (by decide) (.int .i64 h) (.int .i64 room) (.slice A2 ml.length c2) (.int .i64 nn) (.int .i64 draws) (.slice B2 S.length d2))
            replace HP := mkHid (own_past6b HP.out ZM0.out (by decide) (.int .i64 h) (.int .i64 room) (.slice A2 ml.length c2) (.int .i64 nn) (.int .i64 draws) (.slice B2 S.length d2))
            replace KB := mkHid (below_six KB.out SZ (.int .i64 h) (.int .i64 room) (.slice A2 ml.length c2) (.int .i64 nn) (.int .i64 draws) (.slice B2 S.length d2))
            clear ZM0
            (try (first | (refine endAt REST ?_ ?_; focus (assumption)) | go_values | go_skip | go_guarded | go_step | go_upon))
            (try (first | (refine endAt REST ?_ ?_; focus (assumption)) | go_values | go_skip | go_guarded | go_step | go_upon))
            (try (first | (refine endAt REST ?_ ?_; focus (assumption)) | go_values | go_skip | go_guarded | go_step | go_upon))
            (try (first | (refine endAt REST ?_ ?_; focus (assumption)) | go_values | go_skip | go_guarded | go_step | go_upon))
            (try (first | (refine endAt REST ?_ ?_; focus (assumption)) | go_values | go_skip | go_guarded | go_step | go_upon))
            (try (first | (refine endAt REST ?_ ?_; focus (assumption)) | go_values | go_skip | go_guarded | go_step | go_upon))
            (try (first | (refine endAt REST ?_ ?_; focus (assumption)) | go_values | go_skip | go_guarded | go_step | go_upon))
            (try (first | (refine endAt REST ?_ ?_; focus (assumption)) | go_values | go_skip | go_guarded | go_step | go_upon))
            (try (first | (refine endAt REST ?_ ?_; focus (assumption)) | go_values | go_skip | go_guarded | go_step | go_upon))
            exact exU ⟨nn, ml, S, z, A2, c2, B2, d2, X2, aO, cO, aP, cP, rfl, rfl, rfl, hz, HOK, ZM, HO2, HB, HP, KB⟩ rfl
          · by_cases hii : ii = i
            · have hii2 := hii.symm
              clear hii
              subst hii2
              obtain ⟨ae, aep, adr, ap, aq⟩ := a
              (try dsimp only at hae hkd)
              subst hae hkd
              (try dsimp only at HO2 ZN ZA ZO HOK)
              have cO5 := ZO.out.five
              have cA5 := ZA.out.five
              go_upto_region 22 with fail
              
              have fM0 := ZM.out.frozen 0
              have fM1 := ZM.out.frozen 1
              have fM2 := ZM.out.frozen 2
              have fM3 := ZM.out.frozen 3
              have fM4 := ZM.out.frozen 4
              have fM5 := ZM.out.frozen 5
              have cM := ZM.out.six
              have cN := ZN.out.six
              have ZM0 := ZM
              replace ZM := mkHid (ZM.out.fill6 (b0 := .int .i64 h) (b1 := .int .i64 room) (b2 := .slice A2 ml.length c2) (b3 := .int .i64 nn) (b4 := .int .i64 draws) (b5 := .slice B2 S.length d2))
              replace HO2 := mkHid (HO2.out.past6 (g := G) (Nat.lt_succ_self _) (.int .i64 h) (.int .i64 room) (.slice A2 ml.length c2) (.int .i64 nn) (.int .i64 draws) (.slice B2 S.length d2))
              replace HB := mkHid (own_past6b HB.out ZM0.out (by decide) (.int .i64 h) (.int .i64 room) (.slice A2 ml.length c2) (.int .i64 nn) (.int .i64 draws) (.slice B2 S.length d2))
              replace HP := mkHid (own_past6b HP.out ZM0.out (by decide) (.int .i64 h) (.int .i64 room) (.slice A2 ml.length c2) (.int .i64 nn) (.int .i64 draws) (.slice B2 S.length d2))
              replace KB := mkHid (below_six KB.out SZ (.int .i64 h) (.int .i64 room) (.slice A2 ml.length c2) (.int .i64 nn) (.int .i64 draws) (.slice B2 S.length d2))
              clear ZM0
              (try (first | (refine endAt REST ?_ ?_; focus (assumption)) | go_values | go_skip | go_guarded | go_step | go_upon))
              (try (first | (refine endAt REST ?_ ?_; focus (assumption)) | go_values | go_skip | go_guarded | go_step | go_upon))
              (try (first | (refine endAt REST ?_ ?_; focus (assumption)) | go_values | go_skip | go_guarded | go_step | go_upon))
              (try (first | (refine endAt REST ?_ ?_; focus (assumption)) | go_values | go_skip | go_guarded | go_step | go_upon))
              (try (first | (refine endAt REST ?_ ?_; focus (assumption)) | go_values | go_skip | go_guarded | go_step | go_upon))
              (try (first | (refine endAt REST ?_ ?_; focus (assumption)) | go_values | go_skip | go_guarded | go_step | go_upon))
              (try (first | (refine endAt REST ?_ ?_; focus (assumption)) | go_values | go_skip | go_guarded | go_step | go_upon))
              (try (first | (refine endAt REST ?_ ?_; focus (assumption)) | go_values | go_skip | go_guarded | go_step | go_upon))
              (try (first | (refine endAt REST ?_ ?_; focus (assumption)) | go_values | go_skip | go_guarded | go_step | go_upon))
              exact exU ⟨nn, ml, S, z, A2, c2, B2, d2, X2, aO, cO, aP, cP, rfl, rfl, rfl, hz, HOK, ZM, HO2, HB, HP, KB⟩ rfl
            · have hin : ((ii : Int) == (i : Int)) = false := beq_eq_false_iff_ne.2 (by omega)
              have hin2 : (ii == i) = false := beq_eq_false_iff_ne.2 hii
              clear hii
              obtain ⟨ae, aep, adr, ap, aq⟩ := a
              (try dsimp only at hae hkd)
              subst hae hkd
              (try dsimp only at HO2 ZN ZA ZO HOK)
              have cO5 := ZO.out.five
              have cA5 := ZA.out.five
              go_upto_region 22 with fail
              
              have fM0 := ZM.out.frozen 0
              have fM1 := ZM.out.frozen 1
              have fM2 := ZM.out.frozen 2
              have fM3 := ZM.out.frozen 3
              have fM4 := ZM.out.frozen 4
              have fM5 := ZM.out.frozen 5
              have cM := ZM.out.six
              have cN := ZN.out.six
              have ZM0 := ZM
              replace ZM := mkHid (ZM.out.fill6 (b0 := .int .i64 h) (b1 := .int .i64 room) (b2 := .slice A2 ml.length c2) (b3 := .int .i64 nn) (b4 := .int .i64 draws) (b5 := .slice B2 S.length d2))
              replace HO2 := mkHid (HO2.out.past6 (g := G) (Nat.lt_succ_self _) (.int .i64 h) (.int .i64 room) (.slice A2 ml.length c2) (.int .i64 nn) (.int .i64 draws) (.slice B2 S.length d2))
              replace HB := mkHid (own_past6b HB.out ZM0.out (by decide) (.int .i64 h) (.int .i64 room) (.slice A2 ml.length c2) (.int .i64 nn) (.int .i64 draws) (.slice B2 S.length d2))
              replace HP := mkHid (own_past6b HP.out ZM0.out (by decide) (.int .i64 h) (.int .i64 room) (.slice A2 ml.length c2) (.int .i64 nn) (.int .i64 draws) (.slice B2 S.length d2))
              replace KB := mkHid (below_six KB.out SZ (.int .i64 h) (.int .i64 room) (.slice A2 ml.length c2) (.int .i64 nn) (.int .i64 draws) (.slice B2 S.length d2))
              clear ZM0
              (try (first | (refine endAt REST ?_ ?_; focus (assumption)) | go_values | go_skip | go_guarded | go_step | go_upon))
              (try (first | (refine endAt REST ?_ ?_; focus (assumption)) | go_values | go_skip | go_guarded | go_step | go_upon))
              (try (first | (refine endAt REST ?_ ?_; focus (assumption)) | go_values | go_skip | go_guarded | go_step | go_upon))
              (try (first | (refine endAt REST ?_ ?_; focus (assumption)) | go_values | go_skip | go_guarded | go_step | go_upon))
              (try (first | (refine endAt REST ?_ ?_; focus (assumption)) | go_values | go_skip | go_guarded | go_step | go_upon))
              (try (first | (refine endAt REST ?_ ?_; focus (assumption)) | go_values | go_skip | go_guarded | go_step | go_upon))
              (try (first | (refine endAt REST ?_ ?_; focus (assumption)) | go_values | go_skip | go_guarded | go_step | go_upon))
              (try (first | (refine endAt REST ?_ ?_; focus (assumption)) | go_values | go_skip | go_guarded | go_step | go_upon))
              (try (first | (refine endAt REST ?_ ?_; focus (assumption)) | go_values | go_skip | go_guarded | go_step | go_upon))
              exact exU ⟨nn, ml, S, z, A2, c2, B2, d2, X2, aO, cO, aP, cP, rfl, rfl, rfl, hz, HOK, ZM, HO2, HB, HP, KB⟩ rfl
      case rest =>
        clear ZM HB HP HO KB o0 o1 o2 o3 o4 hz hok
        rintro _ wc ⟨u, hcut, rfl⟩
        obtain ⟨nn2, ml2, S2, z2, A2, c2, B2, d2, X2, aO2, cO2, aP2, cP2, h14, h15, h16, hz2, HOK, ZM, HO2, HB, HP, KB⟩ := hcut
        rw [h14, h15, h16]
        clear h14 h15 h16
        skip
        go_wp2_with fail
        go_loopw [106] (fun j wi => ∃ q : Nat, q ≤ S2.length ∧ j = .int .i64 (q : Int) ∧ Hid (Blk wi G 45 #[.int .i64 h, .int .i64 room, .slice A2 ml2.length c2, .int .i64 nn2, .int .i64 draws, .slice B2 S2.length d2]) ∧ Hid (OwnM wi (G + 1) A2 c2 B2 d2 X2 ⟨h, room, ml2, nn2, draws, S2⟩) ∧ Hid ((wi).ownsRow (G + 1) 4 1 (.slice aO2 S2.length cO2) S2.length (boolCells (outB i S2))) ∧ Hid ((wi).ownsRow (G + 1) 51 2 (.slice aP2 S2.length cP2) S2.length (payCells (payP S2))) ∧ Hid (Below w.heap.size w wi)) (fun j _ => S2.length - (intOf j).toNat)
        case atStart => exact ⟨0, by omega, rfl, ZM, HO2, HB, HP, KB⟩
        case round =>
          clear ZM HO2 HB HP KB
          obtain ⟨q, hq, rfl, ZM, HO2, HB, HP, KB⟩ := hrel
          by_cases hqt : q < S2.length
          · have hcases := mkHid (may_cases HOK.out hqt i)
            have hsz6 := okM_sizes HOK.out
            dsimp only at hsz6
            have hs1 := hsz6.1
            have hs2 := hsz6.2.1
            clear hsz6
            have hwq : IntKind.i64.wrap ((q : Int) + 1) = (q : Int) + 1 := by rw [IntKind.wrap_i64]; omega
            have HM6 := mkHid (HO2.out.mem ⟨by dsimp only; omega, by dsimp only; omega⟩)
            have cM6 := ZM.out.six
            have lM6 := ZM.out.lt
            obtain ⟨gO, rfl, hgO⟩ := own_some HB.out (by omega)
            obtain ⟨gP, rfl, hgP⟩ := own_some HP.out (by omega)
            have HQ : Hid ((outB i S2)[q]'(by simp [outB]; exact hqt) = decide (i ∈ S2[q].out) ∧ (payP S2)[q]'(by simp [payP]; exact hqt) = S2[q].p) := mkHid (by simp [outB, payP])
            obtain ⟨⟨so, sd, s1, s2⟩, hsq⟩ : ∃ s, S2[q] = s := ⟨_, rfl⟩
            have HSQ := mkHid hsq
            have hcs := hcases.out
            dsimp only at hcs
            rw [hsq] at hcs
            dsimp only at hcs
            clear hcases hsq
            rcases hcs with ⟨hm1, hr1⟩ | ⟨hx, hm1, hr1⟩ | ⟨hx, hm1, hr1⟩
            · have HD : Hid (doM ⟨h, room, ml2, nn2, draws, S2⟩ ⟨4, i, (q : Int) + 1, (0, 0)⟩ = (⟨h, room, ml2, nn2, draws, S2⟩, readM ⟨h, room, ml2, nn2, draws, S2⟩ i ((q : Int) + 1), 0)) := mkHid (doM_read HOK.out i _)
              rw [hr1] at HD
              have HMAY := mkHid hm1
              clear hm1 hr1
              go_wp2_with fail
              refine (mmay HMAY _ _ _ _ _ HM6.out).mono ?_
              rintro e w7 ⟨rfl, hb7⟩
              replace ZM := mkHid (ZM.out.keep hb7)
              replace HO2 := mkHid (HO2.out.below hb7)
              replace HM6 := mkHid (HM6.out.below hb7)
              replace HB := mkHid (own_keep HB.out hb7)
              replace HP := mkHid (own_keep HP.out hb7)
              replace KB := mkHid (KB.out.step hb7)
              clear hb7 cM6 lM6
              have cM6 := ZM.out.six
              have lM6 := ZM.out.lt
              go_wp2_with fail
              have HC := mkHid (show Calls Try.prog 29 #[.agg #[.int .i64 h, .int .i64 room, .slice A2 ml2.length c2, .int .i64 nn2, .int .i64 draws, .slice B2 S2.length d2], .agg #[.int .i64 4, .int .u64 (i : Int), .int .i64 ((q : Int) + 1), .int .u64 0, .int .u64 0]] w7 (fun e w' => ∃ A7 c7 B7 d7 X7, e = .returned (.tuple #[.agg #[.int .i64 h, .int .i64 room, .slice A7 ml2.length c7, .int .i64 nn2, .int .i64 draws, .slice B7 S2.length d7], .agg #[.int .i64 1, .int .i64 0, .int .i64 0, .int .u64 0, .int .u64 0], .int .i64 0]) ∧ OwnM w' w7.heap.size A7 c7 B7 d7 X7 ⟨h, room, ml2, nn2, draws, S2⟩ ∧ Below w7.heap.size w7 w') from mdo HD A2 c2 B2 d2 w7 HM6.out)
              refine HC.out.mono ?_
              rintro e w8 ⟨A7, c7, B7, d7, X7, rfl, _, hb8⟩
              clear HC
              replace ZM := mkHid (ZM.out.keep hb8)
              replace HO2 := mkHid (HO2.out.below hb8)
              replace HB := mkHid (own_keep HB.out hb8)
              replace HP := mkHid (own_keep HP.out hb8)
              replace KB := mkHid (KB.out.step hb8)
              clear hb8 cM6 lM6 HM6 HD HMAY
              go_upto_region 28 with fail
              have E8 : Below w8.heap.size w8 ((w8.alloc (.cells #[.int .i64 h, .int .i64 room, .slice A7 ml2.length c7, .int .i64 nn2, .int .i64 draws, .slice B7 S2.length d7] 45)).alloc (.cells #[.int .i64 1, .int .i64 0, .int .i64 0, .int .u64 0, .int .u64 0] 55)) := ((Below.refl _ _).alloc (Nat.le_refl _) _).alloc (by simp) _
              have ZA5 : Hid (Blk ((w8.alloc (.cells #[.int .i64 h, .int .i64 room, .slice A7 ml2.length c7, .int .i64 nn2, .int .i64 draws, .slice B7 S2.length d7] 45)).alloc (.cells #[.int .i64 1, .int .i64 0, .int .i64 0, .int .u64 0, .int .u64 0] 55)) (w8.heap.size + 1) 55 #[.int .i64 1, .int .i64 0, .int .i64 0, .int .u64 0, .int .u64 0]) := mkHid (Blk.at _ _ _ (by simp))
              replace ZM := mkHid (ZM.out.keep E8)
              replace HO2 := mkHid (HO2.out.below E8)
              replace HB := mkHid (own_keep HB.out E8)
              replace HP := mkHid (own_keep HP.out E8)
              replace KB := mkHid (KB.out.step E8)
              generalize ((w8.alloc (.cells #[.int .i64 h, .int .i64 room, .slice A7 ml2.length c7, .int .i64 nn2, .int .i64 draws, .slice B7 S2.length d7] 45)).alloc (.cells #[.int .i64 1, .int .i64 0, .int .i64 0, .int .u64 0, .int .u64 0] 55)) = w9 at *
              clear E8
              have cA5 := ZA5.out.five
              go_wp2_with fail
              go_roundw
              case rel => exact ⟨q + 1, by omega, by go_num, ZM, HO2, HB, HP, KB⟩
              case measure => simp [intOf]; omega
            · have HD : Hid (doM ⟨h, room, ml2, nn2, draws, S2⟩ ⟨4, i, (q : Int) + 1, (0, 0)⟩ = (⟨h, room, ml2, nn2, draws, S2⟩, readM ⟨h, room, ml2, nn2, draws, S2⟩ i ((q : Int) + 1), 0)) := mkHid (doM_read HOK.out i _)
              rw [hr1] at HD
              have HMAY := mkHid hm1
              clear hm1 hr1
              go_wp2_with fail
              refine (mmay HMAY _ _ _ _ _ HM6.out).mono ?_
              rintro e w7 ⟨rfl, hb7⟩
              replace ZM := mkHid (ZM.out.keep hb7)
              replace HO2 := mkHid (HO2.out.below hb7)
              replace HM6 := mkHid (HM6.out.below hb7)
              replace HB := mkHid (own_keep HB.out hb7)
              replace HP := mkHid (own_keep HP.out hb7)
              replace KB := mkHid (KB.out.step hb7)
              clear hb7 cM6 lM6
              have cM6 := ZM.out.six
              have lM6 := ZM.out.lt
              go_wp2_with fail
              have HC := mkHid (show Calls Try.prog 29 #[.agg #[.int .i64 h, .int .i64 room, .slice A2 ml2.length c2, .int .i64 nn2, .int .i64 draws, .slice B2 S2.length d2], .agg #[.int .i64 4, .int .u64 (i : Int), .int .i64 ((q : Int) + 1), .int .u64 0, .int .u64 0]] w7 (fun e w' => ∃ A7 c7 B7 d7 X7, e = .returned (.tuple #[.agg #[.int .i64 h, .int .i64 room, .slice A7 ml2.length c7, .int .i64 nn2, .int .i64 draws, .slice B7 S2.length d7], .agg #[.int .i64 4, .int .i64 ((q : Int) + 1), .int .i64 0, .int .u64 0, .int .u64 0], .int .i64 0]) ∧ OwnM w' w7.heap.size A7 c7 B7 d7 X7 ⟨h, room, ml2, nn2, draws, S2⟩ ∧ Below w7.heap.size w7 w') from mdo HD A2 c2 B2 d2 w7 HM6.out)
              refine HC.out.mono ?_
              rintro e w8 ⟨A7, c7, B7, d7, X7, rfl, _, hb8⟩
              clear HC
              replace ZM := mkHid (ZM.out.keep hb8)
              replace HO2 := mkHid (HO2.out.below hb8)
              replace HB := mkHid (own_keep HB.out hb8)
              replace HP := mkHid (own_keep HP.out hb8)
              replace KB := mkHid (KB.out.step hb8)
              clear hb8 cM6 lM6 HM6 HD HMAY
              go_upto_region 28 with fail
              have E8 : Below w8.heap.size w8 ((w8.alloc (.cells #[.int .i64 h, .int .i64 room, .slice A7 ml2.length c7, .int .i64 nn2, .int .i64 draws, .slice B7 S2.length d7] 45)).alloc (.cells #[.int .i64 4, .int .i64 ((q : Int) + 1), .int .i64 0, .int .u64 0, .int .u64 0] 55)) := ((Below.refl _ _).alloc (Nat.le_refl _) _).alloc (by simp) _
              have ZA5 : Hid (Blk ((w8.alloc (.cells #[.int .i64 h, .int .i64 room, .slice A7 ml2.length c7, .int .i64 nn2, .int .i64 draws, .slice B7 S2.length d7] 45)).alloc (.cells #[.int .i64 4, .int .i64 ((q : Int) + 1), .int .i64 0, .int .u64 0, .int .u64 0] 55)) (w8.heap.size + 1) 55 #[.int .i64 4, .int .i64 ((q : Int) + 1), .int .i64 0, .int .u64 0, .int .u64 0]) := mkHid (Blk.at _ _ _ (by simp))
              replace ZM := mkHid (ZM.out.keep E8)
              replace HO2 := mkHid (HO2.out.below E8)
              replace HB := mkHid (own_keep HB.out E8)
              replace HP := mkHid (own_keep HP.out E8)
              replace KB := mkHid (KB.out.step E8)
              generalize ((w8.alloc (.cells #[.int .i64 h, .int .i64 room, .slice A7 ml2.length c7, .int .i64 nn2, .int .i64 draws, .slice B7 S2.length d7] 45)).alloc (.cells #[.int .i64 4, .int .i64 ((q : Int) + 1), .int .i64 0, .int .u64 0, .int .u64 0] 55)) = w9 at *
              clear E8
              have cA5 := ZA5.out.five
              have hob := HQ.out.1
              have hpp := HQ.out.2
              rw [HSQ.out] at hob hpp
              dsimp only at hob hpp
              rw [decide_eq_true hx] at hob
              have bo : w9.drew.cell? ⟨gO, q, none⟩ = some (.bool true) := by
                have h0 := (HB.out.cellAt q (by omega)).trans (boolCells_get _ q (by simp [outB]; exact hqt))
                rw [hob] at h0
                exact h0
              have bp1 : w9.drew.cell? ⟨gP, q * 2, none⟩ = some (.int .u64 (s1.toNat : Int)) := by
                have h0 := (HP.out.cellAt (q * 2) (by omega)).trans (payCells_get _ q (by simp [payP]; exact hqt)).1
                rw [hpp] at h0
                exact h0
              have bp2 : w9.drew.cell? ⟨gP, q * 2 + 1, none⟩ = some (.int .u64 (s2.toNat : Int)) := by
                have h0 := (HP.out.cellAt (q * 2 + 1) (by omega)).trans (payCells_get _ q (by simp [payP]; exact hqt)).2
                rw [hpp] at h0
                exact h0
              have ⟨ba0, ba1, ba2, ba3, ba4⟩ := ZA5.out.drew.five
              clear hob hpp
              go_upto_region 31 with fail
              clear cA5 ZA5
              refine wp_region_late (late := fun _ => false) (S := fun w' => w'.cell? ⟨gO, q, none⟩ = some (.bool true) ∧ w'.cell? ⟨gP, q * 2, none⟩ = some (.int .u64 (s1.toNat : Int)) ∧ w'.cell? ⟨gP, q * 2 + 1, none⟩ = some (.int .u64 (s2.toNat : Int)) ∧ w'.cell? ⟨w8.heap.size + 1, 0, none⟩ = some (.int .i64 4) ∧ w'.cell? ⟨w8.heap.size + 1, 1, none⟩ = some (.int .i64 ((q : Int) + 1)) ∧ w'.cell? ⟨w8.heap.size + 1, 2, none⟩ = some (.int .i64 0) ∧ w'.cell? ⟨w8.heap.size + 1, 3, none⟩ = some (.int .u64 0) ∧ w'.cell? ⟨w8.heap.size + 1, 4, none⟩ = some (.int .u64 0)) (by kernel_rfl) ?_ (fun hHeld => ?_)
              · ((try dsimp only); (try go_split_ands); refine ⟨?_, ?_, ?_, ?_, ?_, ?_, ?_, ?_⟩ <;> with_reducible assumption)
              refine Any.take (i := 0) (v := ?_) rfl (by kernel_rfl) (by kernel_rfl) (by kernel_rfl) (by kernel_rfl) (fun _ _ _ h => h) (Or.inl ⟨by rfl, ?_⟩) hHeld ?_
              rotate_left
              · intro w hSw
                (try dsimp only at hSw)
                go_simp
                all_goals with_reducible rfl
              try simp only [List.getElem_toArray, List.getElem_cons_succ, List.getElem_cons_zero, Act.put, List.setIfInBounds_toArray, List.set_cons_zero, List.set_cons_succ]
              refine Any.take (i := 1) (v := ?_) rfl (by kernel_rfl) (by kernel_rfl) (by kernel_rfl) (by kernel_rfl) (fun _ _ _ h => h) (Or.inl ⟨by rfl, ?_⟩) hHeld ?_
              rotate_left
              · intro w hSw
                (try dsimp only at hSw)
                go_simp
                all_goals with_reducible rfl
              try simp only [List.getElem_toArray, List.getElem_cons_succ, List.getElem_cons_zero, Act.put, List.setIfInBounds_toArray, List.set_cons_zero, List.set_cons_succ]
              refine Any.take (i := 2) (v := ?_) rfl (by kernel_rfl) (by kernel_rfl) (by kernel_rfl) (by kernel_rfl) (fun _ _ _ h => h) (Or.inl ⟨by rfl, ?_⟩) hHeld ?_
              rotate_left
              · intro w hSw
                (try dsimp only at hSw)
                go_simp
                all_goals with_reducible rfl
              try simp only [List.getElem_toArray, List.getElem_cons_succ, List.getElem_cons_zero, Act.put, List.setIfInBounds_toArray, List.set_cons_zero, List.set_cons_succ]
              refine Any.take (i := 3) (v := ?_) rfl (by kernel_rfl) (by kernel_rfl) (by kernel_rfl) (by kernel_rfl) (fun _ _ _ h => h) (Or.inl ⟨by rfl, ?_⟩) hHeld ?_
              rotate_left
              · intro w hSw
                (try dsimp only at hSw)
                go_simp
                all_goals with_reducible rfl
              try simp only [List.getElem_toArray, List.getElem_cons_succ, List.getElem_cons_zero, Act.put, List.setIfInBounds_toArray, List.set_cons_zero, List.set_cons_succ]
              refine Any.take (i := 4) (v := ?_) rfl (by kernel_rfl) (by kernel_rfl) (by kernel_rfl) (by kernel_rfl) (fun _ _ _ h => h) (Or.inl ⟨by rfl, ?_⟩) hHeld ?_
              rotate_left
              · intro w hSw
                (try dsimp only at hSw)
                go_simp
                all_goals with_reducible rfl
              try simp only [List.getElem_toArray, List.getElem_cons_succ, List.getElem_cons_zero, Act.put, List.setIfInBounds_toArray, List.set_cons_zero, List.set_cons_succ]
              refine Any.take (i := 5) (v := ?_) rfl (by kernel_rfl) (by kernel_rfl) (by kernel_rfl) (by kernel_rfl) (fun _ _ _ h => h) (Or.inl ⟨by rfl, ?_⟩) hHeld ?_
              rotate_left
              · intro w hSw
                (try dsimp only at hSw)
                go_simp
                all_goals with_reducible rfl
              try simp only [List.getElem_toArray, List.getElem_cons_succ, List.getElem_cons_zero, Act.put, List.setIfInBounds_toArray, List.set_cons_zero, List.set_cons_succ]
              refine Any.take (i := 6) (v := ?_) rfl (by kernel_rfl) (by kernel_rfl) (by kernel_rfl) (by kernel_rfl) (fun _ _ _ h => h) (Or.inl ⟨by rfl, ?_⟩) hHeld ?_
              rotate_left
              · intro w hSw
                (try dsimp only at hSw)
                go_simp
                all_goals with_reducible rfl
              try simp only [List.getElem_toArray, List.getElem_cons_succ, List.getElem_cons_zero, Act.put, List.setIfInBounds_toArray, List.set_cons_zero, List.set_cons_succ]
              refine Any.take (i := 7) (v := ?_) rfl (by kernel_rfl) (by kernel_rfl) (by kernel_rfl) (by kernel_rfl) (fun _ _ _ h => h) (Or.inl ⟨by rfl, ?_⟩) hHeld ?_
              rotate_left
              · intro w hSw
                (try dsimp only at hSw)
                go_simp
                all_goals with_reducible rfl
              try simp only [List.getElem_toArray, List.getElem_cons_succ, List.getElem_cons_zero, Act.put, List.setIfInBounds_toArray, List.set_cons_zero, List.set_cons_succ]
              refine Any.take (i := 8) (v := ?_) rfl (by kernel_rfl) (by kernel_rfl) (by kernel_rfl) (by kernel_rfl) (fun _ _ _ h => h) (Or.inl ⟨by rfl, ?_⟩) hHeld ?_
              rotate_left
              · intro w hSw
                (try dsimp only at hSw)
                go_simp
                all_goals with_reducible rfl
              try simp only [List.getElem_toArray, List.getElem_cons_succ, List.getElem_cons_zero, Act.put, List.setIfInBounds_toArray, List.set_cons_zero, List.set_cons_succ]
              refine Any.take (i := 9) (v := ?_) rfl (by kernel_rfl) (by kernel_rfl) (by kernel_rfl) (by kernel_rfl) (fun _ _ _ h => h) (Or.inl ⟨by rfl, ?_⟩) hHeld ?_
              rotate_left
              · intro w hSw
                (try dsimp only at hSw)
                go_simp
                all_goals with_reducible rfl
              try simp only [List.getElem_toArray, List.getElem_cons_succ, List.getElem_cons_zero, Act.put, List.setIfInBounds_toArray, List.set_cons_zero, List.set_cons_succ]
              refine Any.take (i := 10) (v := ?_) rfl (by kernel_rfl) (by kernel_rfl) (by kernel_rfl) (by kernel_rfl) (fun _ _ _ h => h) (Or.inl ⟨by rfl, ?_⟩) hHeld ?_
              rotate_left
              · intro w hSw
                (try dsimp only at hSw)
                go_simp
                all_goals with_reducible rfl
              try simp only [List.getElem_toArray, List.getElem_cons_succ, List.getElem_cons_zero, Act.put, List.setIfInBounds_toArray, List.set_cons_zero, List.set_cons_succ]
              refine Any.take (i := 11) (v := ?_) rfl (by kernel_rfl) (by kernel_rfl) (by kernel_rfl) (by kernel_rfl) (fun _ _ _ h => h) (Or.inl ⟨by rfl, ?_⟩) hHeld ?_
              rotate_left
              · intro w hSw
                (try dsimp only at hSw)
                go_simp
                all_goals with_reducible rfl
              try simp only [List.getElem_toArray, List.getElem_cons_succ, List.getElem_cons_zero, Act.put, List.setIfInBounds_toArray, List.set_cons_zero, List.set_cons_succ]
              refine Any.take (i := 12) (v := ?_) rfl (by kernel_rfl) (by kernel_rfl) (by kernel_rfl) (by kernel_rfl) (fun _ _ _ h => h) (Or.inl ⟨by rfl, ?_⟩) hHeld ?_
              rotate_left
              · intro w hSw
                (try dsimp only at hSw)
                go_simp
                all_goals with_reducible rfl
              try simp only [List.getElem_toArray, List.getElem_cons_succ, List.getElem_cons_zero, Act.put, List.setIfInBounds_toArray, List.set_cons_zero, List.set_cons_succ]
              refine Any.take (i := 13) (v := ?_) rfl (by kernel_rfl) (by kernel_rfl) (by kernel_rfl) (by kernel_rfl) (fun _ _ _ h => h) (Or.inl ⟨by rfl, ?_⟩) hHeld ?_
              rotate_left
              · intro w hSw
                (try dsimp only at hSw)
                go_simp
                all_goals with_reducible rfl
              try simp only [List.getElem_toArray, List.getElem_cons_succ, List.getElem_cons_zero, Act.put, List.setIfInBounds_toArray, List.set_cons_zero, List.set_cons_succ]
              refine Any.take (i := 14) (v := ?_) rfl (by kernel_rfl) (by kernel_rfl) (by kernel_rfl) (by kernel_rfl) (fun _ _ _ h => h) (Or.inl ⟨by rfl, ?_⟩) hHeld ?_
              rotate_left
              · intro w hSw
                (try dsimp only at hSw)
                go_simp
                all_goals with_reducible rfl
              try simp only [List.getElem_toArray, List.getElem_cons_succ, List.getElem_cons_zero, Act.put, List.setIfInBounds_toArray, List.set_cons_zero, List.set_cons_succ]
              refine Any.take (i := 15) (v := ?_) rfl (by kernel_rfl) (by kernel_rfl) (by kernel_rfl) (by kernel_rfl) (fun _ _ _ h => h) (Or.inl ⟨by rfl, ?_⟩) hHeld ?_
              rotate_left
              · intro w hSw
                (try dsimp only at hSw)
                go_simp
                all_goals with_reducible rfl
              try simp only [List.getElem_toArray, List.getElem_cons_succ, List.getElem_cons_zero, Act.put, List.setIfInBounds_toArray, List.set_cons_zero, List.set_cons_succ]
              refine Any.take (i := 16) (v := undef) rfl (by kernel_rfl) (by kernel_rfl) (by kernel_rfl) (by kernel_rfl) (fun _ _ _ h => h) (Or.inr ⟨by rfl, rfl⟩) hHeld ?_
              try simp only [List.getElem_toArray, List.getElem_cons_succ, List.getElem_cons_zero, Act.put, List.setIfInBounds_toArray, List.set_cons_zero, List.set_cons_succ]
              refine Any.take (i := 17) (v := undef) rfl (by kernel_rfl) (by kernel_rfl) (by kernel_rfl) (by kernel_rfl) (fun _ _ _ h => h) (Or.inr ⟨by rfl, rfl⟩) hHeld ?_
              try simp only [List.getElem_toArray, List.getElem_cons_succ, List.getElem_cons_zero, Act.put, List.setIfInBounds_toArray, List.set_cons_zero, List.set_cons_succ]
              refine Any.take (i := 18) (v := undef) rfl (by kernel_rfl) (by kernel_rfl) (by kernel_rfl) (by kernel_rfl) (fun _ _ _ h => h) (Or.inr ⟨by rfl, rfl⟩) hHeld ?_
              try simp only [List.getElem_toArray, List.getElem_cons_succ, List.getElem_cons_zero, Act.put, List.setIfInBounds_toArray, List.set_cons_zero, List.set_cons_succ]
              refine Any.take (i := 19) (v := undef) rfl (by kernel_rfl) (by kernel_rfl) (by kernel_rfl) (by kernel_rfl) (fun _ _ _ h => h) (Or.inr ⟨by rfl, rfl⟩) hHeld ?_
              try simp only [List.getElem_toArray, List.getElem_cons_succ, List.getElem_cons_zero, Act.put, List.setIfInBounds_toArray, List.set_cons_zero, List.set_cons_succ]
              refine Any.take (i := 20) (v := undef) rfl (by kernel_rfl) (by kernel_rfl) (by kernel_rfl) (by kernel_rfl) (fun _ _ _ h => h) (Or.inr ⟨by rfl, rfl⟩) hHeld ?_
              try simp only [List.getElem_toArray, List.getElem_cons_succ, List.getElem_cons_zero, Act.put, List.setIfInBounds_toArray, List.set_cons_zero, List.set_cons_succ]
              refine Any.take (i := 21) (v := undef) rfl (by kernel_rfl) (by kernel_rfl) (by kernel_rfl) (by kernel_rfl) (fun _ _ _ h => h) (Or.inr ⟨by rfl, rfl⟩) hHeld ?_
              try simp only [List.getElem_toArray, List.getElem_cons_succ, List.getElem_cons_zero, Act.put, List.setIfInBounds_toArray, List.set_cons_zero, List.set_cons_succ]
              refine Any.take (i := 22) (v := undef) rfl (by kernel_rfl) (by kernel_rfl) (by kernel_rfl) (by kernel_rfl) (fun _ _ _ h => h) (Or.inr ⟨by rfl, rfl⟩) hHeld ?_
              try simp only [List.getElem_toArray, List.getElem_cons_succ, List.getElem_cons_zero, Act.put, List.setIfInBounds_toArray, List.set_cons_zero, List.set_cons_succ]
              refine Any.take (i := 23) (v := undef) rfl (by kernel_rfl) (by kernel_rfl) (by kernel_rfl) (by kernel_rfl) (fun _ _ _ h => h) (Or.inr ⟨by rfl, rfl⟩) hHeld ?_
              try simp only [List.getElem_toArray, List.getElem_cons_succ, List.getElem_cons_zero, Act.put, List.setIfInBounds_toArray, List.set_cons_zero, List.set_cons_succ]
              refine Any.take (i := 24) (v := undef) rfl (by kernel_rfl) (by kernel_rfl) (by kernel_rfl) (by kernel_rfl) (fun _ _ _ h => h) (Or.inr ⟨by rfl, rfl⟩) hHeld ?_
              try simp only [List.getElem_toArray, List.getElem_cons_succ, List.getElem_cons_zero, Act.put, List.setIfInBounds_toArray, List.set_cons_zero, List.set_cons_succ]
              refine Any.take (i := 25) (v := undef) rfl (by kernel_rfl) (by kernel_rfl) (by kernel_rfl) (by kernel_rfl) (fun _ _ _ h => h) (Or.inr ⟨by rfl, rfl⟩) hHeld ?_
              try simp only [List.getElem_toArray, List.getElem_cons_succ, List.getElem_cons_zero, Act.put, List.setIfInBounds_toArray, List.set_cons_zero, List.set_cons_succ]
              refine Any.take (i := 26) (v := undef) rfl (by kernel_rfl) (by kernel_rfl) (by kernel_rfl) (by kernel_rfl) (fun _ _ _ h => h) (Or.inr ⟨by rfl, rfl⟩) hHeld ?_
              try simp only [List.getElem_toArray, List.getElem_cons_succ, List.getElem_cons_zero, Act.put, List.setIfInBounds_toArray, List.set_cons_zero, List.set_cons_succ]
              refine Any.take (i := 27) (v := undef) rfl (by kernel_rfl) (by kernel_rfl) (by kernel_rfl) (by kernel_rfl) (fun _ _ _ h => h) (Or.inr ⟨by rfl, rfl⟩) hHeld ?_
              try simp only [List.getElem_toArray, List.getElem_cons_succ, List.getElem_cons_zero, Act.put, List.setIfInBounds_toArray, List.set_cons_zero, List.set_cons_succ]
              refine Any.take (i := 28) (v := undef) rfl (by kernel_rfl) (by kernel_rfl) (by kernel_rfl) (by kernel_rfl) (fun _ _ _ h => h) (Or.inr ⟨by rfl, rfl⟩) hHeld ?_
              try simp only [List.getElem_toArray, List.getElem_cons_succ, List.getElem_cons_zero, Act.put, List.setIfInBounds_toArray, List.set_cons_zero, List.set_cons_succ]
              refine Any.take (i := 29) (v := undef) rfl (by kernel_rfl) (by kernel_rfl) (by kernel_rfl) (by kernel_rfl) (fun _ _ _ h => h) (Or.inr ⟨by rfl, rfl⟩) hHeld ?_
              try simp only [List.getElem_toArray, List.getElem_cons_succ, List.getElem_cons_zero, Act.put, List.setIfInBounds_toArray, List.set_cons_zero, List.set_cons_succ]
              refine Any.take (i := 30) (v := ?_) rfl (by kernel_rfl) (by kernel_rfl) (by kernel_rfl) (by kernel_rfl) (fun _ _ _ h => h) (Or.inl ⟨by rfl, ?_⟩) hHeld ?_
              rotate_left
              · intro w hSw
                (try dsimp only at hSw)
                go_simp
                all_goals with_reducible rfl
              try simp only [List.getElem_toArray, List.getElem_cons_succ, List.getElem_cons_zero, Act.put, List.setIfInBounds_toArray, List.set_cons_zero, List.set_cons_succ]
              refine Any.take (i := 31) (v := ?_) rfl (by kernel_rfl) (by kernel_rfl) (by kernel_rfl) (by kernel_rfl) (fun _ _ _ h => h) (Or.inl ⟨by rfl, ?_⟩) hHeld ?_
              rotate_left
              · intro w hSw
                (try dsimp only at hSw)
                go_simp
                all_goals with_reducible rfl
              try simp only [List.getElem_toArray, List.getElem_cons_succ, List.getElem_cons_zero, Act.put, List.setIfInBounds_toArray, List.set_cons_zero, List.set_cons_succ]
              refine Any.take (i := 32) (v := ?_) rfl (by kernel_rfl) (by kernel_rfl) (by kernel_rfl) (by kernel_rfl) (fun _ _ _ h => h) (Or.inl ⟨by rfl, ?_⟩) hHeld ?_
              rotate_left
              · intro w hSw
                (try dsimp only at hSw)
                go_simp
                all_goals with_reducible rfl
              try simp only [List.getElem_toArray, List.getElem_cons_succ, List.getElem_cons_zero, Act.put, List.setIfInBounds_toArray, List.set_cons_zero, List.set_cons_succ]
              refine Any.take (i := 33) (v := ?_) rfl (by kernel_rfl) (by kernel_rfl) (by kernel_rfl) (by kernel_rfl) (fun _ _ _ h => h) (Or.inl ⟨by rfl, ?_⟩) hHeld ?_
              rotate_left
              · intro w hSw
                (try dsimp only at hSw)
                go_simp
                all_goals with_reducible rfl
              try simp only [List.getElem_toArray, List.getElem_cons_succ, List.getElem_cons_zero, Act.put, List.setIfInBounds_toArray, List.set_cons_zero, List.set_cons_succ]
              refine Any.take (i := 34) (v := ?_) rfl (by kernel_rfl) (by kernel_rfl) (by kernel_rfl) (by kernel_rfl) (fun _ _ _ h => h) (Or.inl ⟨by rfl, ?_⟩) hHeld ?_
              rotate_left
              · intro w hSw
                (try dsimp only at hSw)
                go_simp
                all_goals with_reducible rfl
              try simp only [List.getElem_toArray, List.getElem_cons_succ, List.getElem_cons_zero, Act.put, List.setIfInBounds_toArray, List.set_cons_zero, List.set_cons_succ]
              refine Any.take (i := 35) (v := ?_) rfl (by kernel_rfl) (by kernel_rfl) (by kernel_rfl) (by kernel_rfl) (fun _ _ _ h => h) (Or.inl ⟨by rfl, ?_⟩) hHeld ?_
              rotate_left
              · intro w hSw
                (try dsimp only at hSw)
                go_simp
                all_goals with_reducible rfl
              try simp only [List.getElem_toArray, List.getElem_cons_succ, List.getElem_cons_zero, Act.put, List.setIfInBounds_toArray, List.set_cons_zero, List.set_cons_succ]
              refine Any.take (i := 36) (v := ?_) rfl (by kernel_rfl) (by kernel_rfl) (by kernel_rfl) (by kernel_rfl) (fun _ _ _ h => h) (Or.inl ⟨by rfl, ?_⟩) hHeld ?_
              rotate_left
              · intro w hSw
                (try dsimp only at hSw)
                go_simp
                all_goals with_reducible rfl
              try simp only [List.getElem_toArray, List.getElem_cons_succ, List.getElem_cons_zero, Act.put, List.setIfInBounds_toArray, List.set_cons_zero, List.set_cons_succ]
              refine Any.take (i := 37) (v := ?_) rfl (by kernel_rfl) (by kernel_rfl) (by kernel_rfl) (by kernel_rfl) (fun _ _ _ h => h) (Or.inl ⟨by rfl, ?_⟩) hHeld ?_
              rotate_left
              · intro w hSw
                (try dsimp only at hSw)
                go_simp
                all_goals with_reducible rfl
              try simp only [List.getElem_toArray, List.getElem_cons_succ, List.getElem_cons_zero, Act.put, List.setIfInBounds_toArray, List.set_cons_zero, List.set_cons_succ]
              refine Any.take (i := 38) (v := ?_) rfl (by kernel_rfl) (by kernel_rfl) (by kernel_rfl) (by kernel_rfl) (fun _ _ _ h => h) (Or.inl ⟨by rfl, ?_⟩) hHeld ?_
              rotate_left
              · intro w hSw
                (try dsimp only at hSw)
                go_simp
                all_goals with_reducible rfl
              try simp only [List.getElem_toArray, List.getElem_cons_succ, List.getElem_cons_zero, Act.put, List.setIfInBounds_toArray, List.set_cons_zero, List.set_cons_succ]
              refine Any.done (by kernel_rfl) ?_ _
              go_wp2_with fail
              go_roundw
              case rel => exact ⟨q + 1, by omega, by go_num, mkHid ZM.out.drew, mkHid (HO2.out.below (Below.drew (Below.refl _ _))), mkHid HB.out.drew, mkHid HP.out.drew, mkHid KB.out.drew⟩
              case measure => simp [intOf]; omega
            · have HD : Hid (doM ⟨h, room, ml2, nn2, draws, S2⟩ ⟨4, i, (q : Int) + 1, (0, 0)⟩ = (⟨h, room, ml2, nn2, draws, S2⟩, readM ⟨h, room, ml2, nn2, draws, S2⟩ i ((q : Int) + 1), 0)) := mkHid (doM_read HOK.out i _)
              rw [hr1] at HD
              have HMAY := mkHid hm1
              clear hm1 hr1
              go_wp2_with fail
              refine (mmay HMAY _ _ _ _ _ HM6.out).mono ?_
              rintro e w7 ⟨rfl, hb7⟩
              replace ZM := mkHid (ZM.out.keep hb7)
              replace HO2 := mkHid (HO2.out.below hb7)
              replace HM6 := mkHid (HM6.out.below hb7)
              replace HB := mkHid (own_keep HB.out hb7)
              replace HP := mkHid (own_keep HP.out hb7)
              replace KB := mkHid (KB.out.step hb7)
              clear hb7 cM6 lM6
              have cM6 := ZM.out.six
              have lM6 := ZM.out.lt
              go_wp2_with fail
              have HC := mkHid (show Calls Try.prog 29 #[.agg #[.int .i64 h, .int .i64 room, .slice A2 ml2.length c2, .int .i64 nn2, .int .i64 draws, .slice B2 S2.length d2], .agg #[.int .i64 4, .int .u64 (i : Int), .int .i64 ((q : Int) + 1), .int .u64 0, .int .u64 0]] w7 (fun e w' => ∃ A7 c7 B7 d7 X7, e = .returned (.tuple #[.agg #[.int .i64 h, .int .i64 room, .slice A7 ml2.length c7, .int .i64 nn2, .int .i64 draws, .slice B7 S2.length d7], .agg #[.int .i64 0, .int .i64 ((q : Int) + 1), .int .i64 ((q : Int) + 1), .int .u64 (s1.toNat : Int), .int .u64 (s2.toNat : Int)], .int .i64 0]) ∧ OwnM w' w7.heap.size A7 c7 B7 d7 X7 ⟨h, room, ml2, nn2, draws, S2⟩ ∧ Below w7.heap.size w7 w') from mdo HD A2 c2 B2 d2 w7 HM6.out)
              refine HC.out.mono ?_
              rintro e w8 ⟨A7, c7, B7, d7, X7, rfl, _, hb8⟩
              clear HC
              replace ZM := mkHid (ZM.out.keep hb8)
              replace HO2 := mkHid (HO2.out.below hb8)
              replace HB := mkHid (own_keep HB.out hb8)
              replace HP := mkHid (own_keep HP.out hb8)
              replace KB := mkHid (KB.out.step hb8)
              clear hb8 cM6 lM6 HM6 HD HMAY
              go_upto_region 28 with fail
              have E8 : Below w8.heap.size w8 ((w8.alloc (.cells #[.int .i64 h, .int .i64 room, .slice A7 ml2.length c7, .int .i64 nn2, .int .i64 draws, .slice B7 S2.length d7] 45)).alloc (.cells #[.int .i64 0, .int .i64 ((q : Int) + 1), .int .i64 ((q : Int) + 1), .int .u64 (s1.toNat : Int), .int .u64 (s2.toNat : Int)] 55)) := ((Below.refl _ _).alloc (Nat.le_refl _) _).alloc (by simp) _
              have ZA5 : Hid (Blk ((w8.alloc (.cells #[.int .i64 h, .int .i64 room, .slice A7 ml2.length c7, .int .i64 nn2, .int .i64 draws, .slice B7 S2.length d7] 45)).alloc (.cells #[.int .i64 0, .int .i64 ((q : Int) + 1), .int .i64 ((q : Int) + 1), .int .u64 (s1.toNat : Int), .int .u64 (s2.toNat : Int)] 55)) (w8.heap.size + 1) 55 #[.int .i64 0, .int .i64 ((q : Int) + 1), .int .i64 ((q : Int) + 1), .int .u64 (s1.toNat : Int), .int .u64 (s2.toNat : Int)]) := mkHid (Blk.at _ _ _ (by simp))
              replace ZM := mkHid (ZM.out.keep E8)
              replace HO2 := mkHid (HO2.out.below E8)
              replace HB := mkHid (own_keep HB.out E8)
              replace HP := mkHid (own_keep HP.out E8)
              replace KB := mkHid (KB.out.step E8)
              generalize ((w8.alloc (.cells #[.int .i64 h, .int .i64 room, .slice A7 ml2.length c7, .int .i64 nn2, .int .i64 draws, .slice B7 S2.length d7] 45)).alloc (.cells #[.int .i64 0, .int .i64 ((q : Int) + 1), .int .i64 ((q : Int) + 1), .int .u64 (s1.toNat : Int), .int .u64 (s2.toNat : Int)] 55)) = w9 at *
              clear E8
              have cA5 := ZA5.out.five
              have hob := HQ.out.1
              have hpp := HQ.out.2
              rw [HSQ.out] at hob hpp
              dsimp only at hob hpp
              rw [decide_eq_false hx] at hob
              have bo : w9.drew.cell? ⟨gO, q, none⟩ = some (.bool false) := by
                have h0 := (HB.out.cellAt q (by omega)).trans (boolCells_get _ q (by simp [outB]; exact hqt))
                rw [hob] at h0
                exact h0
              have bp1 : w9.drew.cell? ⟨gP, q * 2, none⟩ = some (.int .u64 (s1.toNat : Int)) := by
                have h0 := (HP.out.cellAt (q * 2) (by omega)).trans (payCells_get _ q (by simp [payP]; exact hqt)).1
                rw [hpp] at h0
                exact h0
              have bp2 : w9.drew.cell? ⟨gP, q * 2 + 1, none⟩ = some (.int .u64 (s2.toNat : Int)) := by
                have h0 := (HP.out.cellAt (q * 2 + 1) (by omega)).trans (payCells_get _ q (by simp [payP]; exact hqt)).2
                rw [hpp] at h0
                exact h0
              have ⟨ba0, ba1, ba2, ba3, ba4⟩ := ZA5.out.drew.five
              clear hob hpp
              go_upto_region 31 with fail
              clear cA5 ZA5
              refine wp_region_late (late := fun _ => false) (S := fun w' => w'.cell? ⟨gO, q, none⟩ = some (.bool false) ∧ w'.cell? ⟨gP, q * 2, none⟩ = some (.int .u64 (s1.toNat : Int)) ∧ w'.cell? ⟨gP, q * 2 + 1, none⟩ = some (.int .u64 (s2.toNat : Int)) ∧ w'.cell? ⟨w8.heap.size + 1, 0, none⟩ = some (.int .i64 0) ∧ w'.cell? ⟨w8.heap.size + 1, 1, none⟩ = some (.int .i64 ((q : Int) + 1)) ∧ w'.cell? ⟨w8.heap.size + 1, 2, none⟩ = some (.int .i64 ((q : Int) + 1)) ∧ w'.cell? ⟨w8.heap.size + 1, 3, none⟩ = some (.int .u64 (s1.toNat : Int)) ∧ w'.cell? ⟨w8.heap.size + 1, 4, none⟩ = some (.int .u64 (s2.toNat : Int))) (by kernel_rfl) ?_ (fun hHeld => ?_)
              · ((try dsimp only); (try go_split_ands); refine ⟨?_, ?_, ?_, ?_, ?_, ?_, ?_, ?_⟩ <;> with_reducible assumption)
              refine Any.take (i := 0) (v := ?_) rfl (by kernel_rfl) (by kernel_rfl) (by kernel_rfl) (by kernel_rfl) (fun _ _ _ h => h) (Or.inl ⟨by rfl, ?_⟩) hHeld ?_
              rotate_left
              · intro w hSw
                (try dsimp only at hSw)
                go_simp
                all_goals with_reducible rfl
              try simp only [List.getElem_toArray, List.getElem_cons_succ, List.getElem_cons_zero, Act.put, List.setIfInBounds_toArray, List.set_cons_zero, List.set_cons_succ]
              refine Any.take (i := 1) (v := ?_) rfl (by kernel_rfl) (by kernel_rfl) (by kernel_rfl) (by kernel_rfl) (fun _ _ _ h => h) (Or.inl ⟨by rfl, ?_⟩) hHeld ?_
              rotate_left
              · intro w hSw
                (try dsimp only at hSw)
                go_simp
                all_goals with_reducible rfl
              try simp only [List.getElem_toArray, List.getElem_cons_succ, List.getElem_cons_zero, Act.put, List.setIfInBounds_toArray, List.set_cons_zero, List.set_cons_succ]
              refine Any.take (i := 2) (v := ?_) rfl (by kernel_rfl) (by kernel_rfl) (by kernel_rfl) (by kernel_rfl) (fun _ _ _ h => h) (Or.inl ⟨by rfl, ?_⟩) hHeld ?_
              rotate_left
              · intro w hSw
                (try dsimp only at hSw)
                go_simp
                all_goals with_reducible rfl
              try simp only [List.getElem_toArray, List.getElem_cons_succ, List.getElem_cons_zero, Act.put, List.setIfInBounds_toArray, List.set_cons_zero, List.set_cons_succ]
              refine Any.take (i := 3) (v := ?_) rfl (by kernel_rfl) (by kernel_rfl) (by kernel_rfl) (by kernel_rfl) (fun _ _ _ h => h) (Or.inl ⟨by rfl, ?_⟩) hHeld ?_
              rotate_left
              · intro w hSw
                (try dsimp only at hSw)
                go_simp
                all_goals with_reducible rfl
              try simp only [List.getElem_toArray, List.getElem_cons_succ, List.getElem_cons_zero, Act.put, List.setIfInBounds_toArray, List.set_cons_zero, List.set_cons_succ]
              refine Any.take (i := 4) (v := ?_) rfl (by kernel_rfl) (by kernel_rfl) (by kernel_rfl) (by kernel_rfl) (fun _ _ _ h => h) (Or.inl ⟨by rfl, ?_⟩) hHeld ?_
              rotate_left
              · intro w hSw
                (try dsimp only at hSw)
                go_simp
                all_goals with_reducible rfl
              try simp only [List.getElem_toArray, List.getElem_cons_succ, List.getElem_cons_zero, Act.put, List.setIfInBounds_toArray, List.set_cons_zero, List.set_cons_succ]
              refine Any.take (i := 5) (v := ?_) rfl (by kernel_rfl) (by kernel_rfl) (by kernel_rfl) (by kernel_rfl) (fun _ _ _ h => h) (Or.inl ⟨by rfl, ?_⟩) hHeld ?_
              rotate_left
              · intro w hSw
                (try dsimp only at hSw)
                go_simp
                all_goals with_reducible rfl
              try simp only [List.getElem_toArray, List.getElem_cons_succ, List.getElem_cons_zero, Act.put, List.setIfInBounds_toArray, List.set_cons_zero, List.set_cons_succ]
              refine Any.take (i := 6) (v := ?_) rfl (by kernel_rfl) (by kernel_rfl) (by kernel_rfl) (by kernel_rfl) (fun _ _ _ h => h) (Or.inl ⟨by rfl, ?_⟩) hHeld ?_
              rotate_left
              · intro w hSw
                (try dsimp only at hSw)
                go_simp
                all_goals with_reducible rfl
              try simp only [List.getElem_toArray, List.getElem_cons_succ, List.getElem_cons_zero, Act.put, List.setIfInBounds_toArray, List.set_cons_zero, List.set_cons_succ]
              refine Any.take (i := 7) (v := ?_) rfl (by kernel_rfl) (by kernel_rfl) (by kernel_rfl) (by kernel_rfl) (fun _ _ _ h => h) (Or.inl ⟨by rfl, ?_⟩) hHeld ?_
              rotate_left
              · intro w hSw
                (try dsimp only at hSw)
                go_simp
                all_goals with_reducible rfl
              try simp only [List.getElem_toArray, List.getElem_cons_succ, List.getElem_cons_zero, Act.put, List.setIfInBounds_toArray, List.set_cons_zero, List.set_cons_succ]
              refine Any.take (i := 8) (v := ?_) rfl (by kernel_rfl) (by kernel_rfl) (by kernel_rfl) (by kernel_rfl) (fun _ _ _ h => h) (Or.inl ⟨by rfl, ?_⟩) hHeld ?_
              rotate_left
              · intro w hSw
                (try dsimp only at hSw)
                go_simp
                all_goals with_reducible rfl
              try simp only [List.getElem_toArray, List.getElem_cons_succ, List.getElem_cons_zero, Act.put, List.setIfInBounds_toArray, List.set_cons_zero, List.set_cons_succ]
              refine Any.take (i := 9) (v := ?_) rfl (by kernel_rfl) (by kernel_rfl) (by kernel_rfl) (by kernel_rfl) (fun _ _ _ h => h) (Or.inl ⟨by rfl, ?_⟩) hHeld ?_
              rotate_left
              · intro w hSw
                (try dsimp only at hSw)
                go_simp
                all_goals with_reducible rfl
              try simp only [List.getElem_toArray, List.getElem_cons_succ, List.getElem_cons_zero, Act.put, List.setIfInBounds_toArray, List.set_cons_zero, List.set_cons_succ]
              refine Any.take (i := 10) (v := ?_) rfl (by kernel_rfl) (by kernel_rfl) (by kernel_rfl) (by kernel_rfl) (fun _ _ _ h => h) (Or.inl ⟨by rfl, ?_⟩) hHeld ?_
              rotate_left
              · intro w hSw
                (try dsimp only at hSw)
                go_simp
                all_goals with_reducible rfl
              try simp only [List.getElem_toArray, List.getElem_cons_succ, List.getElem_cons_zero, Act.put, List.setIfInBounds_toArray, List.set_cons_zero, List.set_cons_succ]
              refine Any.take (i := 11) (v := ?_) rfl (by kernel_rfl) (by kernel_rfl) (by kernel_rfl) (by kernel_rfl) (fun _ _ _ h => h) (Or.inl ⟨by rfl, ?_⟩) hHeld ?_
              rotate_left
              · intro w hSw
                (try dsimp only at hSw)
                go_simp
                all_goals with_reducible rfl
              try simp only [List.getElem_toArray, List.getElem_cons_succ, List.getElem_cons_zero, Act.put, List.setIfInBounds_toArray, List.set_cons_zero, List.set_cons_succ]
              refine Any.take (i := 12) (v := ?_) rfl (by kernel_rfl) (by kernel_rfl) (by kernel_rfl) (by kernel_rfl) (fun _ _ _ h => h) (Or.inl ⟨by rfl, ?_⟩) hHeld ?_
              rotate_left
              · intro w hSw
                (try dsimp only at hSw)
                go_simp
                all_goals with_reducible rfl
              try simp only [List.getElem_toArray, List.getElem_cons_succ, List.getElem_cons_zero, Act.put, List.setIfInBounds_toArray, List.set_cons_zero, List.set_cons_succ]
              refine Any.take (i := 13) (v := ?_) rfl (by kernel_rfl) (by kernel_rfl) (by kernel_rfl) (by kernel_rfl) (fun _ _ _ h => h) (Or.inl ⟨by rfl, ?_⟩) hHeld ?_
              rotate_left
              · intro w hSw
                (try dsimp only at hSw)
                go_simp
                all_goals with_reducible rfl
              try simp only [List.getElem_toArray, List.getElem_cons_succ, List.getElem_cons_zero, Act.put, List.setIfInBounds_toArray, List.set_cons_zero, List.set_cons_succ]
              refine Any.take (i := 14) (v := ?_) rfl (by kernel_rfl) (by kernel_rfl) (by kernel_rfl) (by kernel_rfl) (fun _ _ _ h => h) (Or.inl ⟨by rfl, ?_⟩) hHeld ?_
              rotate_left
              · intro w hSw
                (try dsimp only at hSw)
                go_simp
                all_goals with_reducible rfl
              try simp only [List.getElem_toArray, List.getElem_cons_succ, List.getElem_cons_zero, Act.put, List.setIfInBounds_toArray, List.set_cons_zero, List.set_cons_succ]
              refine Any.take (i := 15) (v := ?_) rfl (by kernel_rfl) (by kernel_rfl) (by kernel_rfl) (by kernel_rfl) (fun _ _ _ h => h) (Or.inl ⟨by rfl, ?_⟩) hHeld ?_
              rotate_left
              · intro w hSw
                (try dsimp only at hSw)
                go_simp
                all_goals with_reducible rfl
              try simp only [List.getElem_toArray, List.getElem_cons_succ, List.getElem_cons_zero, Act.put, List.setIfInBounds_toArray, List.set_cons_zero, List.set_cons_succ]
              refine Any.take (i := 16) (v := ?_) rfl (by kernel_rfl) (by kernel_rfl) (by kernel_rfl) (by kernel_rfl) (fun _ _ _ h => h) (Or.inl ⟨by rfl, ?_⟩) hHeld ?_
              rotate_left
              · intro w hSw
                (try dsimp only at hSw)
                go_simp
                all_goals with_reducible rfl
              try simp only [List.getElem_toArray, List.getElem_cons_succ, List.getElem_cons_zero, Act.put, List.setIfInBounds_toArray, List.set_cons_zero, List.set_cons_succ]
              refine Any.take (i := 17) (v := ?_) rfl (by kernel_rfl) (by kernel_rfl) (by kernel_rfl) (by kernel_rfl) (fun _ _ _ h => h) (Or.inl ⟨by rfl, ?_⟩) hHeld ?_
              rotate_left
              · intro w hSw
                (try dsimp only at hSw)
                go_simp
                all_goals with_reducible rfl
              try simp only [List.getElem_toArray, List.getElem_cons_succ, List.getElem_cons_zero, Act.put, List.setIfInBounds_toArray, List.set_cons_zero, List.set_cons_succ]
              refine Any.take (i := 18) (v := ?_) rfl (by kernel_rfl) (by kernel_rfl) (by kernel_rfl) (by kernel_rfl) (fun _ _ _ h => h) (Or.inl ⟨by rfl, ?_⟩) hHeld ?_
              rotate_left
              · intro w hSw
                (try dsimp only at hSw)
                go_simp
                all_goals with_reducible rfl
              try simp only [List.getElem_toArray, List.getElem_cons_succ, List.getElem_cons_zero, Act.put, List.setIfInBounds_toArray, List.set_cons_zero, List.set_cons_succ]
              refine Any.take (i := 19) (v := ?_) rfl (by kernel_rfl) (by kernel_rfl) (by kernel_rfl) (by kernel_rfl) (fun _ _ _ h => h) (Or.inl ⟨by rfl, ?_⟩) hHeld ?_
              rotate_left
              · intro w hSw
                (try dsimp only at hSw)
                go_simp
                all_goals with_reducible rfl
              try simp only [List.getElem_toArray, List.getElem_cons_succ, List.getElem_cons_zero, Act.put, List.setIfInBounds_toArray, List.set_cons_zero, List.set_cons_succ]
              refine Any.take (i := 20) (v := ?_) rfl (by kernel_rfl) (by kernel_rfl) (by kernel_rfl) (by kernel_rfl) (fun _ _ _ h => h) (Or.inl ⟨by rfl, ?_⟩) hHeld ?_
              rotate_left
              · intro w hSw
                (try dsimp only at hSw)
                go_simp
                all_goals with_reducible rfl
              try simp only [List.getElem_toArray, List.getElem_cons_succ, List.getElem_cons_zero, Act.put, List.setIfInBounds_toArray, List.set_cons_zero, List.set_cons_succ]
              refine Any.take (i := 21) (v := ?_) rfl (by kernel_rfl) (by kernel_rfl) (by kernel_rfl) (by kernel_rfl) (fun _ _ _ h => h) (Or.inl ⟨by rfl, ?_⟩) hHeld ?_
              rotate_left
              · intro w hSw
                (try dsimp only at hSw)
                go_simp
                all_goals with_reducible rfl
              try simp only [List.getElem_toArray, List.getElem_cons_succ, List.getElem_cons_zero, Act.put, List.setIfInBounds_toArray, List.set_cons_zero, List.set_cons_succ]
              refine Any.take (i := 22) (v := ?_) rfl (by kernel_rfl) (by kernel_rfl) (by kernel_rfl) (by kernel_rfl) (fun _ _ _ h => h) (Or.inl ⟨by rfl, ?_⟩) hHeld ?_
              rotate_left
              · intro w hSw
                (try dsimp only at hSw)
                go_simp
                all_goals with_reducible rfl
              try simp only [List.getElem_toArray, List.getElem_cons_succ, List.getElem_cons_zero, Act.put, List.setIfInBounds_toArray, List.set_cons_zero, List.set_cons_succ]
              refine Any.take (i := 23) (v := ?_) rfl (by kernel_rfl) (by kernel_rfl) (by kernel_rfl) (by kernel_rfl) (fun _ _ _ h => h) (Or.inl ⟨by rfl, ?_⟩) hHeld ?_
              rotate_left
              · intro w hSw
                (try dsimp only at hSw)
                go_simp
                all_goals with_reducible rfl
              try simp only [List.getElem_toArray, List.getElem_cons_succ, List.getElem_cons_zero, Act.put, List.setIfInBounds_toArray, List.set_cons_zero, List.set_cons_succ]
              refine Any.take (i := 24) (v := ?_) rfl (by kernel_rfl) (by kernel_rfl) (by kernel_rfl) (by kernel_rfl) (fun _ _ _ h => h) (Or.inl ⟨by rfl, ?_⟩) hHeld ?_
              rotate_left
              · intro w hSw
                (try dsimp only at hSw)
                go_simp
                all_goals with_reducible rfl
              try simp only [List.getElem_toArray, List.getElem_cons_succ, List.getElem_cons_zero, Act.put, List.setIfInBounds_toArray, List.set_cons_zero, List.set_cons_succ]
              refine Any.take (i := 25) (v := ?_) rfl (by kernel_rfl) (by kernel_rfl) (by kernel_rfl) (by kernel_rfl) (fun _ _ _ h => h) (Or.inl ⟨by rfl, ?_⟩) hHeld ?_
              rotate_left
              · intro w hSw
                (try dsimp only at hSw)
                go_simp
                all_goals with_reducible rfl
              try simp only [List.getElem_toArray, List.getElem_cons_succ, List.getElem_cons_zero, Act.put, List.setIfInBounds_toArray, List.set_cons_zero, List.set_cons_succ]
              refine Any.take (i := 26) (v := ?_) rfl (by kernel_rfl) (by kernel_rfl) (by kernel_rfl) (by kernel_rfl) (fun _ _ _ h => h) (Or.inl ⟨by rfl, ?_⟩) hHeld ?_
              rotate_left
              · intro w hSw
                (try dsimp only at hSw)
                go_simp
                all_goals with_reducible rfl
              try simp only [List.getElem_toArray, List.getElem_cons_succ, List.getElem_cons_zero, Act.put, List.setIfInBounds_toArray, List.set_cons_zero, List.set_cons_succ]
              refine Any.take (i := 27) (v := ?_) rfl (by kernel_rfl) (by kernel_rfl) (by kernel_rfl) (by kernel_rfl) (fun _ _ _ h => h) (Or.inl ⟨by rfl, ?_⟩) hHeld ?_
              rotate_left
              · intro w hSw
                (try dsimp only at hSw)
                go_simp
                all_goals with_reducible rfl
              try simp only [List.getElem_toArray, List.getElem_cons_succ, List.getElem_cons_zero, Act.put, List.setIfInBounds_toArray, List.set_cons_zero, List.set_cons_succ]
              refine Any.take (i := 28) (v := ?_) rfl (by kernel_rfl) (by kernel_rfl) (by kernel_rfl) (by kernel_rfl) (fun _ _ _ h => h) (Or.inl ⟨by rfl, ?_⟩) hHeld ?_
              rotate_left
              · intro w hSw
                (try dsimp only at hSw)
                go_simp
                all_goals with_reducible rfl
              try simp only [List.getElem_toArray, List.getElem_cons_succ, List.getElem_cons_zero, Act.put, List.setIfInBounds_toArray, List.set_cons_zero, List.set_cons_succ]
              refine Any.take (i := 29) (v := ?_) rfl (by kernel_rfl) (by kernel_rfl) (by kernel_rfl) (by kernel_rfl) (fun _ _ _ h => h) (Or.inl ⟨by rfl, ?_⟩) hHeld ?_
              rotate_left
              · intro w hSw
                (try dsimp only at hSw)
                go_simp
                all_goals with_reducible rfl
              try simp only [List.getElem_toArray, List.getElem_cons_succ, List.getElem_cons_zero, Act.put, List.setIfInBounds_toArray, List.set_cons_zero, List.set_cons_succ]
              refine Any.take (i := 30) (v := ?_) rfl (by kernel_rfl) (by kernel_rfl) (by kernel_rfl) (by kernel_rfl) (fun _ _ _ h => h) (Or.inl ⟨by rfl, ?_⟩) hHeld ?_
              rotate_left
              · intro w hSw
                (try dsimp only at hSw)
                go_simp
                all_goals with_reducible rfl
              try simp only [List.getElem_toArray, List.getElem_cons_succ, List.getElem_cons_zero, Act.put, List.setIfInBounds_toArray, List.set_cons_zero, List.set_cons_succ]
              refine Any.take (i := 31) (v := ?_) rfl (by kernel_rfl) (by kernel_rfl) (by kernel_rfl) (by kernel_rfl) (fun _ _ _ h => h) (Or.inl ⟨by rfl, ?_⟩) hHeld ?_
              rotate_left
              · intro w hSw
                (try dsimp only at hSw)
                go_simp
                all_goals with_reducible rfl
              try simp only [List.getElem_toArray, List.getElem_cons_succ, List.getElem_cons_zero, Act.put, List.setIfInBounds_toArray, List.set_cons_zero, List.set_cons_succ]
              refine Any.take (i := 32) (v := ?_) rfl (by kernel_rfl) (by kernel_rfl) (by kernel_rfl) (by kernel_rfl) (fun _ _ _ h => h) (Or.inl ⟨by rfl, ?_⟩) hHeld ?_
              rotate_left
              · intro w hSw
                (try dsimp only at hSw)
                go_simp
                all_goals with_reducible rfl
              try simp only [List.getElem_toArray, List.getElem_cons_succ, List.getElem_cons_zero, Act.put, List.setIfInBounds_toArray, List.set_cons_zero, List.set_cons_succ]
              refine Any.take (i := 33) (v := ?_) rfl (by kernel_rfl) (by kernel_rfl) (by kernel_rfl) (by kernel_rfl) (fun _ _ _ h => h) (Or.inl ⟨by rfl, ?_⟩) hHeld ?_
              rotate_left
              · intro w hSw
                (try dsimp only at hSw)
                go_simp
                all_goals with_reducible rfl
              try simp only [List.getElem_toArray, List.getElem_cons_succ, List.getElem_cons_zero, Act.put, List.setIfInBounds_toArray, List.set_cons_zero, List.set_cons_succ]
              refine Any.take (i := 34) (v := ?_) rfl (by kernel_rfl) (by kernel_rfl) (by kernel_rfl) (by kernel_rfl) (fun _ _ _ h => h) (Or.inl ⟨by rfl, ?_⟩) hHeld ?_
              rotate_left
              · intro w hSw
                (try dsimp only at hSw)
                go_simp
                all_goals with_reducible rfl
              try simp only [List.getElem_toArray, List.getElem_cons_succ, List.getElem_cons_zero, Act.put, List.setIfInBounds_toArray, List.set_cons_zero, List.set_cons_succ]
              refine Any.take (i := 35) (v := ?_) rfl (by kernel_rfl) (by kernel_rfl) (by kernel_rfl) (by kernel_rfl) (fun _ _ _ h => h) (Or.inl ⟨by rfl, ?_⟩) hHeld ?_
              rotate_left
              · intro w hSw
                (try dsimp only at hSw)
                go_simp
                all_goals with_reducible rfl
              try simp only [List.getElem_toArray, List.getElem_cons_succ, List.getElem_cons_zero, Act.put, List.setIfInBounds_toArray, List.set_cons_zero, List.set_cons_succ]
              refine Any.take (i := 36) (v := ?_) rfl (by kernel_rfl) (by kernel_rfl) (by kernel_rfl) (by kernel_rfl) (fun _ _ _ h => h) (Or.inl ⟨by rfl, ?_⟩) hHeld ?_
              rotate_left
              · intro w hSw
                (try dsimp only at hSw)
                go_simp
                all_goals with_reducible rfl
              try simp only [List.getElem_toArray, List.getElem_cons_succ, List.getElem_cons_zero, Act.put, List.setIfInBounds_toArray, List.set_cons_zero, List.set_cons_succ]
              refine Any.take (i := 37) (v := ?_) rfl (by kernel_rfl) (by kernel_rfl) (by kernel_rfl) (by kernel_rfl) (fun _ _ _ h => h) (Or.inl ⟨by rfl, ?_⟩) hHeld ?_
              rotate_left
              · intro w hSw
                (try dsimp only at hSw)
                go_simp
                all_goals with_reducible rfl
              try simp only [List.getElem_toArray, List.getElem_cons_succ, List.getElem_cons_zero, Act.put, List.setIfInBounds_toArray, List.set_cons_zero, List.set_cons_succ]
              refine Any.take (i := 38) (v := ?_) rfl (by kernel_rfl) (by kernel_rfl) (by kernel_rfl) (by kernel_rfl) (fun _ _ _ h => h) (Or.inl ⟨by rfl, ?_⟩) hHeld ?_
              rotate_left
              · intro w hSw
                (try dsimp only at hSw)
                go_simp
                all_goals with_reducible rfl
              try simp only [List.getElem_toArray, List.getElem_cons_succ, List.getElem_cons_zero, Act.put, List.setIfInBounds_toArray, List.set_cons_zero, List.set_cons_succ]
              refine Any.done (by kernel_rfl) ?_ _
              go_wp2_with fail
              go_roundw
              case rel => exact ⟨q + 1, by omega, by go_num, mkHid ZM.out.drew, mkHid (HO2.out.below (Below.drew (Below.refl _ _))), mkHid HB.out.drew, mkHid HP.out.drew, mkHid KB.out.drew⟩
              case measure => simp [intOf]; omega
          · obtain rfl : q = S2.length := by omega
            go_wp2_with fail
            go_roundw
            case rel => exact ⟨k + 1, nn2, ml2, S2, z2, A2, c2, B2, d2, X2, aO2, cO2, aP2, cP2, by omega, rfl, rfl, rfl, by go_num, hz2, HOK, ZM, HO2, HB, HP, KB⟩
            case measure => simp [intOf]; omega
    · obtain rfl : k = l.length := by omega
      have cM := ZM.out.six
      go_wp2_with fail
      go_ret
      exact ⟨rfl, KB.out⟩

theorem walk_ModelOut {w : World} (h : Int) (_wh : (Lit.int .i64 h).wf = true) (room : Int) (_wr : (Lit.int .i64 room).wf = true) (draws : Int) (_wd : (Lit.int .i64 draws).wf = true) (C : Option Addr) (l : List OpD) (cc : Nat) (hA : OpsAt w C l) (i : Int) (wi : (Lit.int .u64 i).wf = true) :
    Calls Try.prog 7 #[.int .i64 h, .int .i64 room, .int .i64 draws, .slice C l.length cc, .int .u64 i] w fun e w' => e = .returned (.bool true) ∧ Below w.heap.size w w' := by
  obtain ⟨i, rfl, _⟩ := nat_u64 wi
  by_cases hl : l.length ≤ 60
  · obtain ⟨m0, r, e⟩ : ∃ m0 r, newM h room draws = (m0, r) := ⟨_, _, rfl⟩
    by_cases hr : r = 0
    · subst hr
      obtain ⟨rfl, hk⟩ := newM_ok e
      exact mout_walk hl (mkHid e) (mkHid hk) C cc w hA
    · exact mout_bad hl (mkHid e) hr C cc w hA
  · exact mout_long (by omega) C cc w hA
end Go.Proofs.Ytmehbonjpmlmfaa
