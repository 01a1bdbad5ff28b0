/- The walk of MixPart: the Go text answers true and writes nothing that was there. -/
import Derived.Test.YtdaodopeodheeaaKit
namespace Go.Proofs.Ytdaodopeodheeaa
open Go.RowKit

set_option maxRecDepth 100000 in
set_option maxHeartbeats 2000000 in
theorem walk_MixPart_lo (a0 a1 : BitVec 64) (i : Int) (hi : i < 0) (w : World) :
    Calls Try.prog 13 #[.agg #[.int .u64 (U a0), .int .u64 (U a1)], .int .i64 i] w fun e w' => e = .returned (.bool true) ∧ Below w.heap.size w w' := by
  have hq := eq_blocks
  have hz : U 0#64 = 0 := rfl
  go_enter Try.func13, Try.ntmps13
  go_wp2_with fail
  refine (live03 _).mono ?_
  rintro e w1 ⟨rfl, hb1⟩
  have bA := Blk.keep (n := w.heap.size) (t := 24) (cs := #[.int .u64 (U a0), .int .u64 (U a1)]) (by repeat' first | refine Blk.drew ?_ | exact Blk.at _ _ _ (by simp) | refine Blk.alloc ?_ _) hb1
  have hBN := Below.step (w := w) (by repeat' first | exact Below.refl _ _ | refine Below.drew ?_ | refine below_drewN ?_ _ | refine Below.alloc ?_ (by first | (simp; done) | (simp; omega)) _) hb1
  clear hb1
  have cA := bA.two
  have HA := mkHid bA
  have lA := bA.lt
  clear bA
  have HB := mkHid hBN
  clear hBN
  go_wp2_with fail
  refine (part_not _ _ _ _ (.inl hi)).mono ?_
  rintro e w2 ⟨rfl, hb2⟩
  have bA := Blk.keep (n := w.heap.size) (t := 24) (cs := #[.int .u64 (U a0), .int .u64 (U a1)]) (by repeat' first | with_reducible exact HA.out | refine Blk.drew ?_ | exact Blk.at _ _ _ (by simp) | refine Blk.alloc ?_ _) hb2
  have hBN := Below.step (w := w) (by repeat' first | with_reducible exact HB.out | exact Below.refl _ _ | refine Below.drew ?_ | refine below_drewN ?_ _ | refine Below.alloc ?_ (by first | (simp; done) | (have := HB.out.size; simp; omega)) _) hb2
  clear cA HA lA HB hb2
  have cA := bA.two
  have HA := mkHid bA
  have lA := bA.lt
  clear bA
  have HB := mkHid hBN
  clear hBN
  go_wp2_with fail
  go_ret
  exact ⟨rfl, (HB.out.alloc HB.out.size _)⟩

set_option maxRecDepth 100000 in
set_option maxHeartbeats 2000000 in
theorem walk_MixPart_hi (a0 a1 : BitVec 64) (i : Int) (hi : 4 < i) (w : World) :
    Calls Try.prog 13 #[.agg #[.int .u64 (U a0), .int .u64 (U a1)], .int .i64 i] w fun e w' => e = .returned (.bool true) ∧ Below w.heap.size w w' := by
  have hq := eq_blocks
  have hz : U 0#64 = 0 := rfl
  have h0 : ¬ i < 0 := by omega
  go_enter Try.func13, Try.ntmps13
  go_wp2_with fail
  refine (live03 _).mono ?_
  rintro e w1 ⟨rfl, hb1⟩
  have bA := Blk.keep (n := w.heap.size) (t := 24) (cs := #[.int .u64 (U a0), .int .u64 (U a1)]) (by repeat' first | refine Blk.drew ?_ | exact Blk.at _ _ _ (by simp) | refine Blk.alloc ?_ _) hb1
  have hBN := Below.step (w := w) (by repeat' first | exact Below.refl _ _ | refine Below.drew ?_ | refine below_drewN ?_ _ | refine Below.alloc ?_ (by first | (simp; done) | (simp; omega)) _) hb1
  clear hb1
  have cA := bA.two
  have HA := mkHid bA
  have lA := bA.lt
  clear bA
  have HB := mkHid hBN
  clear hBN
  go_wp2_with fail
  refine (part_not _ _ _ _ (.inr hi)).mono ?_
  rintro e w2 ⟨rfl, hb2⟩
  have bA := Blk.keep (n := w.heap.size) (t := 24) (cs := #[.int .u64 (U a0), .int .u64 (U a1)]) (by repeat' first | with_reducible exact HA.out | refine Blk.drew ?_ | exact Blk.at _ _ _ (by simp) | refine Blk.alloc ?_ _) hb2
  have hBN := Below.step (w := w) (by repeat' first | with_reducible exact HB.out | exact Below.refl _ _ | refine Below.drew ?_ | refine below_drewN ?_ _ | refine Below.alloc ?_ (by first | (simp; done) | (have := HB.out.size; simp; omega)) _) hb2
  clear cA HA lA HB hb2
  have cA := bA.two
  have HA := mkHid bA
  have lA := bA.lt
  clear bA
  have HB := mkHid hBN
  clear hBN
  go_wp2_with fail
  go_ret
  exact ⟨rfl, (HB.out.alloc HB.out.size _)⟩

set_option maxRecDepth 100000 in
set_option maxHeartbeats 2000000 in
theorem walk_MixPart_yes (a0 a1 : BitVec 64) (i : Nat) (hi : i ≤ 4) (w : World) :
    Calls Try.prog 13 #[.agg #[.int .u64 (U a0), .int .u64 (U a1)], .int .i64 (i : Int)] w fun e w' => e = .returned (.bool true) ∧ Below w.heap.size w w' := by
  have hq := eq_blocks
  obtain ⟨p0, p1, hp⟩ := pair_ex (partB i (a0, a1))
  have K1 := mkHid hp
  obtain ⟨m0, m1, hm⟩ := pair_ex (mixTo 8 (a0 ^^^ BitVec.ofNat 64 (i + 1), a1))
  have hx0 : U (p0 ^^^ a0) = U m0 := by
    have h := congrArg Prod.fst hp
    unfold partB xorB at h
    dsimp only at h
    rw [hm] at h
    rw [← h, xor_xor_cancel]
  have hx1 : U (p1 ^^^ a1) = U m1 := by
    have h := congrArg Prod.snd hp
    unfold partB xorB at h
    dsimp only at h
    rw [hm] at h
    rw [← h, xor_xor_cancel]
  have X0 := mkHid hx0
  have X1 := mkHid hx1
  have K2 := mkHid (mix_of_unmix hm)
  have e0 : a0 ^^^ BitVec.ofNat 64 (i + 1) ^^^ a0 = BitVec.ofNat 64 (i + 1) := by rw [BitVec.xor_comm a0, xor_xor_cancel]
  have hU : U (BitVec.ofNat 64 (i + 1)) = (i : Int) + 1 := by
    unfold U; rw [BitVec.toNat_ofNat, Nat.mod_eq_of_lt (by omega)]; omega
  have Y0 : Hid (U (a0 ^^^ BitVec.ofNat 64 (i + 1) ^^^ a0) = (i : Int) + 1) := mkHid (by rw [e0, hU])
  have Y1 : Hid (U (a1 ^^^ a1) = 0) := mkHid (xor_same a1)
  have hw1 : IntKind.u64.wrap (IntKind.i64.wrap ((i : Int) + 1)) = (i : Int) + 1 := by
    rw [IntWalk.i64_in _ (by omega), IntKind.wrap_u64]; omega
  generalize a0 ^^^ BitVec.ofNat 64 (i + 1) = y at *
  clear hp hm hx0 hx1 e0 hU
  go_enter Try.func13, Try.ntmps13
  go_wp2_with fail
  refine (live03 _).mono ?_
  rintro e w1 ⟨rfl, hb1⟩
  have bA := Blk.keep (n := w.heap.size) (t := 24) (cs := #[.int .u64 (U a0), .int .u64 (U a1)]) (by repeat' first | refine Blk.drew ?_ | exact Blk.at _ _ _ (by simp) | refine Blk.alloc ?_ _) hb1
  have hBN := Below.step (w := w) (by repeat' first | exact Below.refl _ _ | refine Below.drew ?_ | refine below_drewN ?_ _ | refine Below.alloc ?_ (by first | (simp; done) | (simp; omega)) _) hb1
  clear hb1
  have cA := bA.two
  have HA := mkHid bA
  have lA := bA.lt
  clear bA
  have HB := mkHid hBN
  clear hBN
  go_wp2_with fail
  refine (part_eq K1 rfl rfl rfl hi _).mono ?_
  rintro e w2 ⟨rfl, hb2⟩
  have bA := Blk.keep (n := w.heap.size) (t := 24) (cs := #[.int .u64 (U a0), .int .u64 (U a1)]) (by repeat' first | with_reducible exact HA.out | refine Blk.drew ?_ | exact Blk.at _ _ _ (by simp) | refine Blk.alloc ?_ _) hb2
  have hBN := Below.step (w := w) (by repeat' first | with_reducible exact HB.out | exact Below.refl _ _ | refine Below.drew ?_ | refine below_drewN ?_ _ | refine Below.alloc ?_ (by first | (simp; done) | (have := HB.out.size; simp; omega)) _) hb2
  clear cA HA lA HB hb2
  have cA := bA.two
  have HA := mkHid bA
  have lA := bA.lt
  clear bA
  have HB := mkHid hBN
  clear hBN
  go_wp2_with fail
  refine (xor_to rfl rfl rfl rfl X0.out X1.out _).mono ?_
  rintro e w3 ⟨rfl, hb3⟩
  have bA := Blk.keep (n := w.heap.size) (t := 24) (cs := #[.int .u64 (U a0), .int .u64 (U a1)]) (by repeat' first | with_reducible exact HA.out | refine Blk.drew ?_ | exact Blk.at _ _ _ (by simp) | refine Blk.alloc ?_ _) hb3
  have bP := Blk.keep (n := w2.heap.size) (t := 24) (cs := #[.int .u64 (U p0), .int .u64 (U p1)]) (by repeat' first | refine Blk.drew ?_ | exact Blk.at _ _ _ (by simp) | refine Blk.alloc ?_ _) hb3
  have hBN := Below.step (w := w) (by repeat' first | with_reducible exact HB.out | exact Below.refl _ _ | refine Below.drew ?_ | refine below_drewN ?_ _ | refine Below.alloc ?_ (by first | (simp; done) | (have := HB.out.size; simp; omega)) _) hb3
  clear cA HA lA HB hb3
  have cA := bA.two
  have HA := mkHid bA
  have lA := bA.lt
  clear bA
  have cP := bP.two
  have HP := mkHid bP
  have lP := bP.lt
  clear bP
  have HB := mkHid hBN
  clear hBN
  go_wp2_with fail
  refine (unmix_eq K2 rfl rfl _).mono ?_
  rintro e w4 ⟨rfl, hb4⟩
  have bA := Blk.keep (n := w.heap.size) (t := 24) (cs := #[.int .u64 (U a0), .int .u64 (U a1)]) (by repeat' first | with_reducible exact HA.out | refine Blk.drew ?_ | exact Blk.at _ _ _ (by simp) | refine Blk.alloc ?_ _) hb4
  have bP := Blk.keep (n := w2.heap.size) (t := 24) (cs := #[.int .u64 (U p0), .int .u64 (U p1)]) (by repeat' first | with_reducible exact HP.out | refine Blk.drew ?_ | exact Blk.at _ _ _ (by simp) | refine Blk.alloc ?_ _) hb4
  have hBN := Below.step (w := w) (by repeat' first | with_reducible exact HB.out | exact Below.refl _ _ | refine Below.drew ?_ | refine below_drewN ?_ _ | refine Below.alloc ?_ (by first | (simp; done) | (have := HB.out.size; simp; omega)) _) hb4
  clear cA HA lA cP HP lP HB hb4
  have cA := bA.two
  have HA := mkHid bA
  have lA := bA.lt
  clear bA
  have cP := bP.two
  have HP := mkHid bP
  have lP := bP.lt
  clear bP
  have HB := mkHid hBN
  clear hBN
  go_wp2_with fail
  refine (xor_to rfl rfl rfl rfl Y0.out Y1.out _).mono ?_
  rintro e w5 ⟨rfl, hb5⟩
  have bA := Blk.keep (n := w.heap.size) (t := 24) (cs := #[.int .u64 (U a0), .int .u64 (U a1)]) (by repeat' first | with_reducible exact HA.out | refine Blk.drew ?_ | exact Blk.at _ _ _ (by simp) | refine Blk.alloc ?_ _) hb5
  have bP := Blk.keep (n := w2.heap.size) (t := 24) (cs := #[.int .u64 (U p0), .int .u64 (U p1)]) (by repeat' first | with_reducible exact HP.out | refine Blk.drew ?_ | exact Blk.at _ _ _ (by simp) | refine Blk.alloc ?_ _) hb5
  have bM := Blk.keep (n := w4.heap.size) (t := 24) (cs := #[.int .u64 (U y), .int .u64 (U a1)]) (by repeat' first | refine Blk.drew ?_ | exact Blk.at _ _ _ (by simp) | refine Blk.alloc ?_ _) hb5
  have hBN := Below.step (w := w) (by repeat' first | with_reducible exact HB.out | exact Below.refl _ _ | refine Below.drew ?_ | refine below_drewN ?_ _ | refine Below.alloc ?_ (by first | (simp; done) | (have := HB.out.size; simp; omega)) _) hb5
  clear cA HA lA cP HP lP HB hb5
  have cA := bA.two
  have HA := mkHid bA
  have lA := bA.lt
  clear bA
  have cP := bP.two
  have HP := mkHid bP
  have lP := bP.lt
  clear bP
  have cM := bM.two
  have HM := mkHid bM
  have lM := bM.lt
  clear bM
  have HB := mkHid hBN
  clear hBN
  go_wp2_with fail
  go_ret
  exact ⟨rfl, HB.out⟩

theorem walk_MixPart (a0 a1 : BitVec 64) (i : Int) (_wi : (Lit.int .i64 i).wf = true) (w : World) :
    Calls Try.prog 13 #[.agg #[.int .u64 (U a0), .int .u64 (U a1)], .int .i64 i] w fun e w' => e = .returned (.bool true) ∧ Below w.heap.size w w' := by
  by_cases h0 : i < 0
  · exact walk_MixPart_lo a0 a1 i h0 w
  by_cases h4 : 4 < i
  · exact walk_MixPart_hi a0 a1 i h4 w
  obtain ⟨n, rfl⟩ : ∃ n : Nat, i = n := ⟨i.toNat, by omega⟩
  exact walk_MixPart_yes a0 a1 n (by omega) w
end Go.Proofs.Ytdaodopeodheeaa
