/- The chapter's example of seal. -/
import Derived.Test.YtdaodopeodheeaaSealA
import Derived.Deep.DeepCutAuto
import Derived.Deep.RegionHeld3
namespace Go.Proofs.Ytdaodopeodheeaa
open Go.RowKit

theorem wrap_to {v0 v1 u0 u1 : Int} {k0 k1 b0 b1 c0 c1 t0 t1 : BitVec 64} (e0 : v0 = U k0) (e1 : v1 = U k1) (f0 : u0 = U b0) (f1 : u1 = U b1) (hc : Hid (hideB (k0, k1) (b0, b1) = (c0, c1))) (h : Hid (tagB (k0, k1) (c0, c1) = (t0, t1))) (w : World) :
    Calls Try.prog 31 #[.agg #[.int .u64 v0, .int .u64 v1], .agg #[.int .u64 u0, .int .u64 u1]] w fun e w' => e = .returned (.agg #[.int .u64 (U c0), .int .u64 (U c1), .int .u64 (U t0), .int .u64 (U t1)]) ∧ Below w.heap.size w w' := by
  subst e0 e1 f0 f1; exact wrap_eq hc h w
theorem unwrap_no_to {v0 v1 : Int} {k0 k1 c0 c1 t0 t1 r0 r1 : BitVec 64} (e0 : v0 = U k0) (e1 : v1 = U k1) (h : Hid (tagB (k0, k1) (c0, c1) = (r0, r1))) (hne : Hid ((U r0 == U t0 && U r1 == U t1) = false)) (w : World) :
    Calls Try.prog 32 #[.agg #[.int .u64 v0, .int .u64 v1], .agg #[.int .u64 (U c0), .int .u64 (U c1), .int .u64 (U t0), .int .u64 (U t1)]] w fun e w' => e = .returned (.tuple #[.agg #[.int .u64 0, .int .u64 0], .int .i64 7]) ∧ Below w.heap.size w w' := by
  subst e0 e1; exact unwrap_no h hne.out w
theorem lit_U (n : Nat) (h : n < 18446744073709551616) : ((n : Nat) : Int) = U (BitVec.ofNat 64 n) := by unfold U; rw [BitVec.toNat_ofNat, Nat.mod_eq_of_lt (by omega)]
theorem Blk.one3 {w : World} {n : Nat} {t : TypeId} {a b c d x : Value} (h : Blk w n t #[a, b, c, d]) : Blk (w.setCell ⟨n, 3, none⟩ x) n t #[a, b, c, x] := h.set 3 x

set_option maxRecDepth 100000 in
set_option maxHeartbeats 1000000 in
theorem live04  (w : World) :
    Calls Try.prog 30 #[] w fun e w' => e = .returned (.bool true) ∧ Below w.heap.size w w' := by
  have hq := eq_blocks
  obtain ⟨c0, c1, hc⟩ := pair_ex (hideB (1#64, 2#64) (3#64, 4#64))
  obtain ⟨t0, t1, ht⟩ := pair_ex (tagB (1#64, 2#64) (c0, c1))
  have hx : bits BinOp.xor IntKind.u64 (U t1) 1 = U (t1 ^^^ 1#64) := w_xor t1 1#64
  have hne : (U t0 == U t0 && U t1 == U (t1 ^^^ 1#64)) = false := by
    rw [Bool.and_eq_false_iff]; right
    rw [beq_eq_false_iff_ne]; intro h
    have h2 := congrArg (fun x => t1 ^^^ x) (U_inj h)
    rw [← BitVec.xor_assoc, BitVec.xor_self, BitVec.zero_xor] at h2
    exact absurd h2 (by decide)
  have K1 := mkHid hc
  have K2 := mkHid ht
  have K3 := mkHid hne
  generalize t1 ^^^ 1#64 = t2 at *
  clear hc ht hne
  go_enter Try.func30, Try.ntmps30
  go_wp2_with fail
  refine (wrap_to (k0 := 1#64) (k1 := 2#64) (b0 := 3#64) (b1 := 4#64) rfl rfl rfl rfl K1 K2 _).mono ?_
  rintro e w1 ⟨rfl, hb1⟩
  have hBN := Below.step (w := w) (by repeat' first | with_reducible exact Below.refl _ _ | with_reducible refine Below.drew ?_ | with_reducible refine below_drewN ?_ _ | with_reducible refine Below.setCell ?_ ?_ _ | with_reducible refine Below.alloc ?_ ?_ _ | (dsimp only; omega) | (simp <;> fail) | (simp; omega)) hb1
  clear hb1
  have HBel := mkHid hBN
  clear hBN
  go_wp2_with fail
  refine (unwrap_no_to (k0 := 1#64) (k1 := 2#64) rfl rfl K2 K3 _).mono ?_
  rintro e w2 ⟨rfl, hb2⟩
  have hBN := Below.step (w := w) (by repeat' first | with_reducible exact HBel.out | with_reducible exact Below.refl _ _ | with_reducible refine Below.drew ?_ | with_reducible refine below_drewN ?_ _ | with_reducible refine Below.setCell ?_ ?_ _ | with_reducible refine Below.alloc ?_ ?_ _ | (dsimp only; omega) | (simp <;> fail) | (have := HBel.out.size; simp; omega)) hb2
  clear HBel hb2
  have HBel := mkHid hBN
  clear hBN
  go_wp2_with fail
  go_ret
  exact ⟨rfl, HBel.out.alloc HBel.out.size _⟩
end Go.Proofs.Ytdaodopeodheeaa
