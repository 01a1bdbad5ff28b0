/- The walk of SealDoes: the Go text answers true and writes nothing that was there. -/
import Derived.Test.YtdaodopeodheeaaWSealDoA
import Derived.Test.YtdaodopeodheeaaWSealDoB
import Derived.Test.YtdaodopeodheeaaWSealDoD
import Derived.Test.YtdaodopeodheeaaWSealDoE
namespace Go.Proofs.Ytdaodopeodheeaa
open Go.RowKit

set_option maxRecDepth 100000 in
set_option maxHeartbeats 4000000 in
theorem sdoes_long (a : Option Addr) (l : List (BitVec 8)) (cap : Nat) {k0 k1 b0 b1 c0 c1 t0 t1 : BitVec 64} (h5 : 500 < l.length) (w : World) :
    Calls Try.prog 14 #[.agg #[.int .u64 (U k0), .int .u64 (U k1)], .agg #[.int .u64 (U b0), .int .u64 (U b1)], .agg #[.int .u64 (U c0), .int .u64 (U c1), .int .u64 (U t0), .int .u64 (U t1)], .slice a l.length cap] w fun e w' => e = .returned (.bool true) ∧ Below w.heap.size w w' := by
  have t5 : (500 : Int) < (l.length : Int) := by omega
  clear h5
  have KB : Hid (Below w.heap.size w (((w.alloc (.cells #[.int .u64 (U k0), .int .u64 (U k1)] 24)).alloc (.cells #[.int .u64 (U b0), .int .u64 (U b1)] 24)).alloc (.cells #[.int .u64 (U c0), .int .u64 (U c1), .int .u64 (U t0), .int .u64 (U t1)] 43))) := mkHid ((((Below.refl _ _).alloc (Nat.le_refl _) _).alloc (by simp) _).alloc (by simp; omega) _)
  go_enter Try.func14, Try.ntmps14
  go_wp2_with fail
  refine (live04 _).mono ?_
  rintro e w1 ⟨rfl, hb1⟩
  replace KB := mkHid (KB.out.step hb1)
  clear hb1
  go_wp2_with fail
  go_ret
  exact ⟨rfl, KB.out⟩
theorem walk_SealDoes (k0 k1 b0 b1 c0 c1 t0 t1 : BitVec 64) (a : Option Addr) (l : List (BitVec 8)) (cap : Nat) (hcap : l.length ≤ cap) (_hm : cap ≤ maxLen) (w : World) (hL : Bytes w a l) (_nz : a = none → cap = 0) :
    Calls Try.prog 14 #[.agg #[.int .u64 (U k0), .int .u64 (U k1)], .agg #[.int .u64 (U b0), .int .u64 (U b1)], .agg #[.int .u64 (U c0), .int .u64 (U c1), .int .u64 (U t0), .int .u64 (U t1)], .slice a l.length cap] w fun e w' => e = .returned (.bool true) ∧ Below w.heap.size w w' := by
  obtain ⟨h0, h1, X1⟩ := pair_ex (hideB (k0, k1) (b0, b1))
  obtain ⟨g0, g1, X2⟩ := pair_ex (tagB (k0, k1) (h0, h1))
  obtain ⟨r0, r1, X3⟩ := pair_ex (tagB (k0, k1) (b0, b1))
  obtain ⟨z0, z1, Z⟩ := pair_ex (tagB (k0, k1) (c0, c1))
  obtain ⟨x0, x1, Y⟩ := pair_ex (hideB (k0, k1) (c0, c1))
  by_cases h5 : l.length ≤ 500
  · by_cases h : l.length = 32
    · obtain ⟨p0, p1, P⟩ := pair_ex (blockOf (l.take 16))
      obtain ⟨q0, q1, Q⟩ := pair_ex (blockOf (l.drop 16))
      cases e : (U z0 == U t0 && U z1 == U t1)
      · have e2 : (U t0 == U z0 && U t1 == U z1) = false := by rw [BEq.comm (a := U t0), BEq.comm (a := U t1)]; exact e
        have c := sdoes_B l a cap (mkHid X1) (mkHid X2) (mkHid X3) (mkHid Z) e e2 (mkHid P) (mkHid Q) h (by omega) w hL
        rw [← h] at c
        exact c
      · rw [Bool.and_eq_true, beq_iff_eq, beq_iff_eq] at e
        obtain rfl := U_inj e.1
        obtain rfl := U_inj e.2
        have c := sdoes_A l a cap (mkHid X1) (mkHid X2) (mkHid X3) (mkHid Y) (mkHid Z) (mkHid P) (mkHid Q) h (by omega) w hL
        rw [← h] at c
        exact c
    · have hn : ((l.length : Int) != 32) = true := bne_iff_ne.2 (by omega)
      cases e : (U z0 == U t0 && U z1 == U t1)
      · have e2 : (U t0 == U z0 && U t1 == U z1) = false := by rw [BEq.comm (a := U t0), BEq.comm (a := U t1)]; exact e
        exact sdoes_E l a cap (mkHid X1) (mkHid X2) (mkHid X3) (mkHid Z) e e2 h5 hn w hL
      · rw [Bool.and_eq_true, beq_iff_eq, beq_iff_eq] at e
        obtain rfl := U_inj e.1
        obtain rfl := U_inj e.2
        exact sdoes_D l a cap (mkHid X1) (mkHid X2) (mkHid X3) (mkHid Y) (mkHid Z) h5 hn w hL
  · exact sdoes_long a l cap (by omega) w
end Go.Proofs.Ytdaodopeodheeaa
