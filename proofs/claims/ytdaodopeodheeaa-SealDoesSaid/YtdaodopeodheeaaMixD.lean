/- The contracts of mix: Fold of any text; the chapter's example. -/
import Derived.Test.YtdaodopeodheeaaMixC
import Derived.Test.YtdaodopeodheeaaMixO
import Derived.ChangeKeysEq
namespace Go.Proofs.Ytdaodopeodheeaa
open Go.RowKit

theorem info_u64 : (Try.prog.info? 22).isSome = true := by kernel_rfl
theorem cells_u64 : Try.prog.cellsOf 22 = 1 := by kernel_rfl
theorem part0_u64 (a b : Int) (w : World) : (part 22 #[.int .u64 a, .int .u64 b] 0).run Try.prog w = .ok (.int .u64 a) w := by kernel_rfl
theorem part1_u64 (a b : Int) (w : World) : (part 22 #[.int .u64 a, .int .u64 b] 1).run Try.prog w = .ok (.int .u64 b) w := by kernel_rfl
/-- '==' on two blocks -/
theorem eq_blocks (a b c d : Int) (w : World) : (Op.equalIn 10000 24 (.agg #[.int .u64 a, .int .u64 b]) (.agg #[.int .u64 c, .int .u64 d])).run Try.prog w = .ok (a == c && b == d) w := by
  obtain ⟨i, hi⟩ := Option.isSome_iff_exists.1 info_u64
  rw [run_equalIn_array w 9999 _ _ Try.underlying24 hi, cells_u64]
  have e1 := run_equalIn_int w 9998 22 .u64 .u64 a c Try.underlying22
  have e2 := run_equalIn_int w 9998 22 .u64 .u64 b d Try.underlying22
  rw [show List.range 2 = [0, 1] from rfl]
  simp only [Op.eqItems, Sem.run_bind, Nat.zero_mul, Nat.one_mul, part0_u64, Result.andThen_ok, e1]
  cases (a == c)
  · simp
  · simp only [Bool.not_true, Bool.false_eq_true, if_false, Sem.run_bind, part1_u64, Result.andThen_ok, e2]
    cases (b == d) <;> simp

theorem foldB_nil (p : BitVec 64 × BitVec 64) : foldB [] p = p := by unfold foldB; exact foldTo_zero [] p

/-- Fold of any text that is not too long. -/
theorem fold_any {n : Nat} {l : List (BitVec 8)} (hn : n = l.length) {v0 v1 : Int} {x y : BitVec 64} (e0 : v0 = U x) (e1 : v1 = U y) (a : Option Addr) (cap : Nat) (w : World) (hl : l.length ≤ 65536) (hcap : n ≤ cap) (hB : Bytes w a l) :
    Calls Try.prog 17 #[.agg #[.int .u64 v0, .int .u64 v1], .slice a n cap] w fun e w' =>
      e = .returned (.tuple #[.agg #[.int .u64 (U (foldB l (x, y)).1), .int .u64 (U (foldB l (x, y)).2)], .int .i64 0]) ∧ Below w.heap.size w w' := by
  subst hn e0 e1
  rcases hB with rfl | ⟨b, off, rfl, hc⟩
  · rw [foldB_nil]; exact fold_nil _ _ a cap w
  · by_cases h0 : 0 < l.length
    · exact fold_some x y b off cap l w h0 hl hcap hc
    · obtain rfl : l = [] := List.length_eq_zero_iff.1 (by omega)
      rw [foldB_nil]; exact fold_nil _ _ _ cap w

set_option maxRecDepth 100000 in
set_option maxHeartbeats 400000 in
theorem live03 (w : World) : Calls Try.prog 16 #[] w fun e w' => e = .returned (.bool true) ∧ Below w.heap.size w w' := by
  have hq := eq_blocks
  go_enter Try.func16, Try.ntmps16
  go_wp2_with fail
  refine (fold_nil _ _ _ _ _).mono ?_
  rintro e w1 ⟨rfl, hb⟩
  go_wp2_with fail
  go_ret
  exact ⟨rfl, hb.trans ((Below.refl _ _).alloc (hb.size) _)⟩
end Go.Proofs.Ytdaodopeodheeaa
