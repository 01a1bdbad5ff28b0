/- The contracts of mix: rotation, rounds. -/
import Derived.Test.YtdaodopeodheeaaRows
import Derived.Test.YtdaodopeodheeaaMixP
import Derived.WalkKit
import Derived.WalkSpells
import Derived.WalkLawsBesides
import Derived.Deep.QuietTactic
import Derived.BigQuiet

namespace Go.Proofs.Ytdaodopeodheeaa
open Go.RowKit

theorem mkHid {p : Prop} (h : p) : Hid p := h
theorem ret_int {k : IntKind} {a b : Int} (h : a = b) : Ending.returned (.int k a) = .returned (.int k b) := by rw [h]

set_option maxHeartbeats 400000 in
theorem rot13 (x : BitVec 64) (w : World) :
    Calls Try.prog 43 #[.int .u64 (U x), .int .i64 13] w fun e w' => e = .returned (.int .u64 (U (rotl 13 x))) ∧ w = w' := by
  have hb : bits BinOp.and IntKind.u64 13 63 = 13 := by decide
  have hlo := U_lo x
  go_enter Try.func43, Try.ntmps43
  go_wp2
  go_ret
  exact ⟨ret_int (w_rot x 13 _ _ rfl rfl), rfl⟩
set_option maxHeartbeats 400000 in
theorem rot29 (x : BitVec 64) (w : World) :
    Calls Try.prog 43 #[.int .u64 (U x), .int .i64 29] w fun e w' => e = .returned (.int .u64 (U (rotl 29 x))) ∧ w = w' := by
  have hb : bits BinOp.and IntKind.u64 29 63 = 29 := by decide
  have hlo := U_lo x
  go_enter Try.func43, Try.ntmps43
  go_wp2
  go_ret
  exact ⟨ret_int (w_rot x 29 _ _ rfl rfl), rfl⟩
set_option maxHeartbeats 400000 in
theorem rot51 (x : BitVec 64) (w : World) :
    Calls Try.prog 43 #[.int .u64 (U x), .int .i64 (-13)] w fun e w' => e = .returned (.int .u64 (U (rotl 51 x))) ∧ w = w' := by
  have hb : bits BinOp.and IntKind.u64 (IntKind.u64.wrap (-13)) 63 = 51 := by decide
  have hlo := U_lo x
  go_enter Try.func43, Try.ntmps43
  go_wp2
  go_ret
  exact ⟨ret_int (w_rot x 51 _ _ rfl rfl), rfl⟩
set_option maxHeartbeats 400000 in
theorem rot35 (x : BitVec 64) (w : World) :
    Calls Try.prog 43 #[.int .u64 (U x), .int .i64 (-29)] w fun e w' => e = .returned (.int .u64 (U (rotl 35 x))) ∧ w = w' := by
  have hb : bits BinOp.and IntKind.u64 (IntKind.u64.wrap (-29)) 63 = 35 := by decide
  have hlo := U_lo x
  go_enter Try.func43, Try.ntmps43
  go_wp2
  go_ret
  exact ⟨ret_int (w_rot x 35 _ _ rfl rfl), rfl⟩

theorem bcell {W w1 : World} (hb : Below W.heap.size W w1) : (∀ b o, b < W.heap.size → w1.cell? ⟨b, o, none⟩ = W.cell? ⟨b, o, none⟩) ∧ (∀ b o, b < W.heap.size → w1.frozen? ⟨b, o, none⟩ = W.frozen? ⟨b, o, none⟩) :=
  ⟨fun b o h => hb.cell (p := ⟨b, o, none⟩) h, fun b o h => hb.frozen (p := ⟨b, o, none⟩) h⟩

set_option maxRecDepth 100000 in
set_option maxHeartbeats 400000 in
theorem mix_any (x y : BitVec 64) (w : World) :
    Calls Try.prog 24 #[.agg #[.int .u64 (U x), .int .u64 (U y)]] w fun e w' =>
      e = .returned (.agg #[.int .u64 (U (mixTo 8 (x, y)).1), .int .u64 (U (mixTo 8 (x, y)).2)]) ∧ Below w.heap.size w w' := by
  go_enter Try.func24, Try.ntmps24
  go_wp2_with fail
  go_quiet (fail)
  go_wp2_with fail
  go_loop [3, 4, 10] (fun a b i => ∃ k : Nat, k ≤ 8 ∧ i = .int .u64 (k : Int) ∧ a = .int .u64 (U (mixTo k (x, y)).1) ∧ b = .int .u64 (U (mixTo k (x, y)).2)) (fun _ _ i => 8 - (intOf i).toNat)
  case atStart => exact ⟨0, by omega, rfl, by rw [mixTo_zero], by rw [mixTo_zero]⟩
  case round =>
    obtain ⟨k, hk, rfl, rfl, rfl⟩ := hrel
    have HS := mkHid (mixTo_succ k (x, y))
    generalize hp : mixTo k (x, y) = p at *
    have HP := mkHid hp
    clear hp
    obtain ⟨a, b⟩ := p
    have h1 := w_add a b
    obtain ⟨g, hg, h2⟩ : ∃ g : BitVec 64, Hid (BitVec.ofNat 64 k * goldC = g) ∧ IntKind.u64.wrap ((k : Int) * 11400714819323198485) = U g := ⟨_, mkHid rfl, w_gold k⟩
    have h3 := w_add (a + b) g
    have h4 := w_xor b (rotl 13 (a + b + g))
    have h5 := w_xor (rotl 13 (a + b + g)) (rotl 29 (b ^^^ rotl 13 (a + b + g)))
    by_cases hlt : k < 8
    · go_wp2_with fail
      refine (rot13 _ _).mono ?_
      rintro e w' ⟨rfl, rfl⟩
      go_wp2_with fail
      refine (rot29 _ _).mono ?_
      rintro e w' ⟨rfl, rfl⟩
      go_wp2_with fail
      go_round
      case rel => exact ⟨k + 1, by omega, by go_num, by rw [HS.out]; unfold rnd; rw [hg.out], by rw [HS.out]; unfold rnd; rw [hg.out]⟩
      case measure => simp [intOf]; omega
    · obtain rfl : k = 8 := by omega
      go_wp2_with fail
      refine bodyPost_ret (v := .agg #[.int .u64 (U a), .int .u64 (U b)]) (by simp [results, Try.results24, go_sem]) rfl ⟨by rw [HP.out], ?_⟩
      exact ((below_drewN (((Below.refl _ _).alloc (Nat.le_refl _) _).alloc (by simp) _) _).setCell (by simp) _).setCell (by simp) _

set_option maxRecDepth 100000 in
set_option maxHeartbeats 400000 in
theorem unmix_any (x y : BitVec 64) (w : World) :
    Calls Try.prog 23 #[.agg #[.int .u64 (U x), .int .u64 (U y)]] w fun e w' =>
      e = .returned (.agg #[.int .u64 (U (unmixFrom 8 (x, y)).1), .int .u64 (U (unmixFrom 8 (x, y)).2)]) ∧ Below w.heap.size w w' := by
  go_enter Try.func23, Try.ntmps23
  go_wp2_with fail
  go_quiet (fail)
  go_wp2_with fail
  go_loop [3, 4, 5] (fun a b i => ∃ (k : Nat) (p : BitVec 64 × BitVec 64), k ≤ 8 ∧ i = .int .u64 (k : Int) ∧ a = .int .u64 (U p.1) ∧ b = .int .u64 (U p.2) ∧ unmixFrom k p = unmixFrom 8 (x, y)) (fun _ _ i => (intOf i).toNat)
  case atStart => exact ⟨8, (x, y), by omega, rfl, rfl, rfl, rfl⟩
  case round =>
    obtain ⟨k, ⟨a, b⟩, hk, rfl, rfl, rfl, hu⟩ := hrel
    have HU := mkHid hu
    clear hu
    dsimp only
    have h1 := w_xor a b
    have h2 := w_xor (rotl 35 b) (a ^^^ b)
    by_cases hlt : 0 < k
    · obtain ⟨j, rfl⟩ : ∃ j, k = j + 1 := ⟨k - 1, by omega⟩
      obtain ⟨g, hg, h3⟩ : ∃ g : BitVec 64, Hid (BitVec.ofNat 64 j * goldC = g) ∧ IntKind.u64.wrap ((j : Int) * 11400714819323198485) = U g := ⟨_, mkHid rfl, w_gold j⟩
      have h4 := w_sub (rotl 51 (a ^^^ b)) (rotl 35 b ^^^ (a ^^^ b))
      have h5 := w_sub (rotl 51 (a ^^^ b) - (rotl 35 b ^^^ (a ^^^ b))) g
      go_wp2_with fail
      refine (rot35 _ _).mono ?_
      rintro e w' ⟨rfl, rfl⟩
      go_wp2_with fail
      refine (rot51 _ _).mono ?_
      rintro e w' ⟨rfl, rfl⟩
      go_wp2_with fail
      go_round
      case rel => exact ⟨j, unrnd j (a, b), by omega, by go_num, by unfold unrnd; rw [hg.out], rfl, by rw [← HU.out, unmixFrom_succ]⟩
      case measure => simp [intOf]
    · obtain rfl : k = 0 := by omega
      rw [unmixFrom_zero] at HU
      go_wp2_with fail
      refine bodyPost_ret (v := .agg #[.int .u64 (U a), .int .u64 (U b)]) (by simp [results, Try.results23, go_sem]) rfl ⟨by rw [← HU.out], ?_⟩
      exact ((below_drewN (((Below.refl _ _).alloc (Nat.le_refl _) _).alloc (by simp) _) _).setCell (by simp) _).setCell (by simp) _

set_option maxRecDepth 100000 in
set_option maxHeartbeats 400000 in
theorem xor_any {v0 v1 u0 u1 : Int} {x0 x1 y0 y1 : BitVec 64} (e0 : v0 = U x0) (e1 : v1 = U x1) (f0 : u0 = U y0) (f1 : u1 = U y1) (w : World) :
    Calls Try.prog 18 #[.agg #[.int .u64 v0, .int .u64 v1], .agg #[.int .u64 u0, .int .u64 u1]] w fun e w' =>
      e = .returned (.agg #[.int .u64 (U (x0 ^^^ y0)), .int .u64 (U (x1 ^^^ y1))]) ∧ Below w.heap.size w w' := by
  subst e0 e1 f0 f1
  have h1 := w_xor x0 y0
  have h2 := w_xor x1 y1
  have i0 : ∀ w : World, (Instr.index 24 (.agg #[.int .u64 (U y0), .int .u64 (U y1)]) (.int .i64 0)).run Try.prog w = .ok (.int .u64 (U y0)) w := fun _ => by kernel_rfl
  have i1 : ∀ w : World, (Instr.index 24 (.agg #[.int .u64 (U y0), .int .u64 (U y1)]) (.int .i64 1)).run Try.prog w = .ok (.int .u64 (U y1)) w := fun _ => by kernel_rfl
  go_enter Try.func18, Try.ntmps18
  go_wp2
  refine wp_loop_rounds 3 ?_
  rw [rounds_succ]
  go_wp2
  rw [rounds_succ]
  go_wp2
  rw [rounds_succ]
  go_wp2
  refine bodyPost_ret (v := .agg #[.int .u64 (U (x0 ^^^ y0)), .int .u64 (U (x1 ^^^ y1))]) (by simp [results, Try.results18, go_sem]) rfl ⟨rfl, ?_⟩
  exact (((Below.refl _ _).alloc (Nat.le_refl _) _).alloc (by simp) _).alloc (by simp; omega) _

/-- Xor, its answer under whatever names it has. -/
theorem xor_to {v0 v1 u0 u1 r0 r1 : Int} {x0 x1 y0 y1 : BitVec 64} (e0 : v0 = U x0) (e1 : v1 = U x1) (f0 : u0 = U y0) (f1 : u1 = U y1) (h0 : U (x0 ^^^ y0) = r0) (h1 : U (x1 ^^^ y1) = r1) (w : World) :
    Calls Try.prog 18 #[.agg #[.int .u64 v0, .int .u64 v1], .agg #[.int .u64 u0, .int .u64 u1]] w fun e w' =>
      e = .returned (.agg #[.int .u64 r0, .int .u64 r1]) ∧ Below w.heap.size w w' := by
  subst h0 h1; exact xor_any e0 e1 f0 f1 w
end Go.Proofs.Ytdaodopeodheeaa
