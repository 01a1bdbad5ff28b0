/- The contracts of the third chapter's answer: number, Of. -/
import Derived.Test.YtdaodopeodheeaaRefA
import Derived.Test.YtdaodopeodheeaaNum
import Derived.Test.YtdaodopeodheeaaStr
namespace Go.Proofs.Ytdaodopeodheeaa
open Go.RowKit

set_option maxRecDepth 100000 in
set_option maxHeartbeats 1000000 in
theorem number_eq {l : List (BitVec 8)} {q : BitVec 64} (h : Hid (num l = q)) {m : Nat} (hm : m = l.length) (hl : l.length ≤ 100) (a : Option Addr) (cap : Nat) (w : World) (hB : Bytes w a l) :
    Calls Try.prog 42 #[.slice a m cap] w fun e w' => e = .returned (.int .u64 (U q)) ∧ w' = w := by
  subst hm
  have HB := mkHid hB
  clear hB
  have H0 : Hid (num (l.drop l.length) = 0#64) := mkHid (num_end l)
  go_enter Try.func42, Try.ntmps42
  go_wp2_with fail
  go_loop [3, 4] (fun n i => ∃ (k : Nat) (p : BitVec 64), k ≤ l.length ∧ i = .int .i64 ((k : Int) - 1) ∧ n = .int .u64 (U p) ∧ Hid (num (l.drop k) = p)) (fun _ i => (intOf i + 1).toNat)
  case atStart => exact ⟨l.length, 0#64, Nat.le_refl _, rfl, rfl, H0⟩
  case round =>
    obtain ⟨k, p, hk, rfl, rfl, hp⟩ := hrel
    cases k with
    | zero =>
      obtain rfl : p = q := by rw [← hp.out, ← h.out]; rfl
      go_wp2_with fail
      go_ret
      exact ⟨rfl, rfl⟩
    | succ j =>
      have hc0 : ∃ b off, a = some ⟨b, off, none⟩ ∧ w.cell? ⟨b, off + j, none⟩ = some (.int .u8 (B (l.getD j 0))) := by
        rcases HB.out with e | ⟨b, off, e, hc⟩
        · exact absurd hk (by rw [e]; simp)
        · exact ⟨b, off, e, hc j (by omega)⟩
      obtain ⟨b, off, rfl, hc⟩ := hc0
      have hs : num (l.drop j) = 256#64 * p + (l.getD j 0).setWidth 64 := by rw [num_drop l j (by omega), hp.out]
      generalize l.getD j 0 = c at *
      obtain ⟨g, hg⟩ : ∃ g, 256#64 * p = g := ⟨_, rfl⟩
      obtain ⟨d, hd⟩ : ∃ d : BitVec 64, c.setWidth 64 = d := ⟨_, rfl⟩
      have e1 := w_256 p
      have e2 := w_B64 c
      rw [hg] at e1 hs
      rw [hd] at e2 hs
      have e3 := w_add g d
      have HS := mkHid hs
      have ej : ((j + 1 : Nat) : Int) - 1 = (j : Int) := by omega
      clear hs hg hd hp HB H0
      rw [ej]
      go_wp2_with fail
      go_round
      case rel => exact ⟨j, _, by omega, rfl, rfl, HS⟩
      case measure => simp [intOf]
theorem Bytes.take8 {w : World} {b off : Nat} {l : List (BitVec 8)} (hc : ∀ i, i < l.length → w.cell? ⟨b, off + i, none⟩ = some (.int .u8 (B (l.getD i 0)))) : Bytes w (some ⟨b, off, none⟩) (l.take 8) :=
  .inr ⟨b, off, rfl, fun i hi => by
    have hi' : i < 8 ∧ i < l.length := by simp at hi; omega
    rw [hc i hi'.2]
    simp [List.getD, hi'.1]⟩
theorem Bytes.drop8 {w : World} {b off : Nat} {l : List (BitVec 8)} (hc : ∀ i, i < l.length → w.cell? ⟨b, off + i, none⟩ = some (.int .u8 (B (l.getD i 0)))) : Bytes w (some ⟨b, off + 8, none⟩) (l.drop 8) :=
  .inr ⟨b, off + 8, rfl, fun i hi => by
    have hi' : 8 + i < l.length := by simp at hi; omega
    rw [Nat.add_assoc, hc (8 + i) hi']
    simp [List.getD]⟩
end Go.Proofs.Ytdaodopeodheeaa
