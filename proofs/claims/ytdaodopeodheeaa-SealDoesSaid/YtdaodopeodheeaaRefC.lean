/- The contracts of the third chapter's answer: Of. -/
import Derived.Test.YtdaodopeodheeaaRefB
namespace Go.Proofs.Ytdaodopeodheeaa
open Go.RowKit

set_option maxRecDepth 100000 in
set_option maxHeartbeats 400000 in
theorem rof_not (a : Option Addr) (n cap : Nat) (w : World) (hn : ((n : Int) != 16) = true) :
    Calls Try.prog 21 #[.slice a n cap] w fun e w' => e = .returned (.tuple #[.agg #[.int .u64 0, .int .u64 0], .int .i64 2]) ∧ Below w.heap.size w w' := by
  go_enter Try.func21, Try.ntmps21
  go_wp2_with fail
  refine bodyPost_ret (v := .tuple #[.agg #[.int .u64 0, .int .u64 0], .int .i64 2]) (by simp [results, Try.results21, go_sem]) rfl ⟨rfl, ?_⟩
  exact (Below.refl _ _).alloc (Nat.le_refl _) _
set_option maxRecDepth 100000 in
set_option maxHeartbeats 2000000 in
theorem rof_some {l : List (BitVec 8)} {p q : BitVec 64} (h0 : Hid (num (l.take 8) = p)) (h1 : Hid (num (l.drop 8) = q)) (hl : l.length = 16) (b off cap : Nat) (hcap : 16 ≤ cap) (w : World) (hc : ∀ i, i < l.length → w.cell? ⟨b, off + i, none⟩ = some (.int .u8 (B (l.getD i 0)))) :
    Calls Try.prog 21 #[.slice (some ⟨b, off, none⟩) 16 cap] w fun e w' => e = .returned (.tuple #[.agg #[.int .u64 (U p), .int .u64 (U q)], .int .i64 0]) ∧ Below w.heap.size w w' := by
  have hc' : ∀ i, i < l.length → (w.alloc (.cells #[.int .u64 0, .int .u64 0] 24)).drew.cell? ⟨b, off + i, none⟩ = some (.int .u8 (B (l.getD i 0))) := fun i hi => keeps ((Below.refl _ _).alloc (Nat.le_refl _) _) (hc i hi)
  have hT := mkHid (Bytes.take8 hc')
  have hD := mkHid (Bytes.drop8 hc')
  have l8 : Hid (8 = (l.take 8).length) := mkHid (by simp; omega)
  have d8 : Hid (8 = (l.drop 8).length) := mkHid (by simp; omega)
  have l8' : Hid ((l.take 8).length ≤ 100) := mkHid (by rw [← l8.out]; decide)
  have d8' : Hid ((l.drop 8).length ≤ 100) := mkHid (by rw [← d8.out]; decide)
  have x1 : (8 : Int) ≤ (cap : Int) := by omega
  have x2 : ¬ cap = 8 := by omega
  clear hc hc' hl
  go_enter Try.func21, Try.ntmps21
  go_wp2_with fail
  go_region_with
    (first
      | (go_at_call 42; ((with_reducible refine (number_eq h0 l8.out l8'.out _ _ _ hT.out).mono ?_); rintro e w1 ⟨rfl, hw1⟩; obtain rfl := hw1.symm))
      | (go_at_call 42; ((with_reducible refine (number_eq h1 d8.out d8'.out _ _ _ hD.out).mono ?_); rintro e w1 ⟨rfl, hw1⟩; obtain rfl := hw1.symm)))
  all_goals go_wp2_with fail
  all_goals refine bodyPost_ret (v := .tuple #[.agg #[.int .u64 (U p), .int .u64 (U q)], .int .i64 0]) (by simp [results, Try.results21, go_sem]) rfl ⟨rfl, ?_⟩
  all_goals exact (by repeat' first | with_reducible exact Below.refl _ _ | with_reducible refine Below.drew ?_ | with_reducible refine Below.setCell ?_ ?_ _ | with_reducible refine Below.alloc ?_ ?_ _ | (dsimp only; omega) | (simp <;> fail) | (simp; omega))
theorem rof_yes {l : List (BitVec 8)} {p q : BitVec 64} (h : Hid (blockOf l = (p, q))) (hl : l.length = 16) {n : Nat} (hn : n = 16) (a : Option Addr) (cap : Nat) (hcap : 16 ≤ cap) (w : World) (hB : Bytes w a l) :
    Calls Try.prog 21 #[.slice a n cap] w fun e w' => e = .returned (.tuple #[.agg #[.int .u64 (U p), .int .u64 (U q)], .int .i64 0]) ∧ Below w.heap.size w w' := by
  subst hn
  have e := h.out
  rw [← two_nums] at e
  rcases hB with rfl | ⟨b, off, rfl, hc⟩
  · simp at hl
  · exact rof_some (mkHid (congrArg Prod.fst e)) (mkHid (congrArg Prod.snd e)) hl b off cap hcap w hc
end Go.Proofs.Ytdaodopeodheeaa
