/- The contract of the third chapter's answer: Octets. -/
import Derived.Test.YtdaodopeodheeaaRefF
import Derived.Test.YtdaodopeodheeaaOwn
namespace Go.Proofs.Ytdaodopeodheeaa
open Go.RowKit

def RowB (w : World) (base : Nat) (v : Value) (L : List (BitVec 8)) : Prop := w.ownsRow base 5 1 v L.length (byteCells L)
theorem octs_getElem (p : BitVec 64 × BitVec 64) (m : Nat) (h : m < (octs p).length) : (octs p)[m] = octAt p m := by simp [octs]
theorem octs_take_succ (p : BitVec 64 × BitVec 64) (m : Nat) (h : m < 16) : (octs p).take (m + 1) = (octs p).take m ++ [octAt p m] := by
  rw [List.take_succ_eq_append_getElem (by rw [octs_length]; exact h), octs_getElem]
theorem byte_of (n : BitVec 64) : (U n).tmod 256 % 256 = B (n.setWidth 8) := by
  have h0 : 0 ≤ U n := Int.natCast_nonneg _
  rw [Int.tmod_eq_emod_of_nonneg h0, ← w_u8, IntKind.wrap_u8]
  omega
theorem shr8 (n : BitVec 64) : (U n).tdiv 256 = U (n >>> 8) := by
  have h0 : 0 ≤ U n := Int.natCast_nonneg _
  rw [Int.tdiv_eq_ediv_of_nonneg h0]
  exact w_shr n 8
theorem wrapUU (n : BitVec 64) : IntKind.u64.wrap (U n) = U n := by
  rw [wrapU]
  congr 1
  unfold U
  simp
theorem shr_succ (z : BitVec 64) (k : Nat) : (z >>> (k * 8)) >>> 8 = z >>> ((k + 1) * 8) := by rw [← BitVec.shiftRight_add]; congr 1; omega
theorem octAt_x (x y : BitVec 64) (k : Nat) (h : k < 8) : octAt (x, y) (8 * 0 + k) = (x >>> (k * 8)).setWidth 8 := by unfold octAt; rw [if_pos (by omega)]; congr 2; omega
theorem octAt_y (x y : BitVec 64) (k : Nat) : octAt (x, y) (8 * 1 + k) = (y >>> (k * 8)).setWidth 8 := by unfold octAt; rw [if_neg (by omega)]; congr 2; omega
theorem RowB.push {w : World} {base : Nat} {v : Value} {L : List (BitVec 8)} {c : BitVec 8} (h : w.ownsRow base 5 1 v (L.length + 1) (byteCells L ++ [.int .u8 (B c)])) : RowB w base v (L ++ [c]) := by
  unfold RowB
  have e : byteCells (L ++ [c]) = byteCells L ++ [.int .u8 (B c)] := by simp [byteCells]
  rw [e, List.length_append]
  exact h
theorem cell_one_at (w : World) (u : Value) (t : TypeId) : ∀ (j : Nat) (x : Value), [u][j]? = some x → (w.alloc (.cells #[u] t)).cell? ((⟨w.heap.size, 0, none⟩ : Addr).add j) = some x := by
  intro j x hx
  match j, hx with
  | 0, hx =>
    cases hx
    have hadd : (⟨w.heap.size, 0, none⟩ : Addr).add 0 = ⟨w.heap.size, 0, none⟩ := by unfold Addr.add; split <;> simp_all
    rw [hadd]
    simp
set_option maxRecDepth 100000 in
set_option maxHeartbeats 4000000 in
theorem rocts_row (x y : BitVec 64) (w : World) :
    Calls Try.prog 29 #[.agg #[.int .u64 (U x), .int .u64 (U y)]] w fun e w' => ∃ v, e = .returned v ∧ RowB w' w.heap.size v (octs (x, y)) ∧ Below w.heap.size w w' := by
  obtain ⟨i0, hi, hz0, hz1, hz2⟩ := info_parts info_u8
  have ix : ∀ w, (Instr.index 24 (.agg #[.int .u64 (U x), .int .u64 (U y)]) (.int .i64 0)).run Try.prog w = .ok (.int .u64 (U x)) w := fun _ => by kernel_rfl
  have iy : ∀ w, (Instr.index 24 (.agg #[.int .u64 (U x), .int .u64 (U y)]) (.int .i64 1)).run Try.prog w = .ok (.int .u64 (U y)) w := fun _ => by kernel_rfl
  go_enter Try.func29, Try.ntmps29
  go_wp2_with fail
  go_loopw [3, 7] (fun v j wr => ∃ (i : Nat) (L : List (BitVec 8)), i ≤ 2 ∧ j = .int .i64 (i : Int) ∧ Hid (L = (octs (x, y)).take (8 * i)) ∧ Hid (RowB wr w.heap.size v L) ∧ Hid (Below w.heap.size w wr)) (fun _ j _ => 2 - (intOf j).toNat)
  case atStart => exact ⟨0, [], by omega, rfl, rfl, World.ownsRow_nil _ _ _ _, (Below.refl _ _).alloc (Nat.le_refl _) _⟩
  case round =>
    obtain ⟨i, L, hi2, rfl, hL, hR, hB⟩ := hrel
    by_cases h0 : i = 0
    · subst h0
      rw [show ((0 : Nat) : Int) = 0 from rfl]
      go_wp2_with fail
      go_loopw [3, 5, 10] (fun v n j wq => ∃ (k : Nat) (S : List (BitVec 8)), k ≤ 8 ∧ j = .int .i64 (k : Int) ∧ n = .int .u64 (U (x >>> (k * 8))) ∧ Hid (S = (octs (x, y)).take (8 * 0 + k)) ∧ Hid (RowB wq w.heap.size v S) ∧ Hid (Below w.heap.size w wq)) (fun _ _ j _ => 8 - (intOf j).toNat)
      case atStart => exact ⟨0, L, by omega, rfl, by simp, hL, hR, hB⟩
      case round =>
        clear hL hR hB
        obtain ⟨k, S, hk, rfl, rfl, hS, hR, hB⟩ := hrel
        by_cases hlt : k < 8
        · have hS1 : Hid (S ++ [(x >>> (k * 8)).setWidth 8] = (octs (x, y)).take (8 * 0 + (k + 1))) := mkHid (by rw [← Nat.add_assoc, octs_take_succ _ _ (by omega), octAt_x x y k hlt, hS.out])
          have hSl : S.length ≤ 16 := by rw [hS.out, List.length_take]; omega
          have hsh := shr_succ x k
          have e3 : IntKind.u64.wrap (U (x >>> ((k + 1) * 8))) = U (x >>> ((k + 1) * 8)) := wrapUU _
          clear hS
          generalize x >>> (k * 8) = nv at *
          have e1 := byte_of nv
          have e2 := (shr8 nv).trans (congrArg U hsh)
          clear hsh
          generalize nv.setWidth 8 = cc at *
          go_wp2_with (at_builtin; refine wpList_append_own _ rfl _ _ 25 rfl w.heap.size 5 i0 (.int .u8 0) 1 1 Try.underlying25 hi hz0 hz1 hz2 rfl (by decide) _ _ _ rfl (World.ownsRow.alloc hR.out _) ⟨_, 0, none⟩ 1 1 [.int .u8 (B cc)] rfl rfl (cell_one_at _ _ _) (by simp [Value.oneCell']) (by unfold maxLen; omega) (by omega) (by have := hB.out.size; simp; omega) ?_; intro v2 w2 hown hgrow hnil)
          have HR2 := mkHid (RowB.push hown)
          have HB2 := mkHid ((hB.out.alloc hB.out.size (.cells #[.int .u8 (B cc)] 5)).grown hgrow (by have := hB.out.size; simp; omega) fun k e => (World.ownsRow.lt hR.out k e).1)
          clear hown hgrow hnil hR hB
          go_wp2_with fail
          go_roundw
          case rel => exact ⟨k + 1, _, by omega, by go_num, rfl, hS1, HR2, HB2⟩
          case measure => simp [intOf]; omega
        · obtain rfl : k = 8 := by omega
          go_wp2_with fail
          go_roundw
          case rel => exact ⟨0 + 1, S, by omega, by go_num, hS, hR, hB⟩
          case measure => simp [intOf]
    · by_cases h1 : i = 1
      · subst h1
        rw [show ((1 : Nat) : Int) = 1 from rfl]
        go_wp2_with fail
        go_loopw [3, 5, 10] (fun v n j wq => ∃ (k : Nat) (S : List (BitVec 8)), k ≤ 8 ∧ j = .int .i64 (k : Int) ∧ n = .int .u64 (U (y >>> (k * 8))) ∧ Hid (S = (octs (x, y)).take (8 * 1 + k)) ∧ Hid (RowB wq w.heap.size v S) ∧ Hid (Below w.heap.size w wq)) (fun _ _ j _ => 8 - (intOf j).toNat)
        case atStart => exact ⟨0, L, by omega, rfl, by simp, hL, hR, hB⟩
        case round =>
          clear hL hR hB
          obtain ⟨k, S, hk, rfl, rfl, hS, hR, hB⟩ := hrel
          by_cases hlt : k < 8
          · have hS1 : Hid (S ++ [(y >>> (k * 8)).setWidth 8] = (octs (x, y)).take (8 * 1 + (k + 1))) := mkHid (by rw [← Nat.add_assoc, octs_take_succ _ _ (by omega), octAt_y x y k, hS.out])
            have hSl : S.length ≤ 16 := by rw [hS.out, List.length_take]; omega
            have hsh := shr_succ y k
            have e3 : IntKind.u64.wrap (U (y >>> ((k + 1) * 8))) = U (y >>> ((k + 1) * 8)) := wrapUU _
            clear hS
            generalize y >>> (k * 8) = nv at *
            have e1 := byte_of nv
            have e2 := (shr8 nv).trans (congrArg U hsh)
            clear hsh
            generalize nv.setWidth 8 = cc at *
            go_wp2_with (at_builtin; refine wpList_append_own _ rfl _ _ 25 rfl w.heap.size 5 i0 (.int .u8 0) 1 1 Try.underlying25 hi hz0 hz1 hz2 rfl (by decide) _ _ _ rfl (World.ownsRow.alloc hR.out _) ⟨_, 0, none⟩ 1 1 [.int .u8 (B cc)] rfl rfl (cell_one_at _ _ _) (by simp [Value.oneCell']) (by unfold maxLen; omega) (by omega) (by have := hB.out.size; simp; omega) ?_; intro v2 w2 hown hgrow hnil)
            have HR2 := mkHid (RowB.push hown)
            have HB2 := mkHid ((hB.out.alloc hB.out.size (.cells #[.int .u8 (B cc)] 5)).grown hgrow (by have := hB.out.size; simp; omega) fun k e => (World.ownsRow.lt hR.out k e).1)
            clear hown hgrow hnil hR hB
            go_wp2_with fail
            go_roundw
            case rel => exact ⟨k + 1, _, by omega, by go_num, rfl, hS1, HR2, HB2⟩
            case measure => simp [intOf]; omega
          · obtain rfl : k = 8 := by omega
            go_wp2_with fail
            go_roundw
            case rel => exact ⟨1 + 1, S, by omega, by go_num, hS, hR, hB⟩
            case measure => simp [intOf]
      · obtain rfl : i = 2 := by omega
        have hL2 : L = octs (x, y) := by rw [hL.out]; exact List.take_of_length_le (by rw [octs_length]; decide)
        subst hL2
        go_wp2_with fail
        go_ret
        exact ⟨_, rfl, hR.out, hB.out⟩
theorem rocts_any (x y : BitVec 64) (w : World) :
    Calls Try.prog 29 #[.agg #[.int .u64 (U x), .int .u64 (U y)]] w fun e w' => ∃ g cp, 16 ≤ cp ∧ cp ≤ maxLen ∧ e = .returned (.slice (some ⟨g, 0, none⟩) 16 cp) ∧ RowB w' w.heap.size (.slice (some ⟨g, 0, none⟩) 16 cp) (octs (x, y)) ∧ Bytes w' (some ⟨g, 0, none⟩) (octs (x, y)) ∧ Below w.heap.size w w' := by
  refine (rocts_row x y w).mono ?_
  rintro e w' ⟨v, rfl, hR, hb⟩
  unfold RowB at hR
  rw [octs_length] at hR
  obtain ⟨g, cp, rfl, h1, h2⟩ := ownsRow_pos hR (by decide)
  refine ⟨g, cp, h1, h2, rfl, ?_, Bytes.of_row hR, hb⟩
  unfold RowB
  rw [octs_length]
  exact hR
end Go.Proofs.Ytdaodopeodheeaa
