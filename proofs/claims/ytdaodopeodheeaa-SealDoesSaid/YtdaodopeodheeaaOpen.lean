/- Opening the arguments of a row: blocks, sealed blocks, octets. -/
import Derived.Test.YtdaodopeodheeaaMixD
import Derived.ProofKit
import Derived.OpenShut
import Derived.ShutString
import Derived.ChangeOld
import Derived.ChangeSame
import Derived.Below
import Derived.SizedLaws
import Derived.Lib.SmallJoins
namespace Go.Proofs.Ytdaodopeodheeaa
open Go.ChangeShapes Go.WideShapes Go.ChangeAt Go.RowKit

theorem own : ownKnob Try.prog.godebug = none := by kernel_rfl
theorem laidOut : laidOutB Try.prog = true := by kernel_rfl
theorem cells_block : Try.prog.cellsOf 24 = 2 := by kernel_rfl
theorem cells_u8 : Try.prog.cellsOf 5 = 1 := by kernel_rfl

theorem arr2 {α : Type} (cs : Array α) (h : cs.size = 2) : ∃ a b, cs = #[a, b] := by
  obtain ⟨l⟩ := cs
  match l, h with
  | [a, b], _ => exact ⟨a, b, rfl⟩
theorem arr4 {α : Type} (cs : Array α) (h : cs.size = 4) : ∃ a b c d, cs = #[a, b, c, d] := by
  obtain ⟨l⟩ := cs
  match l, h with
  | [a, b, c, d], _ => exact ⟨a, b, c, d, rfl⟩
section
variable {H : Type} {enc : TypeId × Value → H} {w : World} {r : Reach} {b0 base : Nat} {spare : Nat → Bool} {held : Bool}

theorem block_cells {fuel : Nat} {c0 c1 : Value} {x : DataW H × List MemPlace} (hf : DataW.trod enc Try.prog w base spare held fuel 24 [c0, c1] = some x) :
    ∃ x y : BitVec 64, c0 = .int .u64 (U x) ∧ c1 = .int .u64 (U y) := by
  obtain ⟨xs, m, _, _, _, hl, hi⟩ := DataW.trod_array Try.underlying24 hf
  have h0 := hi 0 (by omega)
  have h1 := hi 1 (by omega)
  rw [cells_u64] at h0 h1
  obtain ⟨y0, e0⟩ : ∃ y, xs[0]? = some y := ⟨xs[0], List.getElem?_eq_getElem (by omega)⟩
  obtain ⟨y1, e1⟩ : ∃ y, xs[1]? = some y := ⟨xs[1], List.getElem?_eq_getElem (by omega)⟩
  rw [e0] at h0; rw [e1] at h1
  obtain ⟨n0, q0, _, w0⟩ := DataW.trod_int Try.underlying22 h0
  obtain ⟨n1, q1, _, w1⟩ := DataW.trod_int Try.underlying22 h1
  simp at q0 q1
  obtain ⟨x, rfl⟩ := U_of n0 w0
  obtain ⟨y, rfl⟩ := U_of n1 w1
  exact ⟨x, y, q0, q1⟩

theorem open_block {v : Value} {d : DataW H} {p : List MemPlace} (hv : Value.okWide Try.prog w r b0 24 v) (h : DataW.Trod enc Try.prog w base spare held 24 v d p) :
    ∃ x y : BitVec 64, v = .agg #[.int .u64 (U x), .int .u64 (U y)] := by
  obtain ⟨cs, rfl, hsz, _⟩ : ∃ cs, v = .agg cs ∧ cs.size = Try.prog.cellsOf 24 ∧ Row.okWide Try.prog w r b0 24 cs := by
    simpa [Value.okWide, Try.underlying24] using hv
  rw [cells_block] at hsz
  obtain ⟨c0, c1, rfl⟩ := arr2 cs hsz
  obtain ⟨fuel, hf⟩ := h
  obtain ⟨x, y, rfl, rfl⟩ := block_cells hf
  exact ⟨x, y, rfl⟩

theorem open_bytes {v : Value} {d : DataW H} {p : List MemPlace} (hv : Value.okWide Try.prog w r b0 25 v) (h : DataW.Trod enc Try.prog w base (fun _ => true) held 25 v d p) :
    ∃ (a : Option Addr) (l : List (BitVec 8)) (cap : Nat), v = .slice a l.length cap ∧ l.length ≤ cap ∧ cap ≤ maxLen ∧ Bytes w a l ∧ (a = none → cap = 0) := by
  obtain ⟨a, len, cap, rfl⟩ := okWide_slice Try.underlying25 hv
  obtain ⟨fuel, hf⟩ := h
  rcases open_ints Try.underlying25 Try.underlying5 cells_u8 hf with ⟨hcs, _⟩ | ⟨x, l, c, zs, hcs, _, hl, hm, hz, _, hcell, hwz⟩
  · simp [Value.cells] at hcs
    obtain ⟨rfl, rfl, rfl⟩ := hcs
    exact ⟨none, [], 0, rfl, Nat.le_refl _, by unfold maxLen; omega, .inl rfl, fun _ => rfl⟩
  · simp [Value.cells] at hcs
    obtain ⟨rfl, rfl, rfl⟩ := hcs
    simp only [if_true] at hz
    have hlen : ((zs.take len).map (BitVec.ofInt 8)).length = len := by simp; omega
    refine ⟨some x, (zs.take len).map (BitVec.ofInt 8), cap, by rw [hlen], by omega, hm, ?_, fun h => by cases h⟩
    by_cases h0 : len = 0
    · subst h0; exact .inl rfl
    · right
      obtain ⟨b, off, spot⟩ := x
      have hc := hcell 0 (by omega)
      have hspot : spot = none := by simpa [Addr.add] using World.cell?_spot hc
      subst hspot
      refine ⟨b, off, rfl, fun i hi => ?_⟩
      rw [hlen] at hi
      have hci := hcell i (by omega)
      have hadd : (⟨b, off, none⟩ : Addr).add i = ⟨b, off + i, none⟩ := by unfold Addr.add; split <;> simp_all
      rw [hadd] at hci
      rw [hci]
      have hzi : zs.getD i 0 = zs[i]'(by omega) := by simp [List.getD, List.getElem?_eq_getElem (show i < zs.length by omega)]
      have hw := hwz _ (List.getElem_mem (show i < zs.length by omega))
      have hmin : IntKind.u8.min = 0 := rfl
      have hmax : IntKind.u8.max = 255 := rfl
      simp only [Lit.wf, Bool.and_eq_true, decide_eq_true_eq, hmin, hmax] at hw
      have hg : ((zs.take len).map (BitVec.ofInt 8)).getD i 0 = BitVec.ofInt 8 (zs[i]'(by omega)) := by
        simp [List.getD, hi, List.getElem?_eq_getElem (show i < zs.length by omega)]
      rw [hg, hzi]
      congr 2
      unfold B
      rw [BitVec.toNat_ofInt]
      omega
theorem cells_sealed : Try.prog.cellsOf 43 = 4 := by kernel_rfl
theorem open_sealed {v : Value} {d : DataW H} {p : List MemPlace} (hv : Value.okWide Try.prog w r b0 43 v) (h : DataW.Trod enc Try.prog w base spare held 43 v d p) :
    ∃ x y z u : BitVec 64, v = .agg #[.int .u64 (U x), .int .u64 (U y), .int .u64 (U z), .int .u64 (U u)] := by
  obtain ⟨cs, rfl, hsz⟩ := okWide_struct Try.underlying43 hv
  rw [cells_sealed] at hsz
  obtain ⟨c0, c1, c2, c3, rfl⟩ := arr4 cs hsz
  obtain ⟨fuel, hf⟩ := h
  obtain ⟨xs, n, _, _, _, _, hi⟩ := DataW.trod_struct Try.underlying43 hf
  obtain ⟨y0, y1, n, _, _, h0, h1⟩ := trod_struct2 Try.underlying43 hf
  dsimp only at h0 h1
  rw [cells_block] at h0 h1
  obtain ⟨x, y, rfl, rfl⟩ := block_cells h0
  obtain ⟨z, u, rfl, rfl⟩ := block_cells h1
  exact ⟨x, y, z, u, rfl⟩
end
end Go.Proofs.Ytdaodopeodheeaa
