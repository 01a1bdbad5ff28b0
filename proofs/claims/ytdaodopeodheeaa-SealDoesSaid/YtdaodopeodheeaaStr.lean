/- Octets as strings; small words for octets. -/
import Derived.Test.YtdaodopeodheeaaKit
import Derived.Laws.IdiomStrings
import Derived.Lib.BufferRead
namespace Go.Proofs.Ytdaodopeodheeaa
open Go.RowKit

def strOf (l : List (BitVec 8)) : ByteArray := ⟨(l.map fun x => UInt8.ofNat x.toNat).toArray⟩
theorem str_conv {w : World} {a : Option Addr} {l : List (BitVec 8)} {n : Nat} (hn : n = l.length) (cap : Nat) (h : Bytes w a l) :
    (convert 25 9 (.slice a n cap)).run Try.prog w = .ok (.string (strOf l)) w := by
  subst hn
  rcases h with rfl | ⟨b, off, rfl, hc⟩
  · cases a with
    | none => exact Go.Lib.run_convert_nil_bytes w 25 9 5 cap Try.underlying25 Try.underlying5 Try.underlying9
    | some a => exact run_convert_bytes_back w 25 9 5 a cap [] Try.underlying25 Try.underlying5 Try.underlying9 (fun j hj => by cases hj)
  · have h := run_convert_bytes_back (P := Try.prog) w 25 9 5 ⟨b, off, none⟩ cap (l.map fun x => UInt8.ofNat x.toNat) Try.underlying25 Try.underlying5 Try.underlying9 (fun j hj => by
      have hj' : j < l.length := by simpa using hj
      have hadd : (⟨b, off, none⟩ : Addr).add j = ⟨b, off + j, none⟩ := by unfold Addr.add; split <;> simp_all
      rw [hadd, hc j hj']
      have hx := (l.getD j 0).isLt
      simp [B, List.getD, List.getElem?_eq_getElem hj']
      done)
    rw [List.length_map] at h
    exact h
theorem w_xor8 (x y : BitVec 8) : bits BinOp.xor IntKind.u8 (B x) (B y) = B (x ^^^ y) := by
  show IntKind.u8.wrap ((BitVec.ofInt 8 (B x) ^^^ BitVec.ofInt 8 (B y)).toNat : Int) = _
  have e : ∀ z : BitVec 8, BitVec.ofInt 8 (B z) = z := fun z => by
    unfold B
    rw [BitVec.ofInt_natCast, BitVec.ofNat_toNat, BitVec.setWidth_eq]
  rw [e, e, IntKind.wrap_u8]
  unfold B
  have := (x ^^^ y).isLt
  omega
theorem of_eq {l : List (BitVec 8)} {p q : BitVec 64} (h : Hid (blockOf l = (p, q))) (hl : l.length = 16) {n : Nat} (hn : n = 16) (a : Option Addr) (cap : Nat) (w : World) (hB : Bytes w a l) :
    Calls Try.prog 20 #[.slice a n cap] w fun e w' => e = .returned (.tuple #[.agg #[.int .u64 (U p), .int .u64 (U q)], .int .i64 0]) ∧ Below w.heap.size w w' := by
  subst hn
  have c := of_yes hl a cap w hB
  have e : readTo 16 l = (p, q) := by rw [← h.out]; unfold blockOf; rw [hl]
  rw [e] at c
  exact c
theorem octTo_oct (k : Nat) (p : BitVec 64 × BitVec 64) (h : k < 16) : (octTo 16 p)[k]? = some (.int .u8 (B (octAt p k))) := by
  rw [octTo_all p k h, octs_getD p k h]
theorem str_octs {w : World} {g : Nat} {x y : BitVec 64} {l : List (BitVec 8)} (h : octs (x, y) = l) (cap : Nat) (hO : Blk w g 5 (octTo 16 (x, y))) :
    (convert 25 9 (.slice (some ⟨g, 0, none⟩) 16 cap)).run Try.prog w = .ok (.string (strOf l)) w := by
  rw [← h]
  exact str_conv (octs_length _).symm cap (Bytes.of_blk hO)
end Go.Proofs.Ytdaodopeodheeaa
