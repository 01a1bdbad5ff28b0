/- Words for lists of whole numbers in memory. -/
import Derived.Test.YtmehbonjpmlmfaaBase
import Derived.Test.YtmehbonjpmlmfaaWMore
import Derived.LoopTactic
namespace Go.Proofs.Ytmehbonjpmlmfaa
open Go.RowKit Go.Proofs.YtmehbonjpmlmfaaW.PrintWords

theorem info_i64 : (Try.prog.info? 3).map (fun i => (i.zero, i.size, i.bytes)) = some (some (.int .i64 0), 1, 8) := by kernel_rfl
/-- a slice value that reads as a list of whole numbers -/
def ListAt (k : IntKind) (w : World) (v : Value) (l : List Int) : Prop := ∃ A c, v = .slice A l.length c ∧ l.length ≤ c ∧ (Kd.int k).C w A l.length l
theorem ListAt.of_R {k : IntKind} {e base : Nat} {ok : Nat → Prop} {w : World} {v : Value} {l : List Int} (h : (Kd.int k).R e w base ok v l) : ListAt k w v l := Kd.R_reads h
theorem ListAt.below {k : IntKind} {w w1 : World} {v : Value} {l : List Int} (h : ListAt k w v l) (hb : Below w.heap.size w w1) : ListAt k w1 v l := by
  obtain ⟨A, c, e, hl, hc⟩ := h
  exact ⟨A, c, e, hl, Kd.C_below hc hb⟩
theorem ListAt.nil (k : IntKind) (w : World) : ListAt k w (.slice none 0 0) [] := ListAt.of_R (Kd.R_nil (Kd.int k) 0 w 0 (fun _ => True))
theorem C_cell {k : IntKind} {w : World} {A : Option Addr} {n : Nat} {l : List Int} (h : (Kd.int k).C w A n l) (i : Nat) (hi : i < n) : ∃ ad, A = some ad ∧ w.cell? (ad.add i) = some (.int k (l.getD i 0)) := by
  obtain ⟨ad, c, e, _, hc, hr⟩ := Kd.C_get h 0 (i : Int) (by omega) (by omega)
  have hc' : c = [.int k (l.getD i 0)] := hc
  refine ⟨ad, e, ?_⟩
  have := hr 0 (.int k (l.getD i 0)) (by rw [hc']; rfl)
  simpa [Kd.int, Kd.scalar] using this
end Go.Proofs.Ytmehbonjpmlmfaa
