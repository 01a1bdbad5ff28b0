/-
  No cell of these rows narrows 'for every input' (looked for: loops, veiled, ifaces, maps, wideKeys, modest, calm, conditions, laid).
  DERIVED. THE GIVEN ROWS OF THIS SEAT. 9 by the template 'for every input the law returns true; each argument reads behind the call as it read before'; 0 by the template 'total and deterministic' (their statements: YtmehbonjpmlmfaaTotals.lean).
  GIVEN WITH THE SEED: the statements are not yours to turn. If you find one false, say at which input.
  Laid BY PROGRAM, IN A SANDBOX (cutbox-rows.mjs): the forced cells as the released guide's own fill.sh prints them over the translation 897825baa73a30f4… (all of the seat's roots in one cut). By AI agents, Wed Nov 11 2026. No macro, syntax, notation, axiom, sorry.
-/
import Derived.Test.YtmehbonjpmlmfaaChecked
import GoSem.Claim
import GoSem.ClaimJoined
import GoSem.ClaimMapViews
import Derived.JoinedTies
import Derived.KernelRfl
namespace Go.Proofs.Ytmehbonjpmlmfaa
/- THE CELL 'sum', in the pinned program and in every row, IS THE sha256 OF THE DUMP (.gsa) THAT YtmehbonjpmlmfaaProg.lean LOADS. Nothing in Lean hashes anything: it is a label: what it is worth is what the hold of that sum in a sandbox is worth. -/
noncomputable def Try.pinned : Pinned := { name := "ytmehbonjpmlmfaa", sum := "897825baa73a30f4b9135e4c05cdc3e0735072680d53de01a67856270d98c67e", checked := Try.checked }
namespace Rows
def none {H : Type} : Left H := { results := [], args := [] }

/-- 'medlarlaw18.RollMap': WHATEVER THE INPUT: true; the input reads as it did. -/
def rollMapSpec : ChangeSpec := { name := "rollMap", fn := fun _ => fun
  | [d1, d2, d3] => { results := [.lit (.bool true)], args := [d1, d2, d3] }
  | _ => none }
def rollMapRow : OpenClaim := { program := "ytmehbonjpmlmfaa", sum := "897825baa73a30f4b9135e4c05cdc3e0735072680d53de01a67856270d98c67e", func := "medlar/medlarlaw18.RollMap", spec := "rollMap", inPlace := ["slices.overlaps[uint64]"], unfollowed := true, recurses := true, apart := false }
def RollMapSaid : Prop := rollMapRow.holds Try.pinned (OpenSpec.ofChange rollMapSpec)

/-- ITS FALSE NEIGHBOUR: 'it returns false'. Refute it at one input. -/
def rollMapWrong : ChangeSpec := { name := "rollMap", fn := fun _ => fun
  | [d1, d2, d3] => { results := [.lit (.bool false)], args := [d1, d2, d3] }
  | _ => none }
def RollMapWrongFalsely : Prop := rollMapRow.holds Try.pinned (OpenSpec.ofChange rollMapWrong)

/-- 'medlarlaw18.RollBack': WHATEVER THE INPUT: true; the input reads as it did. -/
def rollBackSpec : ChangeSpec := { name := "rollBack", fn := fun _ => fun
  | [d1, d2] => { results := [.lit (.bool true)], args := [d1, d2] }
  | _ => none }
def rollBackRow : OpenClaim := { program := "ytmehbonjpmlmfaa", sum := "897825baa73a30f4b9135e4c05cdc3e0735072680d53de01a67856270d98c67e", func := "medlar/medlarlaw18.RollBack", spec := "rollBack", inPlace := ["slices.overlaps[uint64]"], unfollowed := true, recurses := true, apart := false }
def RollBackSaid : Prop := rollBackRow.holds Try.pinned (OpenSpec.ofChange rollBackSpec)

/-- ITS FALSE NEIGHBOUR: 'it returns false'. Refute it at one input. -/
def rollBackWrong : ChangeSpec := { name := "rollBack", fn := fun _ => fun
  | [d1, d2] => { results := [.lit (.bool false)], args := [d1, d2] }
  | _ => none }
def RollBackWrongFalsely : Prop := rollBackRow.holds Try.pinned (OpenSpec.ofChange rollBackWrong)

/-- 'medlarlaw18.RollDoes': WHATEVER THE INPUT: true; the input reads as it did. -/
def rollDoesSpec : ChangeSpec := { name := "rollDoes", fn := fun _ => fun
  | [d1, d2, d3, d4, d5] => { results := [.lit (.bool true)], args := [d1, d2, d3, d4, d5] }
  | _ => none }
def rollDoesRow : OpenClaim := { program := "ytmehbonjpmlmfaa", sum := "897825baa73a30f4b9135e4c05cdc3e0735072680d53de01a67856270d98c67e", func := "medlar/medlarlaw18.RollDoes", spec := "rollDoes", inPlace := ["slices.overlaps[uint64]"], unfollowed := true, recurses := true, apart := false }
def RollDoesSaid : Prop := rollDoesRow.holds Try.pinned (OpenSpec.ofChange rollDoesSpec)

/-- ITS FALSE NEIGHBOUR: 'it returns false'. Refute it at one input. -/
def rollDoesWrong : ChangeSpec := { name := "rollDoes", fn := fun _ => fun
  | [d1, d2, d3, d4, d5] => { results := [.lit (.bool false)], args := [d1, d2, d3, d4, d5] }
  | _ => none }
def RollDoesWrongFalsely : Prop := rollDoesRow.holds Try.pinned (OpenSpec.ofChange rollDoesWrong)

/-- 'medlarlaw18.RollOrder': WHATEVER THE INPUT: true; the input reads as it did. -/
def rollOrderSpec : ChangeSpec := { name := "rollOrder", fn := fun _ => fun
  | [d1, d2, d3] => { results := [.lit (.bool true)], args := [d1, d2, d3] }
  | _ => none }
def rollOrderRow : OpenClaim := { program := "ytmehbonjpmlmfaa", sum := "897825baa73a30f4b9135e4c05cdc3e0735072680d53de01a67856270d98c67e", func := "medlar/medlarlaw18.RollOrder", spec := "rollOrder", inPlace := ["slices.overlaps[uint64]"], unfollowed := true, recurses := true, apart := false }
def RollOrderSaid : Prop := rollOrderRow.holds Try.pinned (OpenSpec.ofChange rollOrderSpec)

/-- ITS FALSE NEIGHBOUR: 'it returns false'. Refute it at one input. -/
def rollOrderWrong : ChangeSpec := { name := "rollOrder", fn := fun _ => fun
  | [d1, d2, d3] => { results := [.lit (.bool false)], args := [d1, d2, d3] }
  | _ => none }
def RollOrderWrongFalsely : Prop := rollOrderRow.holds Try.pinned (OpenSpec.ofChange rollOrderWrong)

/-- 'medlarlaw22.ModelOut': WHATEVER THE INPUT: true; the input reads as it did. -/
def modelOutSpec : ChangeSpec := { name := "modelOut", fn := fun _ => fun
  | [d1, d2, d3, d4, d5] => { results := [.lit (.bool true)], args := [d1, d2, d3, d4, d5] }
  | _ => none }
def modelOutRow : OpenClaim := { program := "ytmehbonjpmlmfaa", sum := "897825baa73a30f4b9135e4c05cdc3e0735072680d53de01a67856270d98c67e", func := "medlar/medlarlaw22.ModelOut", spec := "modelOut", inPlace := ["slices.overlaps[uint64]"], unfollowed := true, recurses := true, apart := false }
def ModelOutSaid : Prop := modelOutRow.holds Try.pinned (OpenSpec.ofChange modelOutSpec)

/-- ITS FALSE NEIGHBOUR: 'it returns false'. Refute it at one input. -/
def modelOutWrong : ChangeSpec := { name := "modelOut", fn := fun _ => fun
  | [d1, d2, d3, d4, d5] => { results := [.lit (.bool false)], args := [d1, d2, d3, d4, d5] }
  | _ => none }
def ModelOutWrongFalsely : Prop := modelOutRow.holds Try.pinned (OpenSpec.ofChange modelOutWrong)

/-- 'medlarlaw22.ModelCounts': WHATEVER THE INPUT: true; the input reads as it did. -/
def modelCountsSpec : ChangeSpec := { name := "modelCounts", fn := fun _ => fun
  | [d1, d2, d3, d4] => { results := [.lit (.bool true)], args := [d1, d2, d3, d4] }
  | _ => none }
def modelCountsRow : OpenClaim := { program := "ytmehbonjpmlmfaa", sum := "897825baa73a30f4b9135e4c05cdc3e0735072680d53de01a67856270d98c67e", func := "medlar/medlarlaw22.ModelCounts", spec := "modelCounts", inPlace := ["slices.overlaps[uint64]"], unfollowed := true, recurses := true, apart := false }
def ModelCountsSaid : Prop := modelCountsRow.holds Try.pinned (OpenSpec.ofChange modelCountsSpec)

/-- ITS FALSE NEIGHBOUR: 'it returns false'. Refute it at one input. -/
def modelCountsWrong : ChangeSpec := { name := "modelCounts", fn := fun _ => fun
  | [d1, d2, d3, d4] => { results := [.lit (.bool false)], args := [d1, d2, d3, d4] }
  | _ => none }
def ModelCountsWrongFalsely : Prop := modelCountsRow.holds Try.pinned (OpenSpec.ofChange modelCountsWrong)

/-- 'medlarlaw22.ModelDoes': WHATEVER THE INPUT: true; the input reads as it did. -/
def modelDoesSpec : ChangeSpec := { name := "modelDoes", fn := fun _ => fun
  | [d1, d2, d3, d4, d5, d6] => { results := [.lit (.bool true)], args := [d1, d2, d3, d4, d5, d6] }
  | _ => none }
def modelDoesRow : OpenClaim := { program := "ytmehbonjpmlmfaa", sum := "897825baa73a30f4b9135e4c05cdc3e0735072680d53de01a67856270d98c67e", func := "medlar/medlarlaw22.ModelDoes", spec := "modelDoes", inPlace := ["slices.overlaps[uint64]"], unfollowed := true, recurses := true, apart := false }
def ModelDoesSaid : Prop := modelDoesRow.holds Try.pinned (OpenSpec.ofChange modelDoesSpec)

/-- ITS FALSE NEIGHBOUR: 'it returns false'. Refute it at one input. -/
def modelDoesWrong : ChangeSpec := { name := "modelDoes", fn := fun _ => fun
  | [d1, d2, d3, d4, d5, d6] => { results := [.lit (.bool false)], args := [d1, d2, d3, d4, d5, d6] }
  | _ => none }
def ModelDoesWrongFalsely : Prop := modelDoesRow.holds Try.pinned (OpenSpec.ofChange modelDoesWrong)

/-- 'medlarlaw22.ModelReads': WHATEVER THE INPUT: true; the input reads as it did. -/
def modelReadsSpec : ChangeSpec := { name := "modelReads", fn := fun _ => fun
  | [d1, d2, d3] => { results := [.lit (.bool true)], args := [d1, d2, d3] }
  | _ => none }
def modelReadsRow : OpenClaim := { program := "ytmehbonjpmlmfaa", sum := "897825baa73a30f4b9135e4c05cdc3e0735072680d53de01a67856270d98c67e", func := "medlar/medlarlaw22.ModelReads", spec := "modelReads", inPlace := ["slices.overlaps[uint64]"], unfollowed := true, recurses := true, apart := false }
def ModelReadsSaid : Prop := modelReadsRow.holds Try.pinned (OpenSpec.ofChange modelReadsSpec)

/-- ITS FALSE NEIGHBOUR: 'it returns false'. Refute it at one input. -/
def modelReadsWrong : ChangeSpec := { name := "modelReads", fn := fun _ => fun
  | [d1, d2, d3] => { results := [.lit (.bool false)], args := [d1, d2, d3] }
  | _ => none }
def ModelReadsWrongFalsely : Prop := modelReadsRow.holds Try.pinned (OpenSpec.ofChange modelReadsWrong)

/-- 'medlarlaw22.ModelRoll': WHATEVER THE INPUT: true; the input reads as it did. -/
def modelRollSpec : ChangeSpec := { name := "modelRoll", fn := fun _ => fun
  | [d1, d2, d3, d4] => { results := [.lit (.bool true)], args := [d1, d2, d3, d4] }
  | _ => none }
def modelRollRow : OpenClaim := { program := "ytmehbonjpmlmfaa", sum := "897825baa73a30f4b9135e4c05cdc3e0735072680d53de01a67856270d98c67e", func := "medlar/medlarlaw22.ModelRoll", spec := "modelRoll", inPlace := ["slices.overlaps[uint64]"], unfollowed := true, recurses := true, apart := false }
def ModelRollSaid : Prop := modelRollRow.holds Try.pinned (OpenSpec.ofChange modelRollSpec)

/-- ITS FALSE NEIGHBOUR: 'it returns false'. Refute it at one input. -/
def modelRollWrong : ChangeSpec := { name := "modelRoll", fn := fun _ => fun
  | [d1, d2, d3, d4] => { results := [.lit (.bool false)], args := [d1, d2, d3, d4] }
  | _ => none }
def ModelRollWrongFalsely : Prop := modelRollRow.holds Try.pinned (OpenSpec.ofChange modelRollWrong)

/- THE SECOND FORM. 'bulk': how many values and letters a reading holds, each counted each time it is reached (what is shared counts as often as it is met; a slice's spare places count too). A statement '..UptoSaid' is the law's where the arguments, and the package variables that the reading takes, are together of bulk at most 1048576: NARROWER than '..Said'. Prove '..Said' where nothing that the law and all that it calls make is longer than what came in: it says more and counts as full. Else prove '..UptoSaid'. A law counts once. -/
mutual
def uptoBulk {H : Type} : DataW H → Nat
  | .lit (.string bytes) => bytes.length + 1
  | .lit _ => 1
  | .nil => 1
  | .ptr d => uptoBulk d + 1
  | .slice elems spare => uptoBulkAll elems + uptoBulkAll spare + 1
  | .agg parts => uptoBulkAll parts + 1
  | .iface _ d => uptoBulk d + 1
  | .map entries => uptoBulkEntries entries + 1
  | .held _ => 1
def uptoBulkAll {H : Type} : List (DataW H) → Nat
  | [] => 0
  | d :: r => uptoBulk d + uptoBulkAll r
def uptoBulkEntries {H : Type} : List (Lit × DataW H) → Nat
  | [] => 0
  | x :: r => uptoBulkEntry x + uptoBulkEntries r
def uptoBulkEntry {H : Type} : Lit × DataW H → Nat
  | (.string bytes, d) => bytes.length + uptoBulk d + 1
  | (_, d) => uptoBulk d + 1
 end
def uptoSmall : (H : Type) → List (DataW H) → Bool := fun _ ds => decide (uptoBulkAll ds ≤ 1048576)
def OpenSpec.upto (s : _root_.Go.ChangeSpec) : _root_.Go.OpenSpec := { _root_.Go.OpenSpec.ofChange s with cond := some uptoSmall }

/-- 'medlarlaw18.RollMap', WHERE WHAT IT READS IS OF BULK AT MOST 1048576: true; the input reads as it did. -/
def rollMapUptoRow : OpenClaim := { program := "ytmehbonjpmlmfaa", sum := "897825baa73a30f4b9135e4c05cdc3e0735072680d53de01a67856270d98c67e", func := "medlar/medlarlaw18.RollMap", spec := "rollMap", inPlace := ["slices.overlaps[uint64]"], unfollowed := true, recurses := true, apart := false, narrowed := true }
def RollMapUptoSaid : Prop := rollMapUptoRow.holds Try.pinned (OpenSpec.upto rollMapSpec)

/-- 'medlarlaw18.RollBack', WHERE WHAT IT READS IS OF BULK AT MOST 1048576: true; the input reads as it did. -/
def rollBackUptoRow : OpenClaim := { program := "ytmehbonjpmlmfaa", sum := "897825baa73a30f4b9135e4c05cdc3e0735072680d53de01a67856270d98c67e", func := "medlar/medlarlaw18.RollBack", spec := "rollBack", inPlace := ["slices.overlaps[uint64]"], unfollowed := true, recurses := true, apart := false, narrowed := true }
def RollBackUptoSaid : Prop := rollBackUptoRow.holds Try.pinned (OpenSpec.upto rollBackSpec)

/-- 'medlarlaw18.RollDoes', WHERE WHAT IT READS IS OF BULK AT MOST 1048576: true; the input reads as it did. -/
def rollDoesUptoRow : OpenClaim := { program := "ytmehbonjpmlmfaa", sum := "897825baa73a30f4b9135e4c05cdc3e0735072680d53de01a67856270d98c67e", func := "medlar/medlarlaw18.RollDoes", spec := "rollDoes", inPlace := ["slices.overlaps[uint64]"], unfollowed := true, recurses := true, apart := false, narrowed := true }
def RollDoesUptoSaid : Prop := rollDoesUptoRow.holds Try.pinned (OpenSpec.upto rollDoesSpec)

/-- 'medlarlaw18.RollOrder', WHERE WHAT IT READS IS OF BULK AT MOST 1048576: true; the input reads as it did. -/
def rollOrderUptoRow : OpenClaim := { program := "ytmehbonjpmlmfaa", sum := "897825baa73a30f4b9135e4c05cdc3e0735072680d53de01a67856270d98c67e", func := "medlar/medlarlaw18.RollOrder", spec := "rollOrder", inPlace := ["slices.overlaps[uint64]"], unfollowed := true, recurses := true, apart := false, narrowed := true }
def RollOrderUptoSaid : Prop := rollOrderUptoRow.holds Try.pinned (OpenSpec.upto rollOrderSpec)

/-- 'medlarlaw22.ModelOut', WHERE WHAT IT READS IS OF BULK AT MOST 1048576: true; the input reads as it did. -/
def modelOutUptoRow : OpenClaim := { program := "ytmehbonjpmlmfaa", sum := "897825baa73a30f4b9135e4c05cdc3e0735072680d53de01a67856270d98c67e", func := "medlar/medlarlaw22.ModelOut", spec := "modelOut", inPlace := ["slices.overlaps[uint64]"], unfollowed := true, recurses := true, apart := false, narrowed := true }
def ModelOutUptoSaid : Prop := modelOutUptoRow.holds Try.pinned (OpenSpec.upto modelOutSpec)

/-- 'medlarlaw22.ModelCounts', WHERE WHAT IT READS IS OF BULK AT MOST 1048576: true; the input reads as it did. -/
def modelCountsUptoRow : OpenClaim := { program := "ytmehbonjpmlmfaa", sum := "897825baa73a30f4b9135e4c05cdc3e0735072680d53de01a67856270d98c67e", func := "medlar/medlarlaw22.ModelCounts", spec := "modelCounts", inPlace := ["slices.overlaps[uint64]"], unfollowed := true, recurses := true, apart := false, narrowed := true }
def ModelCountsUptoSaid : Prop := modelCountsUptoRow.holds Try.pinned (OpenSpec.upto modelCountsSpec)

/-- 'medlarlaw22.ModelDoes', WHERE WHAT IT READS IS OF BULK AT MOST 1048576: true; the input reads as it did. -/
def modelDoesUptoRow : OpenClaim := { program := "ytmehbonjpmlmfaa", sum := "897825baa73a30f4b9135e4c05cdc3e0735072680d53de01a67856270d98c67e", func := "medlar/medlarlaw22.ModelDoes", spec := "modelDoes", inPlace := ["slices.overlaps[uint64]"], unfollowed := true, recurses := true, apart := false, narrowed := true }
def ModelDoesUptoSaid : Prop := modelDoesUptoRow.holds Try.pinned (OpenSpec.upto modelDoesSpec)

/-- 'medlarlaw22.ModelReads', WHERE WHAT IT READS IS OF BULK AT MOST 1048576: true; the input reads as it did. -/
def modelReadsUptoRow : OpenClaim := { program := "ytmehbonjpmlmfaa", sum := "897825baa73a30f4b9135e4c05cdc3e0735072680d53de01a67856270d98c67e", func := "medlar/medlarlaw22.ModelReads", spec := "modelReads", inPlace := ["slices.overlaps[uint64]"], unfollowed := true, recurses := true, apart := false, narrowed := true }
def ModelReadsUptoSaid : Prop := modelReadsUptoRow.holds Try.pinned (OpenSpec.upto modelReadsSpec)

/-- 'medlarlaw22.ModelRoll', WHERE WHAT IT READS IS OF BULK AT MOST 1048576: true; the input reads as it did. -/
def modelRollUptoRow : OpenClaim := { program := "ytmehbonjpmlmfaa", sum := "897825baa73a30f4b9135e4c05cdc3e0735072680d53de01a67856270d98c67e", func := "medlar/medlarlaw22.ModelRoll", spec := "modelRoll", inPlace := ["slices.overlaps[uint64]"], unfollowed := true, recurses := true, apart := false, narrowed := true }
def ModelRollUptoSaid : Prop := modelRollUptoRow.holds Try.pinned (OpenSpec.upto modelRollSpec)

end Rows
end Go.Proofs.Ytmehbonjpmlmfaa
