/-
  No cell of these rows narrows 'for every input' (looked for: loops, veiled, ifaces, maps, wideKeys, modest, calm, conditions, laid).
  DERIVED. THE GIVEN ROWS OF THIS SEAT. 13 by the template 'for every input the law returns true; each argument reads behind the call as it read before'; 0 by the template 'total and deterministic' (their statements: YtkimbkcghmelgaaTotals.lean).
  GIVEN WITH THE SEED: the statements are not yours to turn. If you find one false, say at which input.
  Laid BY PROGRAM, IN A SANDBOX (cutbox-rows.mjs): the forced cells as the released guide's own fill.sh prints them over the translation 9fa0bd8e4af7215c… (all of the seat's roots in one cut). By AI agents, Wed Nov 11 2026. No macro, syntax, notation, axiom, sorry.
-/
import Derived.Test.YtkimbkcghmelgaaChecked
import GoSem.Claim
import GoSem.ClaimJoined
import GoSem.ClaimMapViews
import Derived.JoinedTies
import Derived.KernelRfl
namespace Go.Proofs.Ytkimbkcghmelgaa
/- THE CELL 'sum', in the pinned program and in every row, IS THE sha256 OF THE DUMP (.gsa) THAT YtkimbkcghmelgaaProg.lean LOADS. Nothing in Lean hashes anything: it is a label: what it is worth is what the hold of that sum in a sandbox is worth. -/
noncomputable def Try.pinned : Pinned := { name := "ytkimbkcghmelgaa", sum := "9fa0bd8e4af7215c328dc8dc6e92cc58cfb0e7b9b3d354087cd0dca5d8dd808d", checked := Try.checked }
namespace Rows
def none {H : Type} : Left H := { results := [], args := [] }

/-- 'medlarlaw01.NodeSpans': WHATEVER THE INPUT: true; the input reads as it did. -/
def nodeSpansSpec : ChangeSpec := { name := "nodeSpans", fn := fun _ => fun
  | [d1, d2, d3] => { results := [.lit (.bool true)], args := [d1, d2, d3] }
  | _ => none }
def nodeSpansRow : OpenClaim := { program := "ytkimbkcghmelgaa", sum := "9fa0bd8e4af7215c328dc8dc6e92cc58cfb0e7b9b3d354087cd0dca5d8dd808d", func := "medlar/medlarlaw01.NodeSpans", spec := "nodeSpans", apart := false }
def NodeSpansSaid : Prop := nodeSpansRow.holds Try.pinned (OpenSpec.ofChange nodeSpansSpec)

/-- ITS FALSE NEIGHBOUR: 'it returns false'. Refute it at one input. -/
def nodeSpansWrong : ChangeSpec := { name := "nodeSpans", fn := fun _ => fun
  | [d1, d2, d3] => { results := [.lit (.bool false)], args := [d1, d2, d3] }
  | _ => none }
def NodeSpansWrongFalsely : Prop := nodeSpansRow.holds Try.pinned (OpenSpec.ofChange nodeSpansWrong)

/-- 'medlarlaw01.NodeMeets': WHATEVER THE INPUT: true; the input reads as it did. -/
def nodeMeetsSpec : ChangeSpec := { name := "nodeMeets", fn := fun _ => fun
  | [d1, d2, d3] => { results := [.lit (.bool true)], args := [d1, d2, d3] }
  | _ => none }
def nodeMeetsRow : OpenClaim := { program := "ytkimbkcghmelgaa", sum := "9fa0bd8e4af7215c328dc8dc6e92cc58cfb0e7b9b3d354087cd0dca5d8dd808d", func := "medlar/medlarlaw01.NodeMeets", spec := "nodeMeets", apart := false }
def NodeMeetsSaid : Prop := nodeMeetsRow.holds Try.pinned (OpenSpec.ofChange nodeMeetsSpec)

/-- ITS FALSE NEIGHBOUR: 'it returns false'. Refute it at one input. -/
def nodeMeetsWrong : ChangeSpec := { name := "nodeMeets", fn := fun _ => fun
  | [d1, d2, d3] => { results := [.lit (.bool false)], args := [d1, d2, d3] }
  | _ => none }
def NodeMeetsWrongFalsely : Prop := nodeMeetsRow.holds Try.pinned (OpenSpec.ofChange nodeMeetsWrong)

/-- 'medlarlaw01.NodeTells': WHATEVER THE INPUT: true; the input reads as it did. -/
def nodeTellsSpec : ChangeSpec := { name := "nodeTells", fn := fun _ => fun
  | [d1, d2, d3] => { results := [.lit (.bool true)], args := [d1, d2, d3] }
  | _ => none }
def nodeTellsRow : OpenClaim := { program := "ytkimbkcghmelgaa", sum := "9fa0bd8e4af7215c328dc8dc6e92cc58cfb0e7b9b3d354087cd0dca5d8dd808d", func := "medlar/medlarlaw01.NodeTells", spec := "nodeTells", recurses := true, apart := false }
def NodeTellsSaid : Prop := nodeTellsRow.holds Try.pinned (OpenSpec.ofChange nodeTellsSpec)

/-- ITS FALSE NEIGHBOUR: 'it returns false'. Refute it at one input. -/
def nodeTellsWrong : ChangeSpec := { name := "nodeTells", fn := fun _ => fun
  | [d1, d2, d3] => { results := [.lit (.bool false)], args := [d1, d2, d3] }
  | _ => none }
def NodeTellsWrongFalsely : Prop := nodeTellsRow.holds Try.pinned (OpenSpec.ofChange nodeTellsWrong)

/-- 'medlarlaw01.NodeLeaf': WHATEVER THE INPUT: true; the input reads as it did. -/
def nodeLeafSpec : ChangeSpec := { name := "nodeLeaf", fn := fun _ => fun
  | [d1, d2, d3] => { results := [.lit (.bool true)], args := [d1, d2, d3] }
  | _ => none }
def nodeLeafRow : OpenClaim := { program := "ytkimbkcghmelgaa", sum := "9fa0bd8e4af7215c328dc8dc6e92cc58cfb0e7b9b3d354087cd0dca5d8dd808d", func := "medlar/medlarlaw01.NodeLeaf", spec := "nodeLeaf", apart := false }
def NodeLeafSaid : Prop := nodeLeafRow.holds Try.pinned (OpenSpec.ofChange nodeLeafSpec)

/-- ITS FALSE NEIGHBOUR: 'it returns false'. Refute it at one input. -/
def nodeLeafWrong : ChangeSpec := { name := "nodeLeaf", fn := fun _ => fun
  | [d1, d2, d3] => { results := [.lit (.bool false)], args := [d1, d2, d3] }
  | _ => none }
def NodeLeafWrongFalsely : Prop := nodeLeafRow.holds Try.pinned (OpenSpec.ofChange nodeLeafWrong)

/-- 'medlarlaw01.NodeOther': WHATEVER THE INPUT: true; the input reads as it did. -/
def nodeOtherSpec : ChangeSpec := { name := "nodeOther", fn := fun _ => fun
  | [d1, d2] => { results := [.lit (.bool true)], args := [d1, d2] }
  | _ => none }
def nodeOtherRow : OpenClaim := { program := "ytkimbkcghmelgaa", sum := "9fa0bd8e4af7215c328dc8dc6e92cc58cfb0e7b9b3d354087cd0dca5d8dd808d", func := "medlar/medlarlaw01.NodeOther", spec := "nodeOther", apart := false }
def NodeOtherSaid : Prop := nodeOtherRow.holds Try.pinned (OpenSpec.ofChange nodeOtherSpec)

/-- ITS FALSE NEIGHBOUR: 'it returns false'. Refute it at one input. -/
def nodeOtherWrong : ChangeSpec := { name := "nodeOther", fn := fun _ => fun
  | [d1, d2] => { results := [.lit (.bool false)], args := [d1, d2] }
  | _ => none }
def NodeOtherWrongFalsely : Prop := nodeOtherRow.holds Try.pinned (OpenSpec.ofChange nodeOtherWrong)

/-- 'medlarlaw01.NodeTwo': WHATEVER THE INPUT: true; the input reads as it did. -/
def nodeTwoSpec : ChangeSpec := { name := "nodeTwo", fn := fun _ => fun
  | [d1, d2, d3, d4] => { results := [.lit (.bool true)], args := [d1, d2, d3, d4] }
  | _ => none }
def nodeTwoRow : OpenClaim := { program := "ytkimbkcghmelgaa", sum := "9fa0bd8e4af7215c328dc8dc6e92cc58cfb0e7b9b3d354087cd0dca5d8dd808d", func := "medlar/medlarlaw01.NodeTwo", spec := "nodeTwo", recurses := true, apart := false }
def NodeTwoSaid : Prop := nodeTwoRow.holds Try.pinned (OpenSpec.ofChange nodeTwoSpec)

/-- ITS FALSE NEIGHBOUR: 'it returns false'. Refute it at one input. -/
def nodeTwoWrong : ChangeSpec := { name := "nodeTwo", fn := fun _ => fun
  | [d1, d2, d3, d4] => { results := [.lit (.bool false)], args := [d1, d2, d3, d4] }
  | _ => none }
def NodeTwoWrongFalsely : Prop := nodeTwoRow.holds Try.pinned (OpenSpec.ofChange nodeTwoWrong)

/-- 'medlarlaw02.LeafMany': WHATEVER THE INPUT: true; the input reads as it did. -/
def leafManySpec : ChangeSpec := { name := "leafMany", fn := fun _ => fun
  | [d1, d2, d3] => { results := [.lit (.bool true)], args := [d1, d2, d3] }
  | _ => none }
def leafManyRow : OpenClaim := { program := "ytkimbkcghmelgaa", sum := "9fa0bd8e4af7215c328dc8dc6e92cc58cfb0e7b9b3d354087cd0dca5d8dd808d", func := "medlar/medlarlaw02.LeafMany", spec := "leafMany", unfollowed := true, recurses := true, apart := false }
def LeafManySaid : Prop := leafManyRow.holds Try.pinned (OpenSpec.ofChange leafManySpec)

/-- ITS FALSE NEIGHBOUR: 'it returns false'. Refute it at one input. -/
def leafManyWrong : ChangeSpec := { name := "leafMany", fn := fun _ => fun
  | [d1, d2, d3] => { results := [.lit (.bool false)], args := [d1, d2, d3] }
  | _ => none }
def LeafManyWrongFalsely : Prop := leafManyRow.holds Try.pinned (OpenSpec.ofChange leafManyWrong)

/-- 'medlarlaw01.NodePaths': WHATEVER THE INPUT: true; the input reads as it did. -/
def nodePathsSpec : ChangeSpec := { name := "nodePaths", fn := fun _ => fun
  | [d1, d2, d3] => { results := [.lit (.bool true)], args := [d1, d2, d3] }
  | _ => none }
def nodePathsRow : OpenClaim := { program := "ytkimbkcghmelgaa", sum := "9fa0bd8e4af7215c328dc8dc6e92cc58cfb0e7b9b3d354087cd0dca5d8dd808d", func := "medlar/medlarlaw01.NodePaths", spec := "nodePaths", apart := false }
def NodePathsSaid : Prop := nodePathsRow.holds Try.pinned (OpenSpec.ofChange nodePathsSpec)

/-- ITS FALSE NEIGHBOUR: 'it returns false'. Refute it at one input. -/
def nodePathsWrong : ChangeSpec := { name := "nodePaths", fn := fun _ => fun
  | [d1, d2, d3] => { results := [.lit (.bool false)], args := [d1, d2, d3] }
  | _ => none }
def NodePathsWrongFalsely : Prop := nodePathsRow.holds Try.pinned (OpenSpec.ofChange nodePathsWrong)

/-- 'medlarlaw02.LeafAll': WHATEVER THE INPUT: true; the input reads as it did. -/
def leafAllSpec : ChangeSpec := { name := "leafAll", fn := fun _ => fun
  | [d1, d2, d3] => { results := [.lit (.bool true)], args := [d1, d2, d3] }
  | _ => none }
def leafAllRow : OpenClaim := { program := "ytkimbkcghmelgaa", sum := "9fa0bd8e4af7215c328dc8dc6e92cc58cfb0e7b9b3d354087cd0dca5d8dd808d", func := "medlar/medlarlaw02.LeafAll", spec := "leafAll", unfollowed := true, recurses := true, apart := false }
def LeafAllSaid : Prop := leafAllRow.holds Try.pinned (OpenSpec.ofChange leafAllSpec)

/-- ITS FALSE NEIGHBOUR: 'it returns false'. Refute it at one input. -/
def leafAllWrong : ChangeSpec := { name := "leafAll", fn := fun _ => fun
  | [d1, d2, d3] => { results := [.lit (.bool false)], args := [d1, d2, d3] }
  | _ => none }
def LeafAllWrongFalsely : Prop := leafAllRow.holds Try.pinned (OpenSpec.ofChange leafAllWrong)

/-- 'medlarlaw02.LeafBelow': WHATEVER THE INPUT: true; the input reads as it did. -/
def leafBelowSpec : ChangeSpec := { name := "leafBelow", fn := fun _ => fun
  | [d1, d2, d3] => { results := [.lit (.bool true)], args := [d1, d2, d3] }
  | _ => none }
def leafBelowRow : OpenClaim := { program := "ytkimbkcghmelgaa", sum := "9fa0bd8e4af7215c328dc8dc6e92cc58cfb0e7b9b3d354087cd0dca5d8dd808d", func := "medlar/medlarlaw02.LeafBelow", spec := "leafBelow", unfollowed := true, recurses := true, apart := false }
def LeafBelowSaid : Prop := leafBelowRow.holds Try.pinned (OpenSpec.ofChange leafBelowSpec)

/-- ITS FALSE NEIGHBOUR: 'it returns false'. Refute it at one input. -/
def leafBelowWrong : ChangeSpec := { name := "leafBelow", fn := fun _ => fun
  | [d1, d2, d3] => { results := [.lit (.bool false)], args := [d1, d2, d3] }
  | _ => none }
def LeafBelowWrongFalsely : Prop := leafBelowRow.holds Try.pinned (OpenSpec.ofChange leafBelowWrong)

/-- 'medlarlaw02.LeafSpans': WHATEVER THE INPUT: true; the input reads as it did. -/
def leafSpansSpec : ChangeSpec := { name := "leafSpans", fn := fun _ => fun
  | [d1, d2, d3, d4] => { results := [.lit (.bool true)], args := [d1, d2, d3, d4] }
  | _ => none }
def leafSpansRow : OpenClaim := { program := "ytkimbkcghmelgaa", sum := "9fa0bd8e4af7215c328dc8dc6e92cc58cfb0e7b9b3d354087cd0dca5d8dd808d", func := "medlar/medlarlaw02.LeafSpans", spec := "leafSpans", unfollowed := true, recurses := true, apart := false }
def LeafSpansSaid : Prop := leafSpansRow.holds Try.pinned (OpenSpec.ofChange leafSpansSpec)

/-- ITS FALSE NEIGHBOUR: 'it returns false'. Refute it at one input. -/
def leafSpansWrong : ChangeSpec := { name := "leafSpans", fn := fun _ => fun
  | [d1, d2, d3, d4] => { results := [.lit (.bool false)], args := [d1, d2, d3, d4] }
  | _ => none }
def LeafSpansWrongFalsely : Prop := leafSpansRow.holds Try.pinned (OpenSpec.ofChange leafSpansWrong)

/-- 'medlarlaw02.LeafSets': WHATEVER THE INPUT: true; the input reads as it did. -/
def leafSetsSpec : ChangeSpec := { name := "leafSets", fn := fun _ => fun
  | [d1, d2, d3] => { results := [.lit (.bool true)], args := [d1, d2, d3] }
  | _ => none }
def leafSetsRow : OpenClaim := { program := "ytkimbkcghmelgaa", sum := "9fa0bd8e4af7215c328dc8dc6e92cc58cfb0e7b9b3d354087cd0dca5d8dd808d", func := "medlar/medlarlaw02.LeafSets", spec := "leafSets", inPlace := ["slices.overlaps[uint64]"], unfollowed := true, recurses := true, apart := false }
def LeafSetsSaid : Prop := leafSetsRow.holds Try.pinned (OpenSpec.ofChange leafSetsSpec)

/-- ITS FALSE NEIGHBOUR: 'it returns false'. Refute it at one input. -/
def leafSetsWrong : ChangeSpec := { name := "leafSets", fn := fun _ => fun
  | [d1, d2, d3] => { results := [.lit (.bool false)], args := [d1, d2, d3] }
  | _ => none }
def LeafSetsWrongFalsely : Prop := leafSetsRow.holds Try.pinned (OpenSpec.ofChange leafSetsWrong)

/-- 'medlarlaw02.LeafBack': WHATEVER THE INPUT: true; the input reads as it did. -/
def leafBackSpec : ChangeSpec := { name := "leafBack", fn := fun _ => fun
  | [d1, d2, d3, d4] => { results := [.lit (.bool true)], args := [d1, d2, d3, d4] }
  | _ => none }
def leafBackRow : OpenClaim := { program := "ytkimbkcghmelgaa", sum := "9fa0bd8e4af7215c328dc8dc6e92cc58cfb0e7b9b3d354087cd0dca5d8dd808d", func := "medlar/medlarlaw02.LeafBack", spec := "leafBack", inPlace := ["slices.overlaps[uint64]"], unfollowed := true, recurses := true, apart := false }
def LeafBackSaid : Prop := leafBackRow.holds Try.pinned (OpenSpec.ofChange leafBackSpec)

/-- ITS FALSE NEIGHBOUR: 'it returns false'. Refute it at one input. -/
def leafBackWrong : ChangeSpec := { name := "leafBack", fn := fun _ => fun
  | [d1, d2, d3, d4] => { results := [.lit (.bool false)], args := [d1, d2, d3, d4] }
  | _ => none }
def LeafBackWrongFalsely : Prop := leafBackRow.holds Try.pinned (OpenSpec.ofChange leafBackWrong)

/- THE SECOND FORM. 'bulk': how many values and letters a reading holds, each counted each time it is reached (what is shared counts as often as it is met; a slice's spare places count too). A statement '..UptoSaid' is the law's where the arguments, and the package variables that the reading takes, are together of bulk at most 1048576: NARROWER than '..Said'. Prove '..Said' where nothing that the law and all that it calls make is longer than what came in: it says more and counts as full. Else prove '..UptoSaid'. A law counts once. -/
mutual
def uptoBulk {H : Type} : DataW H → Nat
  | .lit (.string bytes) => bytes.length + 1
  | .lit _ => 1
  | .nil => 1
  | .ptr d => uptoBulk d + 1
  | .slice elems spare => uptoBulkAll elems + uptoBulkAll spare + 1
  | .agg parts => uptoBulkAll parts + 1
  | .iface _ d => uptoBulk d + 1
  | .map entries => uptoBulkEntries entries + 1
  | .held _ => 1
def uptoBulkAll {H : Type} : List (DataW H) → Nat
  | [] => 0
  | d :: r => uptoBulk d + uptoBulkAll r
def uptoBulkEntries {H : Type} : List (Lit × DataW H) → Nat
  | [] => 0
  | x :: r => uptoBulkEntry x + uptoBulkEntries r
def uptoBulkEntry {H : Type} : Lit × DataW H → Nat
  | (.string bytes, d) => bytes.length + uptoBulk d + 1
  | (_, d) => uptoBulk d + 1
 end
def uptoSmall : (H : Type) → List (DataW H) → Bool := fun _ ds => decide (uptoBulkAll ds ≤ 1048576)
def OpenSpec.upto (s : _root_.Go.ChangeSpec) : _root_.Go.OpenSpec := { _root_.Go.OpenSpec.ofChange s with cond := some uptoSmall }

/-- 'medlarlaw01.NodeSpans', WHERE WHAT IT READS IS OF BULK AT MOST 1048576: true; the input reads as it did. -/
def nodeSpansUptoRow : OpenClaim := { program := "ytkimbkcghmelgaa", sum := "9fa0bd8e4af7215c328dc8dc6e92cc58cfb0e7b9b3d354087cd0dca5d8dd808d", func := "medlar/medlarlaw01.NodeSpans", spec := "nodeSpans", apart := false, narrowed := true }
def NodeSpansUptoSaid : Prop := nodeSpansUptoRow.holds Try.pinned (OpenSpec.upto nodeSpansSpec)

/-- 'medlarlaw01.NodeMeets', WHERE WHAT IT READS IS OF BULK AT MOST 1048576: true; the input reads as it did. -/
def nodeMeetsUptoRow : OpenClaim := { program := "ytkimbkcghmelgaa", sum := "9fa0bd8e4af7215c328dc8dc6e92cc58cfb0e7b9b3d354087cd0dca5d8dd808d", func := "medlar/medlarlaw01.NodeMeets", spec := "nodeMeets", apart := false, narrowed := true }
def NodeMeetsUptoSaid : Prop := nodeMeetsUptoRow.holds Try.pinned (OpenSpec.upto nodeMeetsSpec)

/-- 'medlarlaw01.NodeTells', WHERE WHAT IT READS IS OF BULK AT MOST 1048576: true; the input reads as it did. -/
def nodeTellsUptoRow : OpenClaim := { program := "ytkimbkcghmelgaa", sum := "9fa0bd8e4af7215c328dc8dc6e92cc58cfb0e7b9b3d354087cd0dca5d8dd808d", func := "medlar/medlarlaw01.NodeTells", spec := "nodeTells", recurses := true, apart := false, narrowed := true }
def NodeTellsUptoSaid : Prop := nodeTellsUptoRow.holds Try.pinned (OpenSpec.upto nodeTellsSpec)

/-- 'medlarlaw01.NodeLeaf', WHERE WHAT IT READS IS OF BULK AT MOST 1048576: true; the input reads as it did. -/
def nodeLeafUptoRow : OpenClaim := { program := "ytkimbkcghmelgaa", sum := "9fa0bd8e4af7215c328dc8dc6e92cc58cfb0e7b9b3d354087cd0dca5d8dd808d", func := "medlar/medlarlaw01.NodeLeaf", spec := "nodeLeaf", apart := false, narrowed := true }
def NodeLeafUptoSaid : Prop := nodeLeafUptoRow.holds Try.pinned (OpenSpec.upto nodeLeafSpec)

/-- 'medlarlaw01.NodeOther', WHERE WHAT IT READS IS OF BULK AT MOST 1048576: true; the input reads as it did. -/
def nodeOtherUptoRow : OpenClaim := { program := "ytkimbkcghmelgaa", sum := "9fa0bd8e4af7215c328dc8dc6e92cc58cfb0e7b9b3d354087cd0dca5d8dd808d", func := "medlar/medlarlaw01.NodeOther", spec := "nodeOther", apart := false, narrowed := true }
def NodeOtherUptoSaid : Prop := nodeOtherUptoRow.holds Try.pinned (OpenSpec.upto nodeOtherSpec)

/-- 'medlarlaw01.NodeTwo', WHERE WHAT IT READS IS OF BULK AT MOST 1048576: true; the input reads as it did. -/
def nodeTwoUptoRow : OpenClaim := { program := "ytkimbkcghmelgaa", sum := "9fa0bd8e4af7215c328dc8dc6e92cc58cfb0e7b9b3d354087cd0dca5d8dd808d", func := "medlar/medlarlaw01.NodeTwo", spec := "nodeTwo", recurses := true, apart := false, narrowed := true }
def NodeTwoUptoSaid : Prop := nodeTwoUptoRow.holds Try.pinned (OpenSpec.upto nodeTwoSpec)

/-- 'medlarlaw02.LeafMany', WHERE WHAT IT READS IS OF BULK AT MOST 1048576: true; the input reads as it did. -/
def leafManyUptoRow : OpenClaim := { program := "ytkimbkcghmelgaa", sum := "9fa0bd8e4af7215c328dc8dc6e92cc58cfb0e7b9b3d354087cd0dca5d8dd808d", func := "medlar/medlarlaw02.LeafMany", spec := "leafMany", unfollowed := true, recurses := true, apart := false, narrowed := true }
def LeafManyUptoSaid : Prop := leafManyUptoRow.holds Try.pinned (OpenSpec.upto leafManySpec)

/-- 'medlarlaw01.NodePaths', WHERE WHAT IT READS IS OF BULK AT MOST 1048576: true; the input reads as it did. -/
def nodePathsUptoRow : OpenClaim := { program := "ytkimbkcghmelgaa", sum := "9fa0bd8e4af7215c328dc8dc6e92cc58cfb0e7b9b3d354087cd0dca5d8dd808d", func := "medlar/medlarlaw01.NodePaths", spec := "nodePaths", apart := false, narrowed := true }
def NodePathsUptoSaid : Prop := nodePathsUptoRow.holds Try.pinned (OpenSpec.upto nodePathsSpec)

/-- 'medlarlaw02.LeafAll', WHERE WHAT IT READS IS OF BULK AT MOST 1048576: true; the input reads as it did. -/
def leafAllUptoRow : OpenClaim := { program := "ytkimbkcghmelgaa", sum := "9fa0bd8e4af7215c328dc8dc6e92cc58cfb0e7b9b3d354087cd0dca5d8dd808d", func := "medlar/medlarlaw02.LeafAll", spec := "leafAll", unfollowed := true, recurses := true, apart := false, narrowed := true }
def LeafAllUptoSaid : Prop := leafAllUptoRow.holds Try.pinned (OpenSpec.upto leafAllSpec)

/-- 'medlarlaw02.LeafBelow', WHERE WHAT IT READS IS OF BULK AT MOST 1048576: true; the input reads as it did. -/
def leafBelowUptoRow : OpenClaim := { program := "ytkimbkcghmelgaa", sum := "9fa0bd8e4af7215c328dc8dc6e92cc58cfb0e7b9b3d354087cd0dca5d8dd808d", func := "medlar/medlarlaw02.LeafBelow", spec := "leafBelow", unfollowed := true, recurses := true, apart := false, narrowed := true }
def LeafBelowUptoSaid : Prop := leafBelowUptoRow.holds Try.pinned (OpenSpec.upto leafBelowSpec)

/-- 'medlarlaw02.LeafSpans', WHERE WHAT IT READS IS OF BULK AT MOST 1048576: true; the input reads as it did. -/
def leafSpansUptoRow : OpenClaim := { program := "ytkimbkcghmelgaa", sum := "9fa0bd8e4af7215c328dc8dc6e92cc58cfb0e7b9b3d354087cd0dca5d8dd808d", func := "medlar/medlarlaw02.LeafSpans", spec := "leafSpans", unfollowed := true, recurses := true, apart := false, narrowed := true }
def LeafSpansUptoSaid : Prop := leafSpansUptoRow.holds Try.pinned (OpenSpec.upto leafSpansSpec)

/-- 'medlarlaw02.LeafSets', WHERE WHAT IT READS IS OF BULK AT MOST 1048576: true; the input reads as it did. -/
def leafSetsUptoRow : OpenClaim := { program := "ytkimbkcghmelgaa", sum := "9fa0bd8e4af7215c328dc8dc6e92cc58cfb0e7b9b3d354087cd0dca5d8dd808d", func := "medlar/medlarlaw02.LeafSets", spec := "leafSets", inPlace := ["slices.overlaps[uint64]"], unfollowed := true, recurses := true, apart := false, narrowed := true }
def LeafSetsUptoSaid : Prop := leafSetsUptoRow.holds Try.pinned (OpenSpec.upto leafSetsSpec)

/-- 'medlarlaw02.LeafBack', WHERE WHAT IT READS IS OF BULK AT MOST 1048576: true; the input reads as it did. -/
def leafBackUptoRow : OpenClaim := { program := "ytkimbkcghmelgaa", sum := "9fa0bd8e4af7215c328dc8dc6e92cc58cfb0e7b9b3d354087cd0dca5d8dd808d", func := "medlar/medlarlaw02.LeafBack", spec := "leafBack", inPlace := ["slices.overlaps[uint64]"], unfollowed := true, recurses := true, apart := false, narrowed := true }
def LeafBackUptoSaid : Prop := leafBackUptoRow.holds Try.pinned (OpenSpec.upto leafBackSpec)

end Rows
end Go.Proofs.Ytkimbkcghmelgaa
