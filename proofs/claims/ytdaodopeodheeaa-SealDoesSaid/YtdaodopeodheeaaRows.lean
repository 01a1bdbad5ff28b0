/-
  No cell of these rows narrows 'for every input' (looked for: loops, veiled, ifaces, maps, wideKeys, modest, calm, conditions, laid).
  DERIVED. THE GIVEN ROWS OF THIS SEAT. 13 by the template 'for every input the law returns true; each argument reads behind the call as it read before'; 0 by the template 'total and deterministic' (their statements: YtdaodopeodheeaaTotals.lean).
  GIVEN WITH THE SEED: the statements are not yours to turn. If you find one false, say at which input.
  Laid BY PROGRAM, IN A SANDBOX (cutbox-rows.mjs): the forced cells as the released guide's own fill.sh prints them over the translation 82c646f7455ce8b1… (all of the seat's roots in one cut). By AI agents, Wed Nov 11 2026. No macro, syntax, notation, axiom, sorry.
-/
import Derived.Test.YtdaodopeodheeaaChecked
import GoSem.Claim
import GoSem.ClaimJoined
import GoSem.ClaimMapViews
import Derived.JoinedTies
import Derived.KernelRfl
namespace Go.Proofs.Ytdaodopeodheeaa
/- THE CELL 'sum', in the pinned program and in every row, IS THE sha256 OF THE DUMP (.gsa) THAT YtdaodopeodheeaaProg.lean LOADS. Nothing in Lean hashes anything: it is a label: what it is worth is what the hold of that sum in a sandbox is worth. -/
noncomputable def Try.pinned : Pinned := { name := "ytdaodopeodheeaa", sum := "82c646f7455ce8b1b5a83d28f6e21a3b2845267a3fa4e39dadacd2e7f91297ef", checked := Try.checked }
namespace Rows
def none {H : Type} : Left H := { results := [], args := [] }

/-- 'medlarlaw03.MixParts': WHATEVER THE INPUT: true; the input reads as it did. -/
def mixPartsSpec : ChangeSpec := { name := "mixParts", fn := fun _ => fun
  | [d1, d2, d3] => { results := [.lit (.bool true)], args := [d1, d2, d3] }
  | _ => none }
def mixPartsRow : OpenClaim := { program := "ytdaodopeodheeaa", sum := "82c646f7455ce8b1b5a83d28f6e21a3b2845267a3fa4e39dadacd2e7f91297ef", func := "medlar/medlarlaw03.MixParts", spec := "mixParts", apart := false }
def MixPartsSaid : Prop := mixPartsRow.holds Try.pinned (OpenSpec.ofChange mixPartsSpec)

/-- ITS FALSE NEIGHBOUR: 'it returns false'. Refute it at one input. -/
def mixPartsWrong : ChangeSpec := { name := "mixParts", fn := fun _ => fun
  | [d1, d2, d3] => { results := [.lit (.bool false)], args := [d1, d2, d3] }
  | _ => none }
def MixPartsWrongFalsely : Prop := mixPartsRow.holds Try.pinned (OpenSpec.ofChange mixPartsWrong)

/-- 'medlarlaw03.MixXor': WHATEVER THE INPUT: true; the input reads as it did. -/
def mixXorSpec : ChangeSpec := { name := "mixXor", fn := fun _ => fun
  | [d1, d2, d3] => { results := [.lit (.bool true)], args := [d1, d2, d3] }
  | _ => none }
def mixXorRow : OpenClaim := { program := "ytdaodopeodheeaa", sum := "82c646f7455ce8b1b5a83d28f6e21a3b2845267a3fa4e39dadacd2e7f91297ef", func := "medlar/medlarlaw03.MixXor", spec := "mixXor", apart := false }
def MixXorSaid : Prop := mixXorRow.holds Try.pinned (OpenSpec.ofChange mixXorSpec)

/-- ITS FALSE NEIGHBOUR: 'it returns false'. Refute it at one input. -/
def mixXorWrong : ChangeSpec := { name := "mixXor", fn := fun _ => fun
  | [d1, d2, d3] => { results := [.lit (.bool false)], args := [d1, d2, d3] }
  | _ => none }
def MixXorWrongFalsely : Prop := mixXorRow.holds Try.pinned (OpenSpec.ofChange mixXorWrong)

/-- 'medlarlaw03.MixFolds': WHATEVER THE INPUT: true; the input reads as it did. -/
def mixFoldsSpec : ChangeSpec := { name := "mixFolds", fn := fun _ => fun
  | [d1, d2] => { results := [.lit (.bool true)], args := [d1, d2] }
  | _ => none }
def mixFoldsRow : OpenClaim := { program := "ytdaodopeodheeaa", sum := "82c646f7455ce8b1b5a83d28f6e21a3b2845267a3fa4e39dadacd2e7f91297ef", func := "medlar/medlarlaw03.MixFolds", spec := "mixFolds", apart := false }
def MixFoldsSaid : Prop := mixFoldsRow.holds Try.pinned (OpenSpec.ofChange mixFoldsSpec)

/-- ITS FALSE NEIGHBOUR: 'it returns false'. Refute it at one input. -/
def mixFoldsWrong : ChangeSpec := { name := "mixFolds", fn := fun _ => fun
  | [d1, d2] => { results := [.lit (.bool false)], args := [d1, d2] }
  | _ => none }
def MixFoldsWrongFalsely : Prop := mixFoldsRow.holds Try.pinned (OpenSpec.ofChange mixFoldsWrong)

/-- 'medlarlaw03.MixApart': WHATEVER THE INPUT: true; the input reads as it did. -/
def mixApartSpec : ChangeSpec := { name := "mixApart", fn := fun _ => fun
  | [d1, d2, d3, d4, d5] => { results := [.lit (.bool true)], args := [d1, d2, d3, d4, d5] }
  | _ => none }
def mixApartRow : OpenClaim := { program := "ytdaodopeodheeaa", sum := "82c646f7455ce8b1b5a83d28f6e21a3b2845267a3fa4e39dadacd2e7f91297ef", func := "medlar/medlarlaw03.MixApart", spec := "mixApart", apart := false }
def MixApartSaid : Prop := mixApartRow.holds Try.pinned (OpenSpec.ofChange mixApartSpec)

/-- ITS FALSE NEIGHBOUR: 'it returns false'. Refute it at one input. -/
def mixApartWrong : ChangeSpec := { name := "mixApart", fn := fun _ => fun
  | [d1, d2, d3, d4, d5] => { results := [.lit (.bool false)], args := [d1, d2, d3, d4, d5] }
  | _ => none }
def MixApartWrongFalsely : Prop := mixApartRow.holds Try.pinned (OpenSpec.ofChange mixApartWrong)

/-- 'medlarlaw03.MixBack': WHATEVER THE INPUT: true; the input reads as it did. -/
def mixBackSpec : ChangeSpec := { name := "mixBack", fn := fun _ => fun
  | [d1, d2] => { results := [.lit (.bool true)], args := [d1, d2] }
  | _ => none }
def mixBackRow : OpenClaim := { program := "ytdaodopeodheeaa", sum := "82c646f7455ce8b1b5a83d28f6e21a3b2845267a3fa4e39dadacd2e7f91297ef", func := "medlar/medlarlaw03.MixBack", spec := "mixBack", apart := false }
def MixBackSaid : Prop := mixBackRow.holds Try.pinned (OpenSpec.ofChange mixBackSpec)

/-- ITS FALSE NEIGHBOUR: 'it returns false'. Refute it at one input. -/
def mixBackWrong : ChangeSpec := { name := "mixBack", fn := fun _ => fun
  | [d1, d2] => { results := [.lit (.bool false)], args := [d1, d2] }
  | _ => none }
def MixBackWrongFalsely : Prop := mixBackRow.holds Try.pinned (OpenSpec.ofChange mixBackWrong)

/-- 'medlarlaw03.MixDoes': WHATEVER THE INPUT: true; the input reads as it did. -/
def mixDoesSpec : ChangeSpec := { name := "mixDoes", fn := fun _ => fun
  | [d1, d2, d3] => { results := [.lit (.bool true)], args := [d1, d2, d3] }
  | _ => none }
def mixDoesRow : OpenClaim := { program := "ytdaodopeodheeaa", sum := "82c646f7455ce8b1b5a83d28f6e21a3b2845267a3fa4e39dadacd2e7f91297ef", func := "medlar/medlarlaw03.MixDoes", spec := "mixDoes", apart := false }
def MixDoesSaid : Prop := mixDoesRow.holds Try.pinned (OpenSpec.ofChange mixDoesSpec)

/-- ITS FALSE NEIGHBOUR: 'it returns false'. Refute it at one input. -/
def mixDoesWrong : ChangeSpec := { name := "mixDoes", fn := fun _ => fun
  | [d1, d2, d3] => { results := [.lit (.bool false)], args := [d1, d2, d3] }
  | _ => none }
def MixDoesWrongFalsely : Prop := mixDoesRow.holds Try.pinned (OpenSpec.ofChange mixDoesWrong)

/-- 'medlarlaw03.MixOctets': WHATEVER THE INPUT: true; the input reads as it did. -/
def mixOctetsSpec : ChangeSpec := { name := "mixOctets", fn := fun _ => fun
  | [d1, d2, d3] => { results := [.lit (.bool true)], args := [d1, d2, d3] }
  | _ => none }
def mixOctetsRow : OpenClaim := { program := "ytdaodopeodheeaa", sum := "82c646f7455ce8b1b5a83d28f6e21a3b2845267a3fa4e39dadacd2e7f91297ef", func := "medlar/medlarlaw03.MixOctets", spec := "mixOctets", apart := false }
def MixOctetsSaid : Prop := mixOctetsRow.holds Try.pinned (OpenSpec.ofChange mixOctetsSpec)

/-- ITS FALSE NEIGHBOUR: 'it returns false'. Refute it at one input. -/
def mixOctetsWrong : ChangeSpec := { name := "mixOctets", fn := fun _ => fun
  | [d1, d2, d3] => { results := [.lit (.bool false)], args := [d1, d2, d3] }
  | _ => none }
def MixOctetsWrongFalsely : Prop := mixOctetsRow.holds Try.pinned (OpenSpec.ofChange mixOctetsWrong)

/-- 'medlarlaw04.SealBack': WHATEVER THE INPUT: true; the input reads as it did. -/
def sealBackSpec : ChangeSpec := { name := "sealBack", fn := fun _ => fun
  | [d1, d2, d3, d4] => { results := [.lit (.bool true)], args := [d1, d2, d3, d4] }
  | _ => none }
def sealBackRow : OpenClaim := { program := "ytdaodopeodheeaa", sum := "82c646f7455ce8b1b5a83d28f6e21a3b2845267a3fa4e39dadacd2e7f91297ef", func := "medlar/medlarlaw04.SealBack", spec := "sealBack", apart := false }
def SealBackSaid : Prop := sealBackRow.holds Try.pinned (OpenSpec.ofChange sealBackSpec)

/-- ITS FALSE NEIGHBOUR: 'it returns false'. Refute it at one input. -/
def sealBackWrong : ChangeSpec := { name := "sealBack", fn := fun _ => fun
  | [d1, d2, d3, d4] => { results := [.lit (.bool false)], args := [d1, d2, d3, d4] }
  | _ => none }
def SealBackWrongFalsely : Prop := sealBackRow.holds Try.pinned (OpenSpec.ofChange sealBackWrong)

/-- 'medlarlaw04.SealTag': WHATEVER THE INPUT: true; the input reads as it did. -/
def sealTagSpec : ChangeSpec := { name := "sealTag", fn := fun _ => fun
  | [d1, d2, d3, d4] => { results := [.lit (.bool true)], args := [d1, d2, d3, d4] }
  | _ => none }
def sealTagRow : OpenClaim := { program := "ytdaodopeodheeaa", sum := "82c646f7455ce8b1b5a83d28f6e21a3b2845267a3fa4e39dadacd2e7f91297ef", func := "medlar/medlarlaw04.SealTag", spec := "sealTag", apart := false }
def SealTagSaid : Prop := sealTagRow.holds Try.pinned (OpenSpec.ofChange sealTagSpec)

/-- ITS FALSE NEIGHBOUR: 'it returns false'. Refute it at one input. -/
def sealTagWrong : ChangeSpec := { name := "sealTag", fn := fun _ => fun
  | [d1, d2, d3, d4] => { results := [.lit (.bool false)], args := [d1, d2, d3, d4] }
  | _ => none }
def SealTagWrongFalsely : Prop := sealTagRow.holds Try.pinned (OpenSpec.ofChange sealTagWrong)

/-- 'medlarlaw04.SealOther': WHATEVER THE INPUT: true; the input reads as it did. -/
def sealOtherSpec : ChangeSpec := { name := "sealOther", fn := fun _ => fun
  | [d1, d2, d3] => { results := [.lit (.bool true)], args := [d1, d2, d3] }
  | _ => none }
def sealOtherRow : OpenClaim := { program := "ytdaodopeodheeaa", sum := "82c646f7455ce8b1b5a83d28f6e21a3b2845267a3fa4e39dadacd2e7f91297ef", func := "medlar/medlarlaw04.SealOther", spec := "sealOther", apart := false }
def SealOtherSaid : Prop := sealOtherRow.holds Try.pinned (OpenSpec.ofChange sealOtherSpec)

/-- ITS FALSE NEIGHBOUR: 'it returns false'. Refute it at one input. -/
def sealOtherWrong : ChangeSpec := { name := "sealOther", fn := fun _ => fun
  | [d1, d2, d3] => { results := [.lit (.bool false)], args := [d1, d2, d3] }
  | _ => none }
def SealOtherWrongFalsely : Prop := sealOtherRow.holds Try.pinned (OpenSpec.ofChange sealOtherWrong)

/-- 'medlarlaw03.MixPart': WHATEVER THE INPUT: true; the input reads as it did. -/
def mixPartSpec : ChangeSpec := { name := "mixPart", fn := fun _ => fun
  | [d1, d2] => { results := [.lit (.bool true)], args := [d1, d2] }
  | _ => none }
def mixPartRow : OpenClaim := { program := "ytdaodopeodheeaa", sum := "82c646f7455ce8b1b5a83d28f6e21a3b2845267a3fa4e39dadacd2e7f91297ef", func := "medlar/medlarlaw03.MixPart", spec := "mixPart", apart := false }
def MixPartSaid : Prop := mixPartRow.holds Try.pinned (OpenSpec.ofChange mixPartSpec)

/-- ITS FALSE NEIGHBOUR: 'it returns false'. Refute it at one input. -/
def mixPartWrong : ChangeSpec := { name := "mixPart", fn := fun _ => fun
  | [d1, d2] => { results := [.lit (.bool false)], args := [d1, d2] }
  | _ => none }
def MixPartWrongFalsely : Prop := mixPartRow.holds Try.pinned (OpenSpec.ofChange mixPartWrong)

/-- 'medlarlaw04.SealDoes': WHATEVER THE INPUT: true; the input reads as it did. -/
def sealDoesSpec : ChangeSpec := { name := "sealDoes", fn := fun _ => fun
  | [d1, d2, d3, d4] => { results := [.lit (.bool true)], args := [d1, d2, d3, d4] }
  | _ => none }
def sealDoesRow : OpenClaim := { program := "ytdaodopeodheeaa", sum := "82c646f7455ce8b1b5a83d28f6e21a3b2845267a3fa4e39dadacd2e7f91297ef", func := "medlar/medlarlaw04.SealDoes", spec := "sealDoes", apart := false }
def SealDoesSaid : Prop := sealDoesRow.holds Try.pinned (OpenSpec.ofChange sealDoesSpec)

/-- ITS FALSE NEIGHBOUR: 'it returns false'. Refute it at one input. -/
def sealDoesWrong : ChangeSpec := { name := "sealDoes", fn := fun _ => fun
  | [d1, d2, d3, d4] => { results := [.lit (.bool false)], args := [d1, d2, d3, d4] }
  | _ => none }
def SealDoesWrongFalsely : Prop := sealDoesRow.holds Try.pinned (OpenSpec.ofChange sealDoesWrong)

/-- 'medlarlaw04.SealOctets': WHATEVER THE INPUT: true; the input reads as it did. -/
def sealOctetsSpec : ChangeSpec := { name := "sealOctets", fn := fun _ => fun
  | [d1, d2] => { results := [.lit (.bool true)], args := [d1, d2] }
  | _ => none }
def sealOctetsRow : OpenClaim := { program := "ytdaodopeodheeaa", sum := "82c646f7455ce8b1b5a83d28f6e21a3b2845267a3fa4e39dadacd2e7f91297ef", func := "medlar/medlarlaw04.SealOctets", spec := "sealOctets", apart := false }
def SealOctetsSaid : Prop := sealOctetsRow.holds Try.pinned (OpenSpec.ofChange sealOctetsSpec)

/-- ITS FALSE NEIGHBOUR: 'it returns false'. Refute it at one input. -/
def sealOctetsWrong : ChangeSpec := { name := "sealOctets", fn := fun _ => fun
  | [d1, d2] => { results := [.lit (.bool false)], args := [d1, d2] }
  | _ => none }
def SealOctetsWrongFalsely : Prop := sealOctetsRow.holds Try.pinned (OpenSpec.ofChange sealOctetsWrong)

/- THE SECOND FORM. 'bulk': how many values and letters a reading holds, each counted each time it is reached (what is shared counts as often as it is met; a slice's spare places count too). A statement '..UptoSaid' is the law's where the arguments, and the package variables that the reading takes, are together of bulk at most 1048576: NARROWER than '..Said'. Prove '..Said' where nothing that the law and all that it calls make is longer than what came in: it says more and counts as full. Else prove '..UptoSaid'. A law counts once. -/
mutual
def uptoBulk {H : Type} : DataW H → Nat
  | .lit (.string bytes) => bytes.length + 1
  | .lit _ => 1
  | .nil => 1
  | .ptr d => uptoBulk d + 1
  | .slice elems spare => uptoBulkAll elems + uptoBulkAll spare + 1
  | .agg parts => uptoBulkAll parts + 1
  | .iface _ d => uptoBulk d + 1
  | .map entries => uptoBulkEntries entries + 1
  | .held _ => 1
def uptoBulkAll {H : Type} : List (DataW H) → Nat
  | [] => 0
  | d :: r => uptoBulk d + uptoBulkAll r
def uptoBulkEntries {H : Type} : List (Lit × DataW H) → Nat
  | [] => 0
  | x :: r => uptoBulkEntry x + uptoBulkEntries r
def uptoBulkEntry {H : Type} : Lit × DataW H → Nat
  | (.string bytes, d) => bytes.length + uptoBulk d + 1
  | (_, d) => uptoBulk d + 1
 end
def uptoSmall : (H : Type) → List (DataW H) → Bool := fun _ ds => decide (uptoBulkAll ds ≤ 1048576)
def OpenSpec.upto (s : _root_.Go.ChangeSpec) : _root_.Go.OpenSpec := { _root_.Go.OpenSpec.ofChange s with cond := some uptoSmall }

/-- 'medlarlaw03.MixParts', WHERE WHAT IT READS IS OF BULK AT MOST 1048576: true; the input reads as it did. -/
def mixPartsUptoRow : OpenClaim := { program := "ytdaodopeodheeaa", sum := "82c646f7455ce8b1b5a83d28f6e21a3b2845267a3fa4e39dadacd2e7f91297ef", func := "medlar/medlarlaw03.MixParts", spec := "mixParts", apart := false, narrowed := true }
def MixPartsUptoSaid : Prop := mixPartsUptoRow.holds Try.pinned (OpenSpec.upto mixPartsSpec)

/-- 'medlarlaw03.MixXor', WHERE WHAT IT READS IS OF BULK AT MOST 1048576: true; the input reads as it did. -/
def mixXorUptoRow : OpenClaim := { program := "ytdaodopeodheeaa", sum := "82c646f7455ce8b1b5a83d28f6e21a3b2845267a3fa4e39dadacd2e7f91297ef", func := "medlar/medlarlaw03.MixXor", spec := "mixXor", apart := false, narrowed := true }
def MixXorUptoSaid : Prop := mixXorUptoRow.holds Try.pinned (OpenSpec.upto mixXorSpec)

/-- 'medlarlaw03.MixFolds', WHERE WHAT IT READS IS OF BULK AT MOST 1048576: true; the input reads as it did. -/
def mixFoldsUptoRow : OpenClaim := { program := "ytdaodopeodheeaa", sum := "82c646f7455ce8b1b5a83d28f6e21a3b2845267a3fa4e39dadacd2e7f91297ef", func := "medlar/medlarlaw03.MixFolds", spec := "mixFolds", apart := false, narrowed := true }
def MixFoldsUptoSaid : Prop := mixFoldsUptoRow.holds Try.pinned (OpenSpec.upto mixFoldsSpec)

/-- 'medlarlaw03.MixApart', WHERE WHAT IT READS IS OF BULK AT MOST 1048576: true; the input reads as it did. -/
def mixApartUptoRow : OpenClaim := { program := "ytdaodopeodheeaa", sum := "82c646f7455ce8b1b5a83d28f6e21a3b2845267a3fa4e39dadacd2e7f91297ef", func := "medlar/medlarlaw03.MixApart", spec := "mixApart", apart := false, narrowed := true }
def MixApartUptoSaid : Prop := mixApartUptoRow.holds Try.pinned (OpenSpec.upto mixApartSpec)

/-- 'medlarlaw03.MixBack', WHERE WHAT IT READS IS OF BULK AT MOST 1048576: true; the input reads as it did. -/
def mixBackUptoRow : OpenClaim := { program := "ytdaodopeodheeaa", sum := "82c646f7455ce8b1b5a83d28f6e21a3b2845267a3fa4e39dadacd2e7f91297ef", func := "medlar/medlarlaw03.MixBack", spec := "mixBack", apart := false, narrowed := true }
def MixBackUptoSaid : Prop := mixBackUptoRow.holds Try.pinned (OpenSpec.upto mixBackSpec)

/-- 'medlarlaw03.MixDoes', WHERE WHAT IT READS IS OF BULK AT MOST 1048576: true; the input reads as it did. -/
def mixDoesUptoRow : OpenClaim := { program := "ytdaodopeodheeaa", sum := "82c646f7455ce8b1b5a83d28f6e21a3b2845267a3fa4e39dadacd2e7f91297ef", func := "medlar/medlarlaw03.MixDoes", spec := "mixDoes", apart := false, narrowed := true }
def MixDoesUptoSaid : Prop := mixDoesUptoRow.holds Try.pinned (OpenSpec.upto mixDoesSpec)

/-- 'medlarlaw03.MixOctets', WHERE WHAT IT READS IS OF BULK AT MOST 1048576: true; the input reads as it did. -/
def mixOctetsUptoRow : OpenClaim := { program := "ytdaodopeodheeaa", sum := "82c646f7455ce8b1b5a83d28f6e21a3b2845267a3fa4e39dadacd2e7f91297ef", func := "medlar/medlarlaw03.MixOctets", spec := "mixOctets", apart := false, narrowed := true }
def MixOctetsUptoSaid : Prop := mixOctetsUptoRow.holds Try.pinned (OpenSpec.upto mixOctetsSpec)

/-- 'medlarlaw04.SealBack', WHERE WHAT IT READS IS OF BULK AT MOST 1048576: true; the input reads as it did. -/
def sealBackUptoRow : OpenClaim := { program := "ytdaodopeodheeaa", sum := "82c646f7455ce8b1b5a83d28f6e21a3b2845267a3fa4e39dadacd2e7f91297ef", func := "medlar/medlarlaw04.SealBack", spec := "sealBack", apart := false, narrowed := true }
def SealBackUptoSaid : Prop := sealBackUptoRow.holds Try.pinned (OpenSpec.upto sealBackSpec)

/-- 'medlarlaw04.SealTag', WHERE WHAT IT READS IS OF BULK AT MOST 1048576: true; the input reads as it did. -/
def sealTagUptoRow : OpenClaim := { program := "ytdaodopeodheeaa", sum := "82c646f7455ce8b1b5a83d28f6e21a3b2845267a3fa4e39dadacd2e7f91297ef", func := "medlar/medlarlaw04.SealTag", spec := "sealTag", apart := false, narrowed := true }
def SealTagUptoSaid : Prop := sealTagUptoRow.holds Try.pinned (OpenSpec.upto sealTagSpec)

/-- 'medlarlaw04.SealOther', WHERE WHAT IT READS IS OF BULK AT MOST 1048576: true; the input reads as it did. -/
def sealOtherUptoRow : OpenClaim := { program := "ytdaodopeodheeaa", sum := "82c646f7455ce8b1b5a83d28f6e21a3b2845267a3fa4e39dadacd2e7f91297ef", func := "medlar/medlarlaw04.SealOther", spec := "sealOther", apart := false, narrowed := true }
def SealOtherUptoSaid : Prop := sealOtherUptoRow.holds Try.pinned (OpenSpec.upto sealOtherSpec)

/-- 'medlarlaw03.MixPart', WHERE WHAT IT READS IS OF BULK AT MOST 1048576: true; the input reads as it did. -/
def mixPartUptoRow : OpenClaim := { program := "ytdaodopeodheeaa", sum := "82c646f7455ce8b1b5a83d28f6e21a3b2845267a3fa4e39dadacd2e7f91297ef", func := "medlar/medlarlaw03.MixPart", spec := "mixPart", apart := false, narrowed := true }
def MixPartUptoSaid : Prop := mixPartUptoRow.holds Try.pinned (OpenSpec.upto mixPartSpec)

/-- 'medlarlaw04.SealDoes', WHERE WHAT IT READS IS OF BULK AT MOST 1048576: true; the input reads as it did. -/
def sealDoesUptoRow : OpenClaim := { program := "ytdaodopeodheeaa", sum := "82c646f7455ce8b1b5a83d28f6e21a3b2845267a3fa4e39dadacd2e7f91297ef", func := "medlar/medlarlaw04.SealDoes", spec := "sealDoes", apart := false, narrowed := true }
def SealDoesUptoSaid : Prop := sealDoesUptoRow.holds Try.pinned (OpenSpec.upto sealDoesSpec)

/-- 'medlarlaw04.SealOctets', WHERE WHAT IT READS IS OF BULK AT MOST 1048576: true; the input reads as it did. -/
def sealOctetsUptoRow : OpenClaim := { program := "ytdaodopeodheeaa", sum := "82c646f7455ce8b1b5a83d28f6e21a3b2845267a3fa4e39dadacd2e7f91297ef", func := "medlar/medlarlaw04.SealOctets", spec := "sealOctets", apart := false, narrowed := true }
def SealOctetsUptoSaid : Prop := sealOctetsUptoRow.holds Try.pinned (OpenSpec.upto sealOctetsSpec)

end Rows
end Go.Proofs.Ytdaodopeodheeaa
