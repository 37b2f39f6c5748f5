/-
  No cell of these rows narrows 'for every input' (looked for: loops, veiled, ifaces, maps, wideKeys, modest, calm, conditions, laid).
  DERIVED. THE GIVEN ROWS OF THIS SEAT. 10 by the template 'for every input the law returns true; each argument reads behind the call as it read before'; 0 by the template 'total and deterministic' (their statements: YtfgakofjkldcjaaTotals.lean).
  GIVEN WITH THE SEED: the statements are not yours to turn. If you find one false, say at which input.
  Laid BY PROGRAM, IN A SANDBOX (cutbox-rows.mjs): the forced cells as the released guide's own fill.sh prints them over the translation 5397669f32248f2d… (all of the seat's roots in one cut). By AI agents, Wed Nov 11 2026. No macro, syntax, notation, axiom, sorry.
-/
import Derived.Test.YtfgakofjkldcjaaChecked
import GoSem.Claim
import GoSem.ClaimJoined
import GoSem.ClaimMapViews
import Derived.JoinedTies
import Derived.KernelRfl
namespace Go.Proofs.Ytfgakofjkldcjaa
/- THE CELL 'sum', in the pinned program and in every row, IS THE sha256 OF THE DUMP (.gsa) THAT YtfgakofjkldcjaaProg.lean LOADS. Nothing in Lean hashes anything: it is a label: what it is worth is what the hold of that sum in a sandbox is worth. -/
noncomputable def Try.pinned : Pinned := { name := "ytfgakofjkldcjaa", sum := "5397669f32248f2de61ae53e64e6c09994f3ab996d808514ecc579060d5ec8a8", checked := Try.checked }
namespace Rows
def none {H : Type} : Left H := { results := [], args := [] }

/-- 'corsnedlaw34.PartsTells': WHATEVER THE INPUT: true; the input reads as it did. -/
def partsTellsSpec : ChangeSpec := { name := "partsTells", fn := fun _ => fun
  | [d] => { results := [.lit (.bool true)], args := [d] }
  | _ => none }
def partsTellsRow : OpenClaim := { program := "ytfgakofjkldcjaa", sum := "5397669f32248f2de61ae53e64e6c09994f3ab996d808514ecc579060d5ec8a8", func := "corsned/corsnedlaw34.PartsTells", spec := "partsTells", unfollowed := true, recurses := true, named := ["math/bits.divideError", "math/bits.overflowError"], plainKeys := false, apart := false }
def PartsTellsSaid : Prop := partsTellsRow.holds Try.pinned (OpenSpec.ofChange partsTellsSpec)

/-- ITS FALSE NEIGHBOUR: 'it returns false'. Refute it at one input. -/
def partsTellsWrong : ChangeSpec := { name := "partsTells", fn := fun _ => fun
  | [d] => { results := [.lit (.bool false)], args := [d] }
  | _ => none }
def PartsTellsWrongFalsely : Prop := partsTellsRow.holds Try.pinned (OpenSpec.ofChange partsTellsWrong)

/-- 'corsnedlaw34.PartsWhole': WHATEVER THE INPUT: true; the input reads as it did. -/
def partsWholeSpec : ChangeSpec := { name := "partsWhole", fn := fun _ => fun
  | [d1, d2, d3, d4, d5, d6] => { results := [.lit (.bool true)], args := [d1, d2, d3, d4, d5, d6] }
  | _ => none }
def partsWholeRow : OpenClaim := { program := "ytfgakofjkldcjaa", sum := "5397669f32248f2de61ae53e64e6c09994f3ab996d808514ecc579060d5ec8a8", func := "corsned/corsnedlaw34.PartsWhole", spec := "partsWhole", unfollowed := true, recurses := true, named := ["math/bits.divideError", "math/bits.overflowError"], plainKeys := false, apart := false }
def PartsWholeSaid : Prop := partsWholeRow.holds Try.pinned (OpenSpec.ofChange partsWholeSpec)

/-- ITS FALSE NEIGHBOUR: 'it returns false'. Refute it at one input. -/
def partsWholeWrong : ChangeSpec := { name := "partsWhole", fn := fun _ => fun
  | [d1, d2, d3, d4, d5, d6] => { results := [.lit (.bool false)], args := [d1, d2, d3, d4, d5, d6] }
  | _ => none }
def PartsWholeWrongFalsely : Prop := partsWholeRow.holds Try.pinned (OpenSpec.ofChange partsWholeWrong)

/-- 'corsnedlaw34.PartsApart': WHATEVER THE INPUT: true; the input reads as it did. -/
def partsApartSpec : ChangeSpec := { name := "partsApart", fn := fun _ => fun
  | [d] => { results := [.lit (.bool true)], args := [d] }
  | _ => none }
def partsApartRow : OpenClaim := { program := "ytfgakofjkldcjaa", sum := "5397669f32248f2de61ae53e64e6c09994f3ab996d808514ecc579060d5ec8a8", func := "corsned/corsnedlaw34.PartsApart", spec := "partsApart", unfollowed := true, recurses := true, named := ["math/bits.divideError", "math/bits.overflowError"], plainKeys := false, apart := false }
def PartsApartSaid : Prop := partsApartRow.holds Try.pinned (OpenSpec.ofChange partsApartSpec)

/-- ITS FALSE NEIGHBOUR: 'it returns false'. Refute it at one input. -/
def partsApartWrong : ChangeSpec := { name := "partsApart", fn := fun _ => fun
  | [d] => { results := [.lit (.bool false)], args := [d] }
  | _ => none }
def PartsApartWrongFalsely : Prop := partsApartRow.holds Try.pinned (OpenSpec.ofChange partsApartWrong)

/-- 'corsnedlaw36.GraphCosts': WHATEVER THE INPUT: true; the input reads as it did. -/
def graphCostsSpec : ChangeSpec := { name := "graphCosts", fn := fun _ => fun
  | [d1, d2, d3, d4] => { results := [.lit (.bool true)], args := [d1, d2, d3, d4] }
  | _ => none }
def graphCostsRow : OpenClaim := { program := "ytfgakofjkldcjaa", sum := "5397669f32248f2de61ae53e64e6c09994f3ab996d808514ecc579060d5ec8a8", func := "corsned/corsnedlaw36.GraphCosts", spec := "graphCosts", unfollowed := true, recurses := true, named := ["math/bits.divideError", "math/bits.overflowError"], plainKeys := false, apart := false }
def GraphCostsSaid : Prop := graphCostsRow.holds Try.pinned (OpenSpec.ofChange graphCostsSpec)

/-- ITS FALSE NEIGHBOUR: 'it returns false'. Refute it at one input. -/
def graphCostsWrong : ChangeSpec := { name := "graphCosts", fn := fun _ => fun
  | [d1, d2, d3, d4] => { results := [.lit (.bool false)], args := [d1, d2, d3, d4] }
  | _ => none }
def GraphCostsWrongFalsely : Prop := graphCostsRow.holds Try.pinned (OpenSpec.ofChange graphCostsWrong)

/-- 'corsnedlaw36.GraphSums': WHATEVER THE INPUT: true; the input reads as it did. -/
def graphSumsSpec : ChangeSpec := { name := "graphSums", fn := fun _ => fun
  | [d1, d2, d3] => { results := [.lit (.bool true)], args := [d1, d2, d3] }
  | _ => none }
def graphSumsRow : OpenClaim := { program := "ytfgakofjkldcjaa", sum := "5397669f32248f2de61ae53e64e6c09994f3ab996d808514ecc579060d5ec8a8", func := "corsned/corsnedlaw36.GraphSums", spec := "graphSums", unfollowed := true, recurses := true, named := ["math/bits.divideError", "math/bits.overflowError"], plainKeys := false, apart := false }
def GraphSumsSaid : Prop := graphSumsRow.holds Try.pinned (OpenSpec.ofChange graphSumsSpec)

/-- ITS FALSE NEIGHBOUR: 'it returns false'. Refute it at one input. -/
def graphSumsWrong : ChangeSpec := { name := "graphSums", fn := fun _ => fun
  | [d1, d2, d3] => { results := [.lit (.bool false)], args := [d1, d2, d3] }
  | _ => none }
def GraphSumsWrongFalsely : Prop := graphSumsRow.holds Try.pinned (OpenSpec.ofChange graphSumsWrong)

/-- 'corsnedlaw36.GraphTails': WHATEVER THE INPUT: true; the input reads as it did. -/
def graphTailsSpec : ChangeSpec := { name := "graphTails", fn := fun _ => fun
  | [d1, d2, d3, d4] => { results := [.lit (.bool true)], args := [d1, d2, d3, d4] }
  | _ => none }
def graphTailsRow : OpenClaim := { program := "ytfgakofjkldcjaa", sum := "5397669f32248f2de61ae53e64e6c09994f3ab996d808514ecc579060d5ec8a8", func := "corsned/corsnedlaw36.GraphTails", spec := "graphTails", unfollowed := true, recurses := true, named := ["math/bits.divideError", "math/bits.overflowError"], plainKeys := false, apart := false }
def GraphTailsSaid : Prop := graphTailsRow.holds Try.pinned (OpenSpec.ofChange graphTailsSpec)

/-- ITS FALSE NEIGHBOUR: 'it returns false'. Refute it at one input. -/
def graphTailsWrong : ChangeSpec := { name := "graphTails", fn := fun _ => fun
  | [d1, d2, d3, d4] => { results := [.lit (.bool false)], args := [d1, d2, d3, d4] }
  | _ => none }
def GraphTailsWrongFalsely : Prop := graphTailsRow.holds Try.pinned (OpenSpec.ofChange graphTailsWrong)

/-- 'corsnedlaw36.GraphSorts': WHATEVER THE INPUT: true; the input reads as it did. -/
def graphSortsSpec : ChangeSpec := { name := "graphSorts", fn := fun _ => fun
  | [d] => { results := [.lit (.bool true)], args := [d] }
  | _ => none }
def graphSortsRow : OpenClaim := { program := "ytfgakofjkldcjaa", sum := "5397669f32248f2de61ae53e64e6c09994f3ab996d808514ecc579060d5ec8a8", func := "corsned/corsnedlaw36.GraphSorts", spec := "graphSorts", unfollowed := true, recurses := true, named := ["math/bits.divideError", "math/bits.overflowError"], plainKeys := false, apart := false }
def GraphSortsSaid : Prop := graphSortsRow.holds Try.pinned (OpenSpec.ofChange graphSortsSpec)

/-- ITS FALSE NEIGHBOUR: 'it returns false'. Refute it at one input. -/
def graphSortsWrong : ChangeSpec := { name := "graphSorts", fn := fun _ => fun
  | [d] => { results := [.lit (.bool false)], args := [d] }
  | _ => none }
def GraphSortsWrongFalsely : Prop := graphSortsRow.holds Try.pinned (OpenSpec.ofChange graphSortsWrong)

/-- 'corsnedlaw36.GraphProofs': WHATEVER THE INPUT: true; the input reads as it did. -/
def graphProofsSpec : ChangeSpec := { name := "graphProofs", fn := fun _ => fun
  | [d1, d2, d3, d4, d5] => { results := [.lit (.bool true)], args := [d1, d2, d3, d4, d5] }
  | _ => none }
def graphProofsRow : OpenClaim := { program := "ytfgakofjkldcjaa", sum := "5397669f32248f2de61ae53e64e6c09994f3ab996d808514ecc579060d5ec8a8", func := "corsned/corsnedlaw36.GraphProofs", spec := "graphProofs", unfollowed := true, recurses := true, named := ["math/bits.divideError", "math/bits.overflowError"], plainKeys := false, apart := false }
def GraphProofsSaid : Prop := graphProofsRow.holds Try.pinned (OpenSpec.ofChange graphProofsSpec)

/-- ITS FALSE NEIGHBOUR: 'it returns false'. Refute it at one input. -/
def graphProofsWrong : ChangeSpec := { name := "graphProofs", fn := fun _ => fun
  | [d1, d2, d3, d4, d5] => { results := [.lit (.bool false)], args := [d1, d2, d3, d4, d5] }
  | _ => none }
def GraphProofsWrongFalsely : Prop := graphProofsRow.holds Try.pinned (OpenSpec.ofChange graphProofsWrong)

/-- 'corsnedlaw36.GraphPasses': WHATEVER THE INPUT: true; the input reads as it did. -/
def graphPassesSpec : ChangeSpec := { name := "graphPasses", fn := fun _ => fun
  | [d1, d2, d3, d4, d5, d6, d7] => { results := [.lit (.bool true)], args := [d1, d2, d3, d4, d5, d6, d7] }
  | _ => none }
def graphPassesRow : OpenClaim := { program := "ytfgakofjkldcjaa", sum := "5397669f32248f2de61ae53e64e6c09994f3ab996d808514ecc579060d5ec8a8", func := "corsned/corsnedlaw36.GraphPasses", spec := "graphPasses", unfollowed := true, recurses := true, named := ["math/bits.divideError", "math/bits.overflowError"], plainKeys := false, apart := false }
def GraphPassesSaid : Prop := graphPassesRow.holds Try.pinned (OpenSpec.ofChange graphPassesSpec)

/-- ITS FALSE NEIGHBOUR: 'it returns false'. Refute it at one input. -/
def graphPassesWrong : ChangeSpec := { name := "graphPasses", fn := fun _ => fun
  | [d1, d2, d3, d4, d5, d6, d7] => { results := [.lit (.bool false)], args := [d1, d2, d3, d4, d5, d6, d7] }
  | _ => none }
def GraphPassesWrongFalsely : Prop := graphPassesRow.holds Try.pinned (OpenSpec.ofChange graphPassesWrong)

/-- 'corsnedlaw34.PartsPeeled': WHATEVER THE INPUT: true; the input reads as it did. -/
def partsPeeledSpec : ChangeSpec := { name := "partsPeeled", fn := fun _ => fun
  | [d1, d2, d3, d4, d5] => { results := [.lit (.bool true)], args := [d1, d2, d3, d4, d5] }
  | _ => none }
def partsPeeledRow : OpenClaim := { program := "ytfgakofjkldcjaa", sum := "5397669f32248f2de61ae53e64e6c09994f3ab996d808514ecc579060d5ec8a8", func := "corsned/corsnedlaw34.PartsPeeled", spec := "partsPeeled", unfollowed := true, recurses := true, named := ["math/bits.divideError", "math/bits.overflowError"], plainKeys := false, apart := false }
def PartsPeeledSaid : Prop := partsPeeledRow.holds Try.pinned (OpenSpec.ofChange partsPeeledSpec)

/-- ITS FALSE NEIGHBOUR: 'it returns false'. Refute it at one input. -/
def partsPeeledWrong : ChangeSpec := { name := "partsPeeled", fn := fun _ => fun
  | [d1, d2, d3, d4, d5] => { results := [.lit (.bool false)], args := [d1, d2, d3, d4, d5] }
  | _ => none }
def PartsPeeledWrongFalsely : Prop := partsPeeledRow.holds Try.pinned (OpenSpec.ofChange partsPeeledWrong)

/- THE SECOND FORM. 'bulk': how many values and letters a reading holds, each counted each time it is reached (what is shared counts as often as it is met; a slice's spare places count too). A statement '..UptoSaid' is the law's where the arguments, and the package variables that the reading takes, are together of bulk at most 1048576: NARROWER than '..Said'. Prove '..Said' where nothing that the law and all that it calls make is longer than what came in: it says more and counts as full. Else prove '..UptoSaid'. A law counts once. -/
mutual
def uptoBulk {H : Type} : DataW H → Nat
  | .lit (.string bytes) => bytes.length + 1
  | .lit _ => 1
  | .nil => 1
  | .ptr d => uptoBulk d + 1
  | .slice elems spare => uptoBulkAll elems + uptoBulkAll spare + 1
  | .agg parts => uptoBulkAll parts + 1
  | .iface _ d => uptoBulk d + 1
  | .map entries => uptoBulkEntries entries + 1
  | .held _ => 1
def uptoBulkAll {H : Type} : List (DataW H) → Nat
  | [] => 0
  | d :: r => uptoBulk d + uptoBulkAll r
def uptoBulkEntries {H : Type} : List (Lit × DataW H) → Nat
  | [] => 0
  | x :: r => uptoBulkEntry x + uptoBulkEntries r
def uptoBulkEntry {H : Type} : Lit × DataW H → Nat
  | (.string bytes, d) => bytes.length + uptoBulk d + 1
  | (_, d) => uptoBulk d + 1
 end
def uptoSmall : (H : Type) → List (DataW H) → Bool := fun _ ds => decide (uptoBulkAll ds ≤ 1048576)
def OpenSpec.upto (s : _root_.Go.ChangeSpec) : _root_.Go.OpenSpec := { _root_.Go.OpenSpec.ofChange s with cond := some uptoSmall }

/-- 'corsnedlaw34.PartsTells', WHERE WHAT IT READS IS OF BULK AT MOST 1048576: true; the input reads as it did. -/
def partsTellsUptoRow : OpenClaim := { program := "ytfgakofjkldcjaa", sum := "5397669f32248f2de61ae53e64e6c09994f3ab996d808514ecc579060d5ec8a8", func := "corsned/corsnedlaw34.PartsTells", spec := "partsTells", unfollowed := true, recurses := true, named := ["math/bits.divideError", "math/bits.overflowError"], plainKeys := false, apart := false, narrowed := true }
def PartsTellsUptoSaid : Prop := partsTellsUptoRow.holds Try.pinned (OpenSpec.upto partsTellsSpec)

/-- 'corsnedlaw34.PartsWhole', WHERE WHAT IT READS IS OF BULK AT MOST 1048576: true; the input reads as it did. -/
def partsWholeUptoRow : OpenClaim := { program := "ytfgakofjkldcjaa", sum := "5397669f32248f2de61ae53e64e6c09994f3ab996d808514ecc579060d5ec8a8", func := "corsned/corsnedlaw34.PartsWhole", spec := "partsWhole", unfollowed := true, recurses := true, named := ["math/bits.divideError", "math/bits.overflowError"], plainKeys := false, apart := false, narrowed := true }
def PartsWholeUptoSaid : Prop := partsWholeUptoRow.holds Try.pinned (OpenSpec.upto partsWholeSpec)

/-- 'corsnedlaw34.PartsApart', WHERE WHAT IT READS IS OF BULK AT MOST 1048576: true; the input reads as it did. -/
def partsApartUptoRow : OpenClaim := { program := "ytfgakofjkldcjaa", sum := "5397669f32248f2de61ae53e64e6c09994f3ab996d808514ecc579060d5ec8a8", func := "corsned/corsnedlaw34.PartsApart", spec := "partsApart", unfollowed := true, recurses := true, named := ["math/bits.divideError", "math/bits.overflowError"], plainKeys := false, apart := false, narrowed := true }
def PartsApartUptoSaid : Prop := partsApartUptoRow.holds Try.pinned (OpenSpec.upto partsApartSpec)

/-- 'corsnedlaw36.GraphCosts', WHERE WHAT IT READS IS OF BULK AT MOST 1048576: true; the input reads as it did. -/
def graphCostsUptoRow : OpenClaim := { program := "ytfgakofjkldcjaa", sum := "5397669f32248f2de61ae53e64e6c09994f3ab996d808514ecc579060d5ec8a8", func := "corsned/corsnedlaw36.GraphCosts", spec := "graphCosts", unfollowed := true, recurses := true, named := ["math/bits.divideError", "math/bits.overflowError"], plainKeys := false, apart := false, narrowed := true }
def GraphCostsUptoSaid : Prop := graphCostsUptoRow.holds Try.pinned (OpenSpec.upto graphCostsSpec)

/-- 'corsnedlaw36.GraphSums', WHERE WHAT IT READS IS OF BULK AT MOST 1048576: true; the input reads as it did. -/
def graphSumsUptoRow : OpenClaim := { program := "ytfgakofjkldcjaa", sum := "5397669f32248f2de61ae53e64e6c09994f3ab996d808514ecc579060d5ec8a8", func := "corsned/corsnedlaw36.GraphSums", spec := "graphSums", unfollowed := true, recurses := true, named := ["math/bits.divideError", "math/bits.overflowError"], plainKeys := false, apart := false, narrowed := true }
def GraphSumsUptoSaid : Prop := graphSumsUptoRow.holds Try.pinned (OpenSpec.upto graphSumsSpec)

/-- 'corsnedlaw36.GraphTails', WHERE WHAT IT READS IS OF BULK AT MOST 1048576: true; the input reads as it did. -/
def graphTailsUptoRow : OpenClaim := { program := "ytfgakofjkldcjaa", sum := "5397669f32248f2de61ae53e64e6c09994f3ab996d808514ecc579060d5ec8a8", func := "corsned/corsnedlaw36.GraphTails", spec := "graphTails", unfollowed := true, recurses := true, named := ["math/bits.divideError", "math/bits.overflowError"], plainKeys := false, apart := false, narrowed := true }
def GraphTailsUptoSaid : Prop := graphTailsUptoRow.holds Try.pinned (OpenSpec.upto graphTailsSpec)

/-- 'corsnedlaw36.GraphSorts', WHERE WHAT IT READS IS OF BULK AT MOST 1048576: true; the input reads as it did. -/
def graphSortsUptoRow : OpenClaim := { program := "ytfgakofjkldcjaa", sum := "5397669f32248f2de61ae53e64e6c09994f3ab996d808514ecc579060d5ec8a8", func := "corsned/corsnedlaw36.GraphSorts", spec := "graphSorts", unfollowed := true, recurses := true, named := ["math/bits.divideError", "math/bits.overflowError"], plainKeys := false, apart := false, narrowed := true }
def GraphSortsUptoSaid : Prop := graphSortsUptoRow.holds Try.pinned (OpenSpec.upto graphSortsSpec)

/-- 'corsnedlaw36.GraphProofs', WHERE WHAT IT READS IS OF BULK AT MOST 1048576: true; the input reads as it did. -/
def graphProofsUptoRow : OpenClaim := { program := "ytfgakofjkldcjaa", sum := "5397669f32248f2de61ae53e64e6c09994f3ab996d808514ecc579060d5ec8a8", func := "corsned/corsnedlaw36.GraphProofs", spec := "graphProofs", unfollowed := true, recurses := true, named := ["math/bits.divideError", "math/bits.overflowError"], plainKeys := false, apart := false, narrowed := true }
def GraphProofsUptoSaid : Prop := graphProofsUptoRow.holds Try.pinned (OpenSpec.upto graphProofsSpec)

/-- 'corsnedlaw36.GraphPasses', WHERE WHAT IT READS IS OF BULK AT MOST 1048576: true; the input reads as it did. -/
def graphPassesUptoRow : OpenClaim := { program := "ytfgakofjkldcjaa", sum := "5397669f32248f2de61ae53e64e6c09994f3ab996d808514ecc579060d5ec8a8", func := "corsned/corsnedlaw36.GraphPasses", spec := "graphPasses", unfollowed := true, recurses := true, named := ["math/bits.divideError", "math/bits.overflowError"], plainKeys := false, apart := false, narrowed := true }
def GraphPassesUptoSaid : Prop := graphPassesUptoRow.holds Try.pinned (OpenSpec.upto graphPassesSpec)

/-- 'corsnedlaw34.PartsPeeled', WHERE WHAT IT READS IS OF BULK AT MOST 1048576: true; the input reads as it did. -/
def partsPeeledUptoRow : OpenClaim := { program := "ytfgakofjkldcjaa", sum := "5397669f32248f2de61ae53e64e6c09994f3ab996d808514ecc579060d5ec8a8", func := "corsned/corsnedlaw34.PartsPeeled", spec := "partsPeeled", unfollowed := true, recurses := true, named := ["math/bits.divideError", "math/bits.overflowError"], plainKeys := false, apart := false, narrowed := true }
def PartsPeeledUptoSaid : Prop := partsPeeledUptoRow.holds Try.pinned (OpenSpec.upto partsPeeledSpec)

end Rows
end Go.Proofs.Ytfgakofjkldcjaa
