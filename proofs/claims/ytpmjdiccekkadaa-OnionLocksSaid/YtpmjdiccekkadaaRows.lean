/-
  No cell of these rows narrows 'for every input' (looked for: loops, veiled, ifaces, maps, wideKeys, modest, calm, conditions, laid).
  DERIVED. THE GIVEN ROWS OF THIS SEAT. 12 by the template 'for every input the law returns true; each argument reads behind the call as it read before'; 0 by the template 'total and deterministic' (their statements: YtpmjdiccekkadaaTotals.lean).
  GIVEN WITH THE SEED: the statements are not yours to turn. If you find one false, say at which input.
  Laid BY PROGRAM, IN A SANDBOX (cutbox-rows.mjs): the forced cells as the released guide's own fill.sh prints them over the translation d2fccf9120b8c0e4… (all of the seat's roots in one cut). By AI agents, Wed Nov 11 2026. No macro, syntax, notation, axiom, sorry.
-/
import Derived.Test.YtpmjdiccekkadaaChecked
import GoSem.Claim
import GoSem.ClaimJoined
import GoSem.ClaimMapViews
import Derived.JoinedTies
import Derived.KernelRfl
namespace Go.Proofs.Ytpmjdiccekkadaa
/- THE CELL 'sum', in the pinned program and in every row, IS THE sha256 OF THE DUMP (.gsa) THAT YtpmjdiccekkadaaProg.lean LOADS. Nothing in Lean hashes anything: it is a label: what it is worth is what the hold of that sum in a sandbox is worth. -/
noncomputable def Try.pinned : Pinned := { name := "ytpmjdiccekkadaa", sum := "d2fccf9120b8c0e4fec534d2a4809f9a0726a6ab9d3bc88f550c7dbbc4070e5c", checked := Try.checked }
namespace Rows
def none {H : Type} : Left H := { results := [], args := [] }

/-- 'corsnedlaw32.FaultTells': WHATEVER THE INPUT: true; the input reads as it did. -/
def faultTellsSpec : ChangeSpec := { name := "faultTells", fn := fun _ => fun
  | [d1, d2, d3, d4] => { results := [.lit (.bool true)], args := [d1, d2, d3, d4] }
  | _ => none }
def faultTellsRow : OpenClaim := { program := "ytpmjdiccekkadaa", sum := "d2fccf9120b8c0e4fec534d2a4809f9a0726a6ab9d3bc88f550c7dbbc4070e5c", func := "corsned/corsnedlaw32.FaultTells", spec := "faultTells", unfollowed := true, recurses := true, plainKeys := false, apart := false }
def FaultTellsSaid : Prop := faultTellsRow.holds Try.pinned (OpenSpec.ofChange faultTellsSpec)

/-- ITS FALSE NEIGHBOUR: 'it returns false'. Refute it at one input. -/
def faultTellsWrong : ChangeSpec := { name := "faultTells", fn := fun _ => fun
  | [d1, d2, d3, d4] => { results := [.lit (.bool false)], args := [d1, d2, d3, d4] }
  | _ => none }
def FaultTellsWrongFalsely : Prop := faultTellsRow.holds Try.pinned (OpenSpec.ofChange faultTellsWrong)

/-- 'corsnedlaw32.FaultBack': WHATEVER THE INPUT: true; the input reads as it did. -/
def faultBackSpec : ChangeSpec := { name := "faultBack", fn := fun _ => fun
  | [d1, d2, d3] => { results := [.lit (.bool true)], args := [d1, d2, d3] }
  | _ => none }
def faultBackRow : OpenClaim := { program := "ytpmjdiccekkadaa", sum := "d2fccf9120b8c0e4fec534d2a4809f9a0726a6ab9d3bc88f550c7dbbc4070e5c", func := "corsned/corsnedlaw32.FaultBack", spec := "faultBack", unfollowed := true, recurses := true, plainKeys := false, apart := false }
def FaultBackSaid : Prop := faultBackRow.holds Try.pinned (OpenSpec.ofChange faultBackSpec)

/-- ITS FALSE NEIGHBOUR: 'it returns false'. Refute it at one input. -/
def faultBackWrong : ChangeSpec := { name := "faultBack", fn := fun _ => fun
  | [d1, d2, d3] => { results := [.lit (.bool false)], args := [d1, d2, d3] }
  | _ => none }
def FaultBackWrongFalsely : Prop := faultBackRow.holds Try.pinned (OpenSpec.ofChange faultBackWrong)

/-- 'corsnedlaw32.FaultSpoiled': WHATEVER THE INPUT: true; the input reads as it did. -/
def faultSpoiledSpec : ChangeSpec := { name := "faultSpoiled", fn := fun _ => fun
  | [d1, d2, d3] => { results := [.lit (.bool true)], args := [d1, d2, d3] }
  | _ => none }
def faultSpoiledRow : OpenClaim := { program := "ytpmjdiccekkadaa", sum := "d2fccf9120b8c0e4fec534d2a4809f9a0726a6ab9d3bc88f550c7dbbc4070e5c", func := "corsned/corsnedlaw32.FaultSpoiled", spec := "faultSpoiled", unfollowed := true, recurses := true, plainKeys := false, apart := false }
def FaultSpoiledSaid : Prop := faultSpoiledRow.holds Try.pinned (OpenSpec.ofChange faultSpoiledSpec)

/-- ITS FALSE NEIGHBOUR: 'it returns false'. Refute it at one input. -/
def faultSpoiledWrong : ChangeSpec := { name := "faultSpoiled", fn := fun _ => fun
  | [d1, d2, d3] => { results := [.lit (.bool false)], args := [d1, d2, d3] }
  | _ => none }
def FaultSpoiledWrongFalsely : Prop := faultSpoiledRow.holds Try.pinned (OpenSpec.ofChange faultSpoiledWrong)

/-- 'corsnedlaw32.FaultLayers': WHATEVER THE INPUT: true; the input reads as it did. -/
def faultLayersSpec : ChangeSpec := { name := "faultLayers", fn := fun _ => fun
  | [d1, d2] => { results := [.lit (.bool true)], args := [d1, d2] }
  | _ => none }
def faultLayersRow : OpenClaim := { program := "ytpmjdiccekkadaa", sum := "d2fccf9120b8c0e4fec534d2a4809f9a0726a6ab9d3bc88f550c7dbbc4070e5c", func := "corsned/corsnedlaw32.FaultLayers", spec := "faultLayers", unfollowed := true, recurses := true, plainKeys := false, apart := false }
def FaultLayersSaid : Prop := faultLayersRow.holds Try.pinned (OpenSpec.ofChange faultLayersSpec)

/-- ITS FALSE NEIGHBOUR: 'it returns false'. Refute it at one input. -/
def faultLayersWrong : ChangeSpec := { name := "faultLayers", fn := fun _ => fun
  | [d1, d2] => { results := [.lit (.bool false)], args := [d1, d2] }
  | _ => none }
def FaultLayersWrongFalsely : Prop := faultLayersRow.holds Try.pinned (OpenSpec.ofChange faultLayersWrong)

/-- 'corsnedlaw32.FaultSteps': WHATEVER THE INPUT: true; the input reads as it did. -/
def faultStepsSpec : ChangeSpec := { name := "faultSteps", fn := fun _ => fun
  | [d1, d2, d3] => { results := [.lit (.bool true)], args := [d1, d2, d3] }
  | _ => none }
def faultStepsRow : OpenClaim := { program := "ytpmjdiccekkadaa", sum := "d2fccf9120b8c0e4fec534d2a4809f9a0726a6ab9d3bc88f550c7dbbc4070e5c", func := "corsned/corsnedlaw32.FaultSteps", spec := "faultSteps", unfollowed := true, recurses := true, plainKeys := false, apart := false }
def FaultStepsSaid : Prop := faultStepsRow.holds Try.pinned (OpenSpec.ofChange faultStepsSpec)

/-- ITS FALSE NEIGHBOUR: 'it returns false'. Refute it at one input. -/
def faultStepsWrong : ChangeSpec := { name := "faultSteps", fn := fun _ => fun
  | [d1, d2, d3] => { results := [.lit (.bool false)], args := [d1, d2, d3] }
  | _ => none }
def FaultStepsWrongFalsely : Prop := faultStepsRow.holds Try.pinned (OpenSpec.ofChange faultStepsWrong)

/-- 'corsnedlaw31.OnionWraps': WHATEVER THE INPUT: true; the input reads as it did. -/
def onionWrapsSpec : ChangeSpec := { name := "onionWraps", fn := fun _ => fun
  | [d1, d2, d3] => { results := [.lit (.bool true)], args := [d1, d2, d3] }
  | _ => none }
def onionWrapsRow : OpenClaim := { program := "ytpmjdiccekkadaa", sum := "d2fccf9120b8c0e4fec534d2a4809f9a0726a6ab9d3bc88f550c7dbbc4070e5c", func := "corsned/corsnedlaw31.OnionWraps", spec := "onionWraps", unfollowed := true, recurses := true, named := ["math/bits.divideError", "math/bits.overflowError"], plainKeys := false, apart := false }
def OnionWrapsSaid : Prop := onionWrapsRow.holds Try.pinned (OpenSpec.ofChange onionWrapsSpec)

/-- ITS FALSE NEIGHBOUR: 'it returns false'. Refute it at one input. -/
def onionWrapsWrong : ChangeSpec := { name := "onionWraps", fn := fun _ => fun
  | [d1, d2, d3] => { results := [.lit (.bool false)], args := [d1, d2, d3] }
  | _ => none }
def OnionWrapsWrongFalsely : Prop := onionWrapsRow.holds Try.pinned (OpenSpec.ofChange onionWrapsWrong)

/-- 'corsnedlaw31.OnionTells': WHATEVER THE INPUT: true; the input reads as it did. -/
def onionTellsSpec : ChangeSpec := { name := "onionTells", fn := fun _ => fun
  | [d1, d2] => { results := [.lit (.bool true)], args := [d1, d2] }
  | _ => none }
def onionTellsRow : OpenClaim := { program := "ytpmjdiccekkadaa", sum := "d2fccf9120b8c0e4fec534d2a4809f9a0726a6ab9d3bc88f550c7dbbc4070e5c", func := "corsned/corsnedlaw31.OnionTells", spec := "onionTells", unfollowed := true, recurses := true, named := ["math/bits.divideError", "math/bits.overflowError"], plainKeys := false, apart := false }
def OnionTellsSaid : Prop := onionTellsRow.holds Try.pinned (OpenSpec.ofChange onionTellsSpec)

/-- ITS FALSE NEIGHBOUR: 'it returns false'. Refute it at one input. -/
def onionTellsWrong : ChangeSpec := { name := "onionTells", fn := fun _ => fun
  | [d1, d2] => { results := [.lit (.bool false)], args := [d1, d2] }
  | _ => none }
def OnionTellsWrongFalsely : Prop := onionTellsRow.holds Try.pinned (OpenSpec.ofChange onionTellsWrong)

/-- 'corsnedlaw31.OnionPeels': WHATEVER THE INPUT: true; the input reads as it did. -/
def onionPeelsSpec : ChangeSpec := { name := "onionPeels", fn := fun _ => fun
  | [d1, d2, d3] => { results := [.lit (.bool true)], args := [d1, d2, d3] }
  | _ => none }
def onionPeelsRow : OpenClaim := { program := "ytpmjdiccekkadaa", sum := "d2fccf9120b8c0e4fec534d2a4809f9a0726a6ab9d3bc88f550c7dbbc4070e5c", func := "corsned/corsnedlaw31.OnionPeels", spec := "onionPeels", unfollowed := true, recurses := true, named := ["math/bits.divideError", "math/bits.overflowError"], plainKeys := false, apart := false }
def OnionPeelsSaid : Prop := onionPeelsRow.holds Try.pinned (OpenSpec.ofChange onionPeelsSpec)

/-- ITS FALSE NEIGHBOUR: 'it returns false'. Refute it at one input. -/
def onionPeelsWrong : ChangeSpec := { name := "onionPeels", fn := fun _ => fun
  | [d1, d2, d3] => { results := [.lit (.bool false)], args := [d1, d2, d3] }
  | _ => none }
def OnionPeelsWrongFalsely : Prop := onionPeelsRow.holds Try.pinned (OpenSpec.ofChange onionPeelsWrong)

/-- 'corsnedlaw31.OnionMacs': WHATEVER THE INPUT: true; the input reads as it did. -/
def onionMacsSpec : ChangeSpec := { name := "onionMacs", fn := fun _ => fun
  | [d1, d2, d3] => { results := [.lit (.bool true)], args := [d1, d2, d3] }
  | _ => none }
def onionMacsRow : OpenClaim := { program := "ytpmjdiccekkadaa", sum := "d2fccf9120b8c0e4fec534d2a4809f9a0726a6ab9d3bc88f550c7dbbc4070e5c", func := "corsned/corsnedlaw31.OnionMacs", spec := "onionMacs", unfollowed := true, recurses := true, named := ["math/bits.divideError", "math/bits.overflowError"], plainKeys := false, apart := false }
def OnionMacsSaid : Prop := onionMacsRow.holds Try.pinned (OpenSpec.ofChange onionMacsSpec)

/-- ITS FALSE NEIGHBOUR: 'it returns false'. Refute it at one input. -/
def onionMacsWrong : ChangeSpec := { name := "onionMacs", fn := fun _ => fun
  | [d1, d2, d3] => { results := [.lit (.bool false)], args := [d1, d2, d3] }
  | _ => none }
def OnionMacsWrongFalsely : Prop := onionMacsRow.holds Try.pinned (OpenSpec.ofChange onionMacsWrong)

/-- 'corsnedlaw31.OnionOnce': WHATEVER THE INPUT: true; the input reads as it did. -/
def onionOnceSpec : ChangeSpec := { name := "onionOnce", fn := fun _ => fun
  | [d] => { results := [.lit (.bool true)], args := [d] }
  | _ => none }
def onionOnceRow : OpenClaim := { program := "ytpmjdiccekkadaa", sum := "d2fccf9120b8c0e4fec534d2a4809f9a0726a6ab9d3bc88f550c7dbbc4070e5c", func := "corsned/corsnedlaw31.OnionOnce", spec := "onionOnce", unfollowed := true, recurses := true, named := ["math/bits.divideError", "math/bits.overflowError"], plainKeys := false, apart := false }
def OnionOnceSaid : Prop := onionOnceRow.holds Try.pinned (OpenSpec.ofChange onionOnceSpec)

/-- ITS FALSE NEIGHBOUR: 'it returns false'. Refute it at one input. -/
def onionOnceWrong : ChangeSpec := { name := "onionOnce", fn := fun _ => fun
  | [d] => { results := [.lit (.bool false)], args := [d] }
  | _ => none }
def OnionOnceWrongFalsely : Prop := onionOnceRow.holds Try.pinned (OpenSpec.ofChange onionOnceWrong)

/-- 'corsnedlaw31.OnionLocks': WHATEVER THE INPUT: true; the input reads as it did. -/
def onionLocksSpec : ChangeSpec := { name := "onionLocks", fn := fun _ => fun
  | [d1, d2, d3, d4, d5] => { results := [.lit (.bool true)], args := [d1, d2, d3, d4, d5] }
  | _ => none }
def onionLocksRow : OpenClaim := { program := "ytpmjdiccekkadaa", sum := "d2fccf9120b8c0e4fec534d2a4809f9a0726a6ab9d3bc88f550c7dbbc4070e5c", func := "corsned/corsnedlaw31.OnionLocks", spec := "onionLocks", unfollowed := true, recurses := true, named := ["math/bits.divideError", "math/bits.overflowError"], plainKeys := false, apart := false }
def OnionLocksSaid : Prop := onionLocksRow.holds Try.pinned (OpenSpec.ofChange onionLocksSpec)

/-- ITS FALSE NEIGHBOUR: 'it returns false'. Refute it at one input. -/
def onionLocksWrong : ChangeSpec := { name := "onionLocks", fn := fun _ => fun
  | [d1, d2, d3, d4, d5] => { results := [.lit (.bool false)], args := [d1, d2, d3, d4, d5] }
  | _ => none }
def OnionLocksWrongFalsely : Prop := onionLocksRow.holds Try.pinned (OpenSpec.ofChange onionLocksWrong)

/-- 'corsnedlaw32.FaultOnion': WHATEVER THE INPUT: true; the input reads as it did. -/
def faultOnionSpec : ChangeSpec := { name := "faultOnion", fn := fun _ => fun
  | [d1, d2, d3, d4] => { results := [.lit (.bool true)], args := [d1, d2, d3, d4] }
  | _ => none }
def faultOnionRow : OpenClaim := { program := "ytpmjdiccekkadaa", sum := "d2fccf9120b8c0e4fec534d2a4809f9a0726a6ab9d3bc88f550c7dbbc4070e5c", func := "corsned/corsnedlaw32.FaultOnion", spec := "faultOnion", unfollowed := true, recurses := true, named := ["math/bits.divideError", "math/bits.overflowError"], plainKeys := false, apart := false }
def FaultOnionSaid : Prop := faultOnionRow.holds Try.pinned (OpenSpec.ofChange faultOnionSpec)

/-- ITS FALSE NEIGHBOUR: 'it returns false'. Refute it at one input. -/
def faultOnionWrong : ChangeSpec := { name := "faultOnion", fn := fun _ => fun
  | [d1, d2, d3, d4] => { results := [.lit (.bool false)], args := [d1, d2, d3, d4] }
  | _ => none }
def FaultOnionWrongFalsely : Prop := faultOnionRow.holds Try.pinned (OpenSpec.ofChange faultOnionWrong)

/- THE SECOND FORM. 'bulk': how many values and letters a reading holds, each counted each time it is reached (what is shared counts as often as it is met; a slice's spare places count too). A statement '..UptoSaid' is the law's where the arguments, and the package variables that the reading takes, are together of bulk at most 1048576: NARROWER than '..Said'. Prove '..Said' where nothing that the law and all that it calls make is longer than what came in: it says more and counts as full. Else prove '..UptoSaid'. A law counts once. -/
mutual
def uptoBulk {H : Type} : DataW H → Nat
  | .lit (.string bytes) => bytes.length + 1
  | .lit _ => 1
  | .nil => 1
  | .ptr d => uptoBulk d + 1
  | .slice elems spare => uptoBulkAll elems + uptoBulkAll spare + 1
  | .agg parts => uptoBulkAll parts + 1
  | .iface _ d => uptoBulk d + 1
  | .map entries => uptoBulkEntries entries + 1
  | .held _ => 1
def uptoBulkAll {H : Type} : List (DataW H) → Nat
  | [] => 0
  | d :: r => uptoBulk d + uptoBulkAll r
def uptoBulkEntries {H : Type} : List (Lit × DataW H) → Nat
  | [] => 0
  | x :: r => uptoBulkEntry x + uptoBulkEntries r
def uptoBulkEntry {H : Type} : Lit × DataW H → Nat
  | (.string bytes, d) => bytes.length + uptoBulk d + 1
  | (_, d) => uptoBulk d + 1
 end
def uptoSmall : (H : Type) → List (DataW H) → Bool := fun _ ds => decide (uptoBulkAll ds ≤ 1048576)
def OpenSpec.upto (s : _root_.Go.ChangeSpec) : _root_.Go.OpenSpec := { _root_.Go.OpenSpec.ofChange s with cond := some uptoSmall }

/-- 'corsnedlaw32.FaultTells', WHERE WHAT IT READS IS OF BULK AT MOST 1048576: true; the input reads as it did. -/
def faultTellsUptoRow : OpenClaim := { program := "ytpmjdiccekkadaa", sum := "d2fccf9120b8c0e4fec534d2a4809f9a0726a6ab9d3bc88f550c7dbbc4070e5c", func := "corsned/corsnedlaw32.FaultTells", spec := "faultTells", unfollowed := true, recurses := true, plainKeys := false, apart := false, narrowed := true }
def FaultTellsUptoSaid : Prop := faultTellsUptoRow.holds Try.pinned (OpenSpec.upto faultTellsSpec)

/-- 'corsnedlaw32.FaultBack', WHERE WHAT IT READS IS OF BULK AT MOST 1048576: true; the input reads as it did. -/
def faultBackUptoRow : OpenClaim := { program := "ytpmjdiccekkadaa", sum := "d2fccf9120b8c0e4fec534d2a4809f9a0726a6ab9d3bc88f550c7dbbc4070e5c", func := "corsned/corsnedlaw32.FaultBack", spec := "faultBack", unfollowed := true, recurses := true, plainKeys := false, apart := false, narrowed := true }
def FaultBackUptoSaid : Prop := faultBackUptoRow.holds Try.pinned (OpenSpec.upto faultBackSpec)

/-- 'corsnedlaw32.FaultSpoiled', WHERE WHAT IT READS IS OF BULK AT MOST 1048576: true; the input reads as it did. -/
def faultSpoiledUptoRow : OpenClaim := { program := "ytpmjdiccekkadaa", sum := "d2fccf9120b8c0e4fec534d2a4809f9a0726a6ab9d3bc88f550c7dbbc4070e5c", func := "corsned/corsnedlaw32.FaultSpoiled", spec := "faultSpoiled", unfollowed := true, recurses := true, plainKeys := false, apart := false, narrowed := true }
def FaultSpoiledUptoSaid : Prop := faultSpoiledUptoRow.holds Try.pinned (OpenSpec.upto faultSpoiledSpec)

/-- 'corsnedlaw32.FaultLayers', WHERE WHAT IT READS IS OF BULK AT MOST 1048576: true; the input reads as it did. -/
def faultLayersUptoRow : OpenClaim := { program := "ytpmjdiccekkadaa", sum := "d2fccf9120b8c0e4fec534d2a4809f9a0726a6ab9d3bc88f550c7dbbc4070e5c", func := "corsned/corsnedlaw32.FaultLayers", spec := "faultLayers", unfollowed := true, recurses := true, plainKeys := false, apart := false, narrowed := true }
def FaultLayersUptoSaid : Prop := faultLayersUptoRow.holds Try.pinned (OpenSpec.upto faultLayersSpec)

/-- 'corsnedlaw32.FaultSteps', WHERE WHAT IT READS IS OF BULK AT MOST 1048576: true; the input reads as it did. -/
def faultStepsUptoRow : OpenClaim := { program := "ytpmjdiccekkadaa", sum := "d2fccf9120b8c0e4fec534d2a4809f9a0726a6ab9d3bc88f550c7dbbc4070e5c", func := "corsned/corsnedlaw32.FaultSteps", spec := "faultSteps", unfollowed := true, recurses := true, plainKeys := false, apart := false, narrowed := true }
def FaultStepsUptoSaid : Prop := faultStepsUptoRow.holds Try.pinned (OpenSpec.upto faultStepsSpec)

/-- 'corsnedlaw31.OnionWraps', WHERE WHAT IT READS IS OF BULK AT MOST 1048576: true; the input reads as it did. -/
def onionWrapsUptoRow : OpenClaim := { program := "ytpmjdiccekkadaa", sum := "d2fccf9120b8c0e4fec534d2a4809f9a0726a6ab9d3bc88f550c7dbbc4070e5c", func := "corsned/corsnedlaw31.OnionWraps", spec := "onionWraps", unfollowed := true, recurses := true, named := ["math/bits.divideError", "math/bits.overflowError"], plainKeys := false, apart := false, narrowed := true }
def OnionWrapsUptoSaid : Prop := onionWrapsUptoRow.holds Try.pinned (OpenSpec.upto onionWrapsSpec)

/-- 'corsnedlaw31.OnionTells', WHERE WHAT IT READS IS OF BULK AT MOST 1048576: true; the input reads as it did. -/
def onionTellsUptoRow : OpenClaim := { program := "ytpmjdiccekkadaa", sum := "d2fccf9120b8c0e4fec534d2a4809f9a0726a6ab9d3bc88f550c7dbbc4070e5c", func := "corsned/corsnedlaw31.OnionTells", spec := "onionTells", unfollowed := true, recurses := true, named := ["math/bits.divideError", "math/bits.overflowError"], plainKeys := false, apart := false, narrowed := true }
def OnionTellsUptoSaid : Prop := onionTellsUptoRow.holds Try.pinned (OpenSpec.upto onionTellsSpec)

/-- 'corsnedlaw31.OnionPeels', WHERE WHAT IT READS IS OF BULK AT MOST 1048576: true; the input reads as it did. -/
def onionPeelsUptoRow : OpenClaim := { program := "ytpmjdiccekkadaa", sum := "d2fccf9120b8c0e4fec534d2a4809f9a0726a6ab9d3bc88f550c7dbbc4070e5c", func := "corsned/corsnedlaw31.OnionPeels", spec := "onionPeels", unfollowed := true, recurses := true, named := ["math/bits.divideError", "math/bits.overflowError"], plainKeys := false, apart := false, narrowed := true }
def OnionPeelsUptoSaid : Prop := onionPeelsUptoRow.holds Try.pinned (OpenSpec.upto onionPeelsSpec)

/-- 'corsnedlaw31.OnionMacs', WHERE WHAT IT READS IS OF BULK AT MOST 1048576: true; the input reads as it did. -/
def onionMacsUptoRow : OpenClaim := { program := "ytpmjdiccekkadaa", sum := "d2fccf9120b8c0e4fec534d2a4809f9a0726a6ab9d3bc88f550c7dbbc4070e5c", func := "corsned/corsnedlaw31.OnionMacs", spec := "onionMacs", unfollowed := true, recurses := true, named := ["math/bits.divideError", "math/bits.overflowError"], plainKeys := false, apart := false, narrowed := true }
def OnionMacsUptoSaid : Prop := onionMacsUptoRow.holds Try.pinned (OpenSpec.upto onionMacsSpec)

/-- 'corsnedlaw31.OnionOnce', WHERE WHAT IT READS IS OF BULK AT MOST 1048576: true; the input reads as it did. -/
def onionOnceUptoRow : OpenClaim := { program := "ytpmjdiccekkadaa", sum := "d2fccf9120b8c0e4fec534d2a4809f9a0726a6ab9d3bc88f550c7dbbc4070e5c", func := "corsned/corsnedlaw31.OnionOnce", spec := "onionOnce", unfollowed := true, recurses := true, named := ["math/bits.divideError", "math/bits.overflowError"], plainKeys := false, apart := false, narrowed := true }
def OnionOnceUptoSaid : Prop := onionOnceUptoRow.holds Try.pinned (OpenSpec.upto onionOnceSpec)

/-- 'corsnedlaw31.OnionLocks', WHERE WHAT IT READS IS OF BULK AT MOST 1048576: true; the input reads as it did. -/
def onionLocksUptoRow : OpenClaim := { program := "ytpmjdiccekkadaa", sum := "d2fccf9120b8c0e4fec534d2a4809f9a0726a6ab9d3bc88f550c7dbbc4070e5c", func := "corsned/corsnedlaw31.OnionLocks", spec := "onionLocks", unfollowed := true, recurses := true, named := ["math/bits.divideError", "math/bits.overflowError"], plainKeys := false, apart := false, narrowed := true }
def OnionLocksUptoSaid : Prop := onionLocksUptoRow.holds Try.pinned (OpenSpec.upto onionLocksSpec)

/-- 'corsnedlaw32.FaultOnion', WHERE WHAT IT READS IS OF BULK AT MOST 1048576: true; the input reads as it did. -/
def faultOnionUptoRow : OpenClaim := { program := "ytpmjdiccekkadaa", sum := "d2fccf9120b8c0e4fec534d2a4809f9a0726a6ab9d3bc88f550c7dbbc4070e5c", func := "corsned/corsnedlaw32.FaultOnion", spec := "faultOnion", unfollowed := true, recurses := true, named := ["math/bits.divideError", "math/bits.overflowError"], plainKeys := false, apart := false, narrowed := true }
def FaultOnionUptoSaid : Prop := faultOnionUptoRow.holds Try.pinned (OpenSpec.upto faultOnionSpec)

end Rows
end Go.Proofs.Ytpmjdiccekkadaa
