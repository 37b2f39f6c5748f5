/-
  No cell of these rows narrows 'for every input' (looked for: loops, veiled, ifaces, maps, wideKeys, modest, calm, conditions, laid).
  DERIVED. THE GIVEN ROWS OF THIS SEAT. 2 by the template 'for every input the law returns true; each argument reads behind the call as it read before'; 0 by the template 'total and deterministic' (their statements: YtnnaglkehigjbaaTotals.lean).
  GIVEN WITH THE SEED: the statements are not yours to turn. If you find one false, say at which input.
  Laid BY PROGRAM, IN A SANDBOX (cutbox-rows.mjs): the forced cells as the released guide's own fill.sh prints them over the translation 893f3eb825f430bd… (all of the seat's roots in one cut). By AI agents, Wed Nov 11 2026. No macro, syntax, notation, axiom, sorry.
-/
import Derived.Test.YtnnaglkehigjbaaChecked
import GoSem.Claim
import GoSem.ClaimJoined
import GoSem.ClaimMapViews
import Derived.JoinedTies
import Derived.KernelRfl
namespace Go.Proofs.Ytnnaglkehigjbaa
/- THE CELL 'sum', in the pinned program and in every row, IS THE sha256 OF THE DUMP (.gsa) THAT YtnnaglkehigjbaaProg.lean LOADS. Nothing in Lean hashes anything: it is a label: what it is worth is what the hold of that sum in a sandbox is worth. -/
noncomputable def Try.pinned : Pinned := { name := "ytnnaglkehigjbaa", sum := "893f3eb825f430bdee6840d970b708212a954ac2ca3e8786c23f05b3f4c5cf8b", checked := Try.checked }
namespace Rows
def none {H : Type} : Left H := { results := [], args := [] }

/-- 'corsnedlaw36.GraphSorts': WHATEVER THE INPUT: true; the input reads as it did. -/
def graphSortsSpec : ChangeSpec := { name := "graphSorts", fn := fun _ => fun
  | [d] => { results := [.lit (.bool true)], args := [d] }
  | _ => none }
def graphSortsRow : OpenClaim := { program := "ytnnaglkehigjbaa", sum := "893f3eb825f430bdee6840d970b708212a954ac2ca3e8786c23f05b3f4c5cf8b", func := "corsned/corsnedlaw36.GraphSorts", spec := "graphSorts", unfollowed := true, recurses := true, named := ["math/bits.divideError", "math/bits.overflowError"], plainKeys := false, apart := false }
def GraphSortsSaid : Prop := graphSortsRow.holds Try.pinned (OpenSpec.ofChange graphSortsSpec)

/-- ITS FALSE NEIGHBOUR: 'it returns false'. Refute it at one input. -/
def graphSortsWrong : ChangeSpec := { name := "graphSorts", fn := fun _ => fun
  | [d] => { results := [.lit (.bool false)], args := [d] }
  | _ => none }
def GraphSortsWrongFalsely : Prop := graphSortsRow.holds Try.pinned (OpenSpec.ofChange graphSortsWrong)

/-- 'corsnedlaw34.PartsPeeled': WHATEVER THE INPUT: true; the input reads as it did. -/
def partsPeeledSpec : ChangeSpec := { name := "partsPeeled", fn := fun _ => fun
  | [d1, d2, d3, d4, d5] => { results := [.lit (.bool true)], args := [d1, d2, d3, d4, d5] }
  | _ => none }
def partsPeeledRow : OpenClaim := { program := "ytnnaglkehigjbaa", sum := "893f3eb825f430bdee6840d970b708212a954ac2ca3e8786c23f05b3f4c5cf8b", func := "corsned/corsnedlaw34.PartsPeeled", spec := "partsPeeled", unfollowed := true, recurses := true, named := ["math/bits.divideError", "math/bits.overflowError"], plainKeys := false, apart := false }
def PartsPeeledSaid : Prop := partsPeeledRow.holds Try.pinned (OpenSpec.ofChange partsPeeledSpec)

/-- ITS FALSE NEIGHBOUR: 'it returns false'. Refute it at one input. -/
def partsPeeledWrong : ChangeSpec := { name := "partsPeeled", fn := fun _ => fun
  | [d1, d2, d3, d4, d5] => { results := [.lit (.bool false)], args := [d1, d2, d3, d4, d5] }
  | _ => none }
def PartsPeeledWrongFalsely : Prop := partsPeeledRow.holds Try.pinned (OpenSpec.ofChange partsPeeledWrong)

/- THE SECOND FORM. 'bulk': how many values and letters a reading holds, each counted each time it is reached (what is shared counts as often as it is met; a slice's spare places count too). A statement '..UptoSaid' is the law's where the arguments, and the package variables that the reading takes, are together of bulk at most 1048576: NARROWER than '..Said'. Prove '..Said' where nothing that the law and all that it calls make is longer than what came in: it says more and counts as full. Else prove '..UptoSaid'. A law counts once. -/
mutual
def uptoBulk {H : Type} : DataW H → Nat
  | .lit (.string bytes) => bytes.length + 1
  | .lit _ => 1
  | .nil => 1
  | .ptr d => uptoBulk d + 1
  | .slice elems spare => uptoBulkAll elems + uptoBulkAll spare + 1
  | .agg parts => uptoBulkAll parts + 1
  | .iface _ d => uptoBulk d + 1
  | .map entries => uptoBulkEntries entries + 1
  | .held _ => 1
def uptoBulkAll {H : Type} : List (DataW H) → Nat
  | [] => 0
  | d :: r => uptoBulk d + uptoBulkAll r
def uptoBulkEntries {H : Type} : List (Lit × DataW H) → Nat
  | [] => 0
  | x :: r => uptoBulkEntry x + uptoBulkEntries r
def uptoBulkEntry {H : Type} : Lit × DataW H → Nat
  | (.string bytes, d) => bytes.length + uptoBulk d + 1
  | (_, d) => uptoBulk d + 1
 end
def uptoSmall : (H : Type) → List (DataW H) → Bool := fun _ ds => decide (uptoBulkAll ds ≤ 1048576)
def OpenSpec.upto (s : _root_.Go.ChangeSpec) : _root_.Go.OpenSpec := { _root_.Go.OpenSpec.ofChange s with cond := some uptoSmall }

/-- 'corsnedlaw36.GraphSorts', WHERE WHAT IT READS IS OF BULK AT MOST 1048576: true; the input reads as it did. -/
def graphSortsUptoRow : OpenClaim := { program := "ytnnaglkehigjbaa", sum := "893f3eb825f430bdee6840d970b708212a954ac2ca3e8786c23f05b3f4c5cf8b", func := "corsned/corsnedlaw36.GraphSorts", spec := "graphSorts", unfollowed := true, recurses := true, named := ["math/bits.divideError", "math/bits.overflowError"], plainKeys := false, apart := false, narrowed := true }
def GraphSortsUptoSaid : Prop := graphSortsUptoRow.holds Try.pinned (OpenSpec.upto graphSortsSpec)

/-- 'corsnedlaw34.PartsPeeled', WHERE WHAT IT READS IS OF BULK AT MOST 1048576: true; the input reads as it did. -/
def partsPeeledUptoRow : OpenClaim := { program := "ytnnaglkehigjbaa", sum := "893f3eb825f430bdee6840d970b708212a954ac2ca3e8786c23f05b3f4c5cf8b", func := "corsned/corsnedlaw34.PartsPeeled", spec := "partsPeeled", unfollowed := true, recurses := true, named := ["math/bits.divideError", "math/bits.overflowError"], plainKeys := false, apart := false, narrowed := true }
def PartsPeeledUptoSaid : Prop := partsPeeledUptoRow.holds Try.pinned (OpenSpec.upto partsPeeledSpec)

end Rows
end Go.Proofs.Ytnnaglkehigjbaa
