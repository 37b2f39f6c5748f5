/-
  No cell of these rows narrows 'for every input' (looked for: loops, veiled, ifaces, maps, wideKeys, modest, calm, conditions, laid).
  DERIVED. THE GIVEN ROWS OF THIS SEAT. 4 by the template 'for every input the law returns true; each argument reads behind the call as it read before'; 0 by the template 'total and deterministic' (their statements: YtbpfhenbcgjpcaaTotals.lean).
  GIVEN WITH THE SEED: the statements are not yours to turn. If you find one false, say at which input.
  Laid BY PROGRAM, IN A SANDBOX (cutbox-rows.mjs): the forced cells as the released guide's own fill.sh prints them over the translation 9dfd0a1c40648a19… (all of the seat's roots in one cut). By AI agents, Wed Nov 11 2026. No macro, syntax, notation, axiom, sorry.
-/
import Derived.Test.YtbpfhenbcgjpcaaChecked
import GoSem.Claim
import GoSem.ClaimJoined
import GoSem.ClaimMapViews
import Derived.JoinedTies
import Derived.KernelRfl
namespace Go.Proofs.Ytbpfhenbcgjpcaa
/- THE CELL 'sum', in the pinned program and in every row, IS THE sha256 OF THE DUMP (.gsa) THAT YtbpfhenbcgjpcaaProg.lean LOADS. Nothing in Lean hashes anything: it is a label: what it is worth is what the hold of that sum in a sandbox is worth. -/
noncomputable def Try.pinned : Pinned := { name := "ytbpfhenbcgjpcaa", sum := "9dfd0a1c40648a19ebb92c88cc7dfb9921bf24f95b5a914377c741fabc1d9222", checked := Try.checked }
namespace Rows
def none {H : Type} : Left H := { results := [], args := [] }

/-- 'corsnedlaw35.GossipTrue': WHATEVER THE INPUT: true; the input reads as it did. -/
def gossipTrueSpec : ChangeSpec := { name := "gossipTrue", fn := fun _ => fun
  | [d1, d2] => { results := [.lit (.bool true)], args := [d1, d2] }
  | _ => none }
def gossipTrueRow : OpenClaim := { program := "ytbpfhenbcgjpcaa", sum := "9dfd0a1c40648a19ebb92c88cc7dfb9921bf24f95b5a914377c741fabc1d9222", func := "corsned/corsnedlaw35.GossipTrue", spec := "gossipTrue", unfollowed := true, recurses := true, named := ["math/bits.divideError", "math/bits.overflowError"], plainKeys := false, apart := false }
def GossipTrueSaid : Prop := gossipTrueRow.holds Try.pinned (OpenSpec.ofChange gossipTrueSpec)

/-- ITS FALSE NEIGHBOUR: 'it returns false'. Refute it at one input. -/
def gossipTrueWrong : ChangeSpec := { name := "gossipTrue", fn := fun _ => fun
  | [d1, d2] => { results := [.lit (.bool false)], args := [d1, d2] }
  | _ => none }
def GossipTrueWrongFalsely : Prop := gossipTrueRow.holds Try.pinned (OpenSpec.ofChange gossipTrueWrong)

/-- 'corsnedlaw35.GossipOrder': WHATEVER THE INPUT: true; the input reads as it did. -/
def gossipOrderSpec : ChangeSpec := { name := "gossipOrder", fn := fun _ => fun
  | [d1, d2, d3] => { results := [.lit (.bool true)], args := [d1, d2, d3] }
  | _ => none }
def gossipOrderRow : OpenClaim := { program := "ytbpfhenbcgjpcaa", sum := "9dfd0a1c40648a19ebb92c88cc7dfb9921bf24f95b5a914377c741fabc1d9222", func := "corsned/corsnedlaw35.GossipOrder", spec := "gossipOrder", unfollowed := true, recurses := true, named := ["math/bits.divideError", "math/bits.overflowError"], plainKeys := false, apart := false }
def GossipOrderSaid : Prop := gossipOrderRow.holds Try.pinned (OpenSpec.ofChange gossipOrderSpec)

/-- ITS FALSE NEIGHBOUR: 'it returns false'. Refute it at one input. -/
def gossipOrderWrong : ChangeSpec := { name := "gossipOrder", fn := fun _ => fun
  | [d1, d2, d3] => { results := [.lit (.bool false)], args := [d1, d2, d3] }
  | _ => none }
def GossipOrderWrongFalsely : Prop := gossipOrderRow.holds Try.pinned (OpenSpec.ofChange gossipOrderWrong)

/-- 'corsnedlaw35.GossipFlood': WHATEVER THE INPUT: true; the input reads as it did. -/
def gossipFloodSpec : ChangeSpec := { name := "gossipFlood", fn := fun _ => fun
  | [d1, d2, d3, d4] => { results := [.lit (.bool true)], args := [d1, d2, d3, d4] }
  | _ => none }
def gossipFloodRow : OpenClaim := { program := "ytbpfhenbcgjpcaa", sum := "9dfd0a1c40648a19ebb92c88cc7dfb9921bf24f95b5a914377c741fabc1d9222", func := "corsned/corsnedlaw35.GossipFlood", spec := "gossipFlood", unfollowed := true, recurses := true, named := ["math/bits.divideError", "math/bits.overflowError"], plainKeys := false, apart := false }
def GossipFloodSaid : Prop := gossipFloodRow.holds Try.pinned (OpenSpec.ofChange gossipFloodSpec)

/-- ITS FALSE NEIGHBOUR: 'it returns false'. Refute it at one input. -/
def gossipFloodWrong : ChangeSpec := { name := "gossipFlood", fn := fun _ => fun
  | [d1, d2, d3, d4] => { results := [.lit (.bool false)], args := [d1, d2, d3, d4] }
  | _ => none }
def GossipFloodWrongFalsely : Prop := gossipFloodRow.holds Try.pinned (OpenSpec.ofChange gossipFloodWrong)

/-- 'corsnedlaw35.GossipSigned': WHATEVER THE INPUT: true; the input reads as it did. -/
def gossipSignedSpec : ChangeSpec := { name := "gossipSigned", fn := fun _ => fun
  | [d1, d2, d3, d4, d5] => { results := [.lit (.bool true)], args := [d1, d2, d3, d4, d5] }
  | _ => none }
def gossipSignedRow : OpenClaim := { program := "ytbpfhenbcgjpcaa", sum := "9dfd0a1c40648a19ebb92c88cc7dfb9921bf24f95b5a914377c741fabc1d9222", func := "corsned/corsnedlaw35.GossipSigned", spec := "gossipSigned", unfollowed := true, recurses := true, named := ["math/bits.divideError", "math/bits.overflowError"], plainKeys := false, apart := false }
def GossipSignedSaid : Prop := gossipSignedRow.holds Try.pinned (OpenSpec.ofChange gossipSignedSpec)

/-- ITS FALSE NEIGHBOUR: 'it returns false'. Refute it at one input. -/
def gossipSignedWrong : ChangeSpec := { name := "gossipSigned", fn := fun _ => fun
  | [d1, d2, d3, d4, d5] => { results := [.lit (.bool false)], args := [d1, d2, d3, d4, d5] }
  | _ => none }
def GossipSignedWrongFalsely : Prop := gossipSignedRow.holds Try.pinned (OpenSpec.ofChange gossipSignedWrong)

/- THE SECOND FORM. 'bulk': how many values and letters a reading holds, each counted each time it is reached (what is shared counts as often as it is met; a slice's spare places count too). A statement '..UptoSaid' is the law's where the arguments, and the package variables that the reading takes, are together of bulk at most 1048576: NARROWER than '..Said'. Prove '..Said' where nothing that the law and all that it calls make is longer than what came in: it says more and counts as full. Else prove '..UptoSaid'. A law counts once. -/
mutual
def uptoBulk {H : Type} : DataW H → Nat
  | .lit (.string bytes) => bytes.length + 1
  | .lit _ => 1
  | .nil => 1
  | .ptr d => uptoBulk d + 1
  | .slice elems spare => uptoBulkAll elems + uptoBulkAll spare + 1
  | .agg parts => uptoBulkAll parts + 1
  | .iface _ d => uptoBulk d + 1
  | .map entries => uptoBulkEntries entries + 1
  | .held _ => 1
def uptoBulkAll {H : Type} : List (DataW H) → Nat
  | [] => 0
  | d :: r => uptoBulk d + uptoBulkAll r
def uptoBulkEntries {H : Type} : List (Lit × DataW H) → Nat
  | [] => 0
  | x :: r => uptoBulkEntry x + uptoBulkEntries r
def uptoBulkEntry {H : Type} : Lit × DataW H → Nat
  | (.string bytes, d) => bytes.length + uptoBulk d + 1
  | (_, d) => uptoBulk d + 1
 end
def uptoSmall : (H : Type) → List (DataW H) → Bool := fun _ ds => decide (uptoBulkAll ds ≤ 1048576)
def OpenSpec.upto (s : _root_.Go.ChangeSpec) : _root_.Go.OpenSpec := { _root_.Go.OpenSpec.ofChange s with cond := some uptoSmall }

/-- 'corsnedlaw35.GossipTrue', WHERE WHAT IT READS IS OF BULK AT MOST 1048576: true; the input reads as it did. -/
def gossipTrueUptoRow : OpenClaim := { program := "ytbpfhenbcgjpcaa", sum := "9dfd0a1c40648a19ebb92c88cc7dfb9921bf24f95b5a914377c741fabc1d9222", func := "corsned/corsnedlaw35.GossipTrue", spec := "gossipTrue", unfollowed := true, recurses := true, named := ["math/bits.divideError", "math/bits.overflowError"], plainKeys := false, apart := false, narrowed := true }
def GossipTrueUptoSaid : Prop := gossipTrueUptoRow.holds Try.pinned (OpenSpec.upto gossipTrueSpec)

/-- 'corsnedlaw35.GossipOrder', WHERE WHAT IT READS IS OF BULK AT MOST 1048576: true; the input reads as it did. -/
def gossipOrderUptoRow : OpenClaim := { program := "ytbpfhenbcgjpcaa", sum := "9dfd0a1c40648a19ebb92c88cc7dfb9921bf24f95b5a914377c741fabc1d9222", func := "corsned/corsnedlaw35.GossipOrder", spec := "gossipOrder", unfollowed := true, recurses := true, named := ["math/bits.divideError", "math/bits.overflowError"], plainKeys := false, apart := false, narrowed := true }
def GossipOrderUptoSaid : Prop := gossipOrderUptoRow.holds Try.pinned (OpenSpec.upto gossipOrderSpec)

/-- 'corsnedlaw35.GossipFlood', WHERE WHAT IT READS IS OF BULK AT MOST 1048576: true; the input reads as it did. -/
def gossipFloodUptoRow : OpenClaim := { program := "ytbpfhenbcgjpcaa", sum := "9dfd0a1c40648a19ebb92c88cc7dfb9921bf24f95b5a914377c741fabc1d9222", func := "corsned/corsnedlaw35.GossipFlood", spec := "gossipFlood", unfollowed := true, recurses := true, named := ["math/bits.divideError", "math/bits.overflowError"], plainKeys := false, apart := false, narrowed := true }
def GossipFloodUptoSaid : Prop := gossipFloodUptoRow.holds Try.pinned (OpenSpec.upto gossipFloodSpec)

/-- 'corsnedlaw35.GossipSigned', WHERE WHAT IT READS IS OF BULK AT MOST 1048576: true; the input reads as it did. -/
def gossipSignedUptoRow : OpenClaim := { program := "ytbpfhenbcgjpcaa", sum := "9dfd0a1c40648a19ebb92c88cc7dfb9921bf24f95b5a914377c741fabc1d9222", func := "corsned/corsnedlaw35.GossipSigned", spec := "gossipSigned", unfollowed := true, recurses := true, named := ["math/bits.divideError", "math/bits.overflowError"], plainKeys := false, apart := false, narrowed := true }
def GossipSignedUptoSaid : Prop := gossipSignedUptoRow.holds Try.pinned (OpenSpec.upto gossipSignedSpec)

end Rows
end Go.Proofs.Ytbpfhenbcgjpcaa
