/-
  No cell of these rows narrows 'for every input' (looked for: loops, veiled, ifaces, maps, wideKeys, modest, calm, conditions, laid).
  DERIVED. THE GIVEN ROWS OF THIS SEAT. 8 by the template 'for every input the law returns true; each argument reads behind the call as it read before'; 0 by the template 'total and deterministic' (their statements: YtnmcbdbpafhinaaTotals.lean).
  GIVEN WITH THE SEED: the statements are not yours to turn. If you find one false, say at which input.
  Laid BY PROGRAM, IN A SANDBOX (cutbox-rows.mjs): the forced cells as the released guide's own fill.sh prints them over the translation ea30ffa794b456d1… (all of the seat's roots in one cut). By AI agents, Wed Nov 11 2026. No macro, syntax, notation, axiom, sorry.
-/
import Derived.Test.YtnmcbdbpafhinaaChecked
import GoSem.Claim
import GoSem.ClaimJoined
import GoSem.ClaimMapViews
import Derived.JoinedTies
import Derived.KernelRfl
namespace Go.Proofs.Ytnmcbdbpafhinaa
/- THE CELL 'sum', in the pinned program and in every row, IS THE sha256 OF THE DUMP (.gsa) THAT YtnmcbdbpafhinaaProg.lean LOADS. Nothing in Lean hashes anything: it is a label: what it is worth is what the hold of that sum in a sandbox is worth. -/
noncomputable def Try.pinned : Pinned := { name := "ytnmcbdbpafhinaa", sum := "ea30ffa794b456d149d3c5dc9950487ca35e30ba7dddd74192a9e95295e6a015", checked := Try.checked }
namespace Rows
def none {H : Type} : Left H := { results := [], args := [] }

/-- 'corsnedlaw46.LedgerPays': WHATEVER THE INPUT: true; the input reads as it did. -/
def ledgerPaysSpec : ChangeSpec := { name := "ledgerPays", fn := fun _ => fun
  | [d1, d2] => { results := [.lit (.bool true)], args := [d1, d2] }
  | _ => none }
def ledgerPaysRow : OpenClaim := { program := "ytnmcbdbpafhinaa", sum := "ea30ffa794b456d149d3c5dc9950487ca35e30ba7dddd74192a9e95295e6a015", func := "corsned/corsnedlaw46.LedgerPays", spec := "ledgerPays", inPlace := ["maps.clone"], unfollowed := true, recurses := true, named := ["math/bits.divideError", "math/bits.overflowError"], plainKeys := false, apart := false }
def LedgerPaysSaid : Prop := ledgerPaysRow.holds Try.pinned (OpenSpec.ofChange ledgerPaysSpec)

/-- ITS FALSE NEIGHBOUR: 'it returns false'. Refute it at one input. -/
def ledgerPaysWrong : ChangeSpec := { name := "ledgerPays", fn := fun _ => fun
  | [d1, d2] => { results := [.lit (.bool false)], args := [d1, d2] }
  | _ => none }
def LedgerPaysWrongFalsely : Prop := ledgerPaysRow.holds Try.pinned (OpenSpec.ofChange ledgerPaysWrong)

/-- 'corsnedlaw46.LedgerWhole': WHATEVER THE INPUT: true; the input reads as it did. -/
def ledgerWholeSpec : ChangeSpec := { name := "ledgerWhole", fn := fun _ => fun
  | [d1, d2] => { results := [.lit (.bool true)], args := [d1, d2] }
  | _ => none }
def ledgerWholeRow : OpenClaim := { program := "ytnmcbdbpafhinaa", sum := "ea30ffa794b456d149d3c5dc9950487ca35e30ba7dddd74192a9e95295e6a015", func := "corsned/corsnedlaw46.LedgerWhole", spec := "ledgerWhole", inPlace := ["maps.clone"], unfollowed := true, recurses := true, named := ["math/bits.divideError", "math/bits.overflowError"], plainKeys := false, apart := false }
def LedgerWholeSaid : Prop := ledgerWholeRow.holds Try.pinned (OpenSpec.ofChange ledgerWholeSpec)

/-- ITS FALSE NEIGHBOUR: 'it returns false'. Refute it at one input. -/
def ledgerWholeWrong : ChangeSpec := { name := "ledgerWhole", fn := fun _ => fun
  | [d1, d2] => { results := [.lit (.bool false)], args := [d1, d2] }
  | _ => none }
def LedgerWholeWrongFalsely : Prop := ledgerWholeRow.holds Try.pinned (OpenSpec.ofChange ledgerWholeWrong)

/-- 'corsnedlaw46.LedgerHolds': WHATEVER THE INPUT: true; the input reads as it did. -/
def ledgerHoldsSpec : ChangeSpec := { name := "ledgerHolds", fn := fun _ => fun
  | [d1, d2, d3, d4, d5, d6] => { results := [.lit (.bool true)], args := [d1, d2, d3, d4, d5, d6] }
  | _ => none }
def ledgerHoldsRow : OpenClaim := { program := "ytnmcbdbpafhinaa", sum := "ea30ffa794b456d149d3c5dc9950487ca35e30ba7dddd74192a9e95295e6a015", func := "corsned/corsnedlaw46.LedgerHolds", spec := "ledgerHolds", inPlace := ["maps.clone"], unfollowed := true, recurses := true, named := ["math/bits.divideError", "math/bits.overflowError"], plainKeys := false, apart := false }
def LedgerHoldsSaid : Prop := ledgerHoldsRow.holds Try.pinned (OpenSpec.ofChange ledgerHoldsSpec)

/-- ITS FALSE NEIGHBOUR: 'it returns false'. Refute it at one input. -/
def ledgerHoldsWrong : ChangeSpec := { name := "ledgerHolds", fn := fun _ => fun
  | [d1, d2, d3, d4, d5, d6] => { results := [.lit (.bool false)], args := [d1, d2, d3, d4, d5, d6] }
  | _ => none }
def LedgerHoldsWrongFalsely : Prop := ledgerHoldsRow.holds Try.pinned (OpenSpec.ofChange ledgerHoldsWrong)

/-- 'corsnedlaw35.GossipTrue': WHATEVER THE INPUT: true; the input reads as it did. -/
def gossipTrueSpec : ChangeSpec := { name := "gossipTrue", fn := fun _ => fun
  | [d1, d2] => { results := [.lit (.bool true)], args := [d1, d2] }
  | _ => none }
def gossipTrueRow : OpenClaim := { program := "ytnmcbdbpafhinaa", sum := "ea30ffa794b456d149d3c5dc9950487ca35e30ba7dddd74192a9e95295e6a015", func := "corsned/corsnedlaw35.GossipTrue", spec := "gossipTrue", unfollowed := true, recurses := true, named := ["math/bits.divideError", "math/bits.overflowError"], plainKeys := false, apart := false }
def GossipTrueSaid : Prop := gossipTrueRow.holds Try.pinned (OpenSpec.ofChange gossipTrueSpec)

/-- ITS FALSE NEIGHBOUR: 'it returns false'. Refute it at one input. -/
def gossipTrueWrong : ChangeSpec := { name := "gossipTrue", fn := fun _ => fun
  | [d1, d2] => { results := [.lit (.bool false)], args := [d1, d2] }
  | _ => none }
def GossipTrueWrongFalsely : Prop := gossipTrueRow.holds Try.pinned (OpenSpec.ofChange gossipTrueWrong)

/-- 'corsnedlaw35.GossipOrder': WHATEVER THE INPUT: true; the input reads as it did. -/
def gossipOrderSpec : ChangeSpec := { name := "gossipOrder", fn := fun _ => fun
  | [d1, d2, d3] => { results := [.lit (.bool true)], args := [d1, d2, d3] }
  | _ => none }
def gossipOrderRow : OpenClaim := { program := "ytnmcbdbpafhinaa", sum := "ea30ffa794b456d149d3c5dc9950487ca35e30ba7dddd74192a9e95295e6a015", func := "corsned/corsnedlaw35.GossipOrder", spec := "gossipOrder", unfollowed := true, recurses := true, named := ["math/bits.divideError", "math/bits.overflowError"], plainKeys := false, apart := false }
def GossipOrderSaid : Prop := gossipOrderRow.holds Try.pinned (OpenSpec.ofChange gossipOrderSpec)

/-- ITS FALSE NEIGHBOUR: 'it returns false'. Refute it at one input. -/
def gossipOrderWrong : ChangeSpec := { name := "gossipOrder", fn := fun _ => fun
  | [d1, d2, d3] => { results := [.lit (.bool false)], args := [d1, d2, d3] }
  | _ => none }
def GossipOrderWrongFalsely : Prop := gossipOrderRow.holds Try.pinned (OpenSpec.ofChange gossipOrderWrong)

/-- 'corsnedlaw35.GossipFlood': WHATEVER THE INPUT: true; the input reads as it did. -/
def gossipFloodSpec : ChangeSpec := { name := "gossipFlood", fn := fun _ => fun
  | [d1, d2, d3, d4] => { results := [.lit (.bool true)], args := [d1, d2, d3, d4] }
  | _ => none }
def gossipFloodRow : OpenClaim := { program := "ytnmcbdbpafhinaa", sum := "ea30ffa794b456d149d3c5dc9950487ca35e30ba7dddd74192a9e95295e6a015", func := "corsned/corsnedlaw35.GossipFlood", spec := "gossipFlood", unfollowed := true, recurses := true, named := ["math/bits.divideError", "math/bits.overflowError"], plainKeys := false, apart := false }
def GossipFloodSaid : Prop := gossipFloodRow.holds Try.pinned (OpenSpec.ofChange gossipFloodSpec)

/-- ITS FALSE NEIGHBOUR: 'it returns false'. Refute it at one input. -/
def gossipFloodWrong : ChangeSpec := { name := "gossipFlood", fn := fun _ => fun
  | [d1, d2, d3, d4] => { results := [.lit (.bool false)], args := [d1, d2, d3, d4] }
  | _ => none }
def GossipFloodWrongFalsely : Prop := gossipFloodRow.holds Try.pinned (OpenSpec.ofChange gossipFloodWrong)

/-- 'corsnedlaw35.GossipSigned': WHATEVER THE INPUT: true; the input reads as it did. -/
def gossipSignedSpec : ChangeSpec := { name := "gossipSigned", fn := fun _ => fun
  | [d1, d2, d3, d4, d5] => { results := [.lit (.bool true)], args := [d1, d2, d3, d4, d5] }
  | _ => none }
def gossipSignedRow : OpenClaim := { program := "ytnmcbdbpafhinaa", sum := "ea30ffa794b456d149d3c5dc9950487ca35e30ba7dddd74192a9e95295e6a015", func := "corsned/corsnedlaw35.GossipSigned", spec := "gossipSigned", unfollowed := true, recurses := true, named := ["math/bits.divideError", "math/bits.overflowError"], plainKeys := false, apart := false }
def GossipSignedSaid : Prop := gossipSignedRow.holds Try.pinned (OpenSpec.ofChange gossipSignedSpec)

/-- ITS FALSE NEIGHBOUR: 'it returns false'. Refute it at one input. -/
def gossipSignedWrong : ChangeSpec := { name := "gossipSigned", fn := fun _ => fun
  | [d1, d2, d3, d4, d5] => { results := [.lit (.bool false)], args := [d1, d2, d3, d4, d5] }
  | _ => none }
def GossipSignedWrongFalsely : Prop := gossipSignedRow.holds Try.pinned (OpenSpec.ofChange gossipSignedWrong)

/-- 'corsnedlaw46.LedgerWays': WHATEVER THE INPUT: true; the input reads as it did. -/
def ledgerWaysSpec : ChangeSpec := { name := "ledgerWays", fn := fun _ => fun
  | [d1, d2, d3] => { results := [.lit (.bool true)], args := [d1, d2, d3] }
  | _ => none }
def ledgerWaysRow : OpenClaim := { program := "ytnmcbdbpafhinaa", sum := "ea30ffa794b456d149d3c5dc9950487ca35e30ba7dddd74192a9e95295e6a015", func := "corsned/corsnedlaw46.LedgerWays", spec := "ledgerWays", inPlace := ["maps.clone"], unfollowed := true, recurses := true, named := ["math/bits.divideError", "math/bits.overflowError"], plainKeys := false, apart := false }
def LedgerWaysSaid : Prop := ledgerWaysRow.holds Try.pinned (OpenSpec.ofChange ledgerWaysSpec)

/-- ITS FALSE NEIGHBOUR: 'it returns false'. Refute it at one input. -/
def ledgerWaysWrong : ChangeSpec := { name := "ledgerWays", fn := fun _ => fun
  | [d1, d2, d3] => { results := [.lit (.bool false)], args := [d1, d2, d3] }
  | _ => none }
def LedgerWaysWrongFalsely : Prop := ledgerWaysRow.holds Try.pinned (OpenSpec.ofChange ledgerWaysWrong)

/- THE SECOND FORM. 'bulk': how many values and letters a reading holds, each counted each time it is reached (what is shared counts as often as it is met; a slice's spare places count too). A statement '..UptoSaid' is the law's where the arguments, and the package variables that the reading takes, are together of bulk at most 1048576: NARROWER than '..Said'. Prove '..Said' where nothing that the law and all that it calls make is longer than what came in: it says more and counts as full. Else prove '..UptoSaid'. A law counts once. -/
mutual
def uptoBulk {H : Type} : DataW H → Nat
  | .lit (.string bytes) => bytes.length + 1
  | .lit _ => 1
  | .nil => 1
  | .ptr d => uptoBulk d + 1
  | .slice elems spare => uptoBulkAll elems + uptoBulkAll spare + 1
  | .agg parts => uptoBulkAll parts + 1
  | .iface _ d => uptoBulk d + 1
  | .map entries => uptoBulkEntries entries + 1
  | .held _ => 1
def uptoBulkAll {H : Type} : List (DataW H) → Nat
  | [] => 0
  | d :: r => uptoBulk d + uptoBulkAll r
def uptoBulkEntries {H : Type} : List (Lit × DataW H) → Nat
  | [] => 0
  | x :: r => uptoBulkEntry x + uptoBulkEntries r
def uptoBulkEntry {H : Type} : Lit × DataW H → Nat
  | (.string bytes, d) => bytes.length + uptoBulk d + 1
  | (_, d) => uptoBulk d + 1
 end
def uptoSmall : (H : Type) → List (DataW H) → Bool := fun _ ds => decide (uptoBulkAll ds ≤ 1048576)
def OpenSpec.upto (s : _root_.Go.ChangeSpec) : _root_.Go.OpenSpec := { _root_.Go.OpenSpec.ofChange s with cond := some uptoSmall }

/-- 'corsnedlaw46.LedgerPays', WHERE WHAT IT READS IS OF BULK AT MOST 1048576: true; the input reads as it did. -/
def ledgerPaysUptoRow : OpenClaim := { program := "ytnmcbdbpafhinaa", sum := "ea30ffa794b456d149d3c5dc9950487ca35e30ba7dddd74192a9e95295e6a015", func := "corsned/corsnedlaw46.LedgerPays", spec := "ledgerPays", inPlace := ["maps.clone"], unfollowed := true, recurses := true, named := ["math/bits.divideError", "math/bits.overflowError"], plainKeys := false, apart := false, narrowed := true }
def LedgerPaysUptoSaid : Prop := ledgerPaysUptoRow.holds Try.pinned (OpenSpec.upto ledgerPaysSpec)

/-- 'corsnedlaw46.LedgerWhole', WHERE WHAT IT READS IS OF BULK AT MOST 1048576: true; the input reads as it did. -/
def ledgerWholeUptoRow : OpenClaim := { program := "ytnmcbdbpafhinaa", sum := "ea30ffa794b456d149d3c5dc9950487ca35e30ba7dddd74192a9e95295e6a015", func := "corsned/corsnedlaw46.LedgerWhole", spec := "ledgerWhole", inPlace := ["maps.clone"], unfollowed := true, recurses := true, named := ["math/bits.divideError", "math/bits.overflowError"], plainKeys := false, apart := false, narrowed := true }
def LedgerWholeUptoSaid : Prop := ledgerWholeUptoRow.holds Try.pinned (OpenSpec.upto ledgerWholeSpec)

/-- 'corsnedlaw46.LedgerHolds', WHERE WHAT IT READS IS OF BULK AT MOST 1048576: true; the input reads as it did. -/
def ledgerHoldsUptoRow : OpenClaim := { program := "ytnmcbdbpafhinaa", sum := "ea30ffa794b456d149d3c5dc9950487ca35e30ba7dddd74192a9e95295e6a015", func := "corsned/corsnedlaw46.LedgerHolds", spec := "ledgerHolds", inPlace := ["maps.clone"], unfollowed := true, recurses := true, named := ["math/bits.divideError", "math/bits.overflowError"], plainKeys := false, apart := false, narrowed := true }
def LedgerHoldsUptoSaid : Prop := ledgerHoldsUptoRow.holds Try.pinned (OpenSpec.upto ledgerHoldsSpec)

/-- 'corsnedlaw35.GossipTrue', WHERE WHAT IT READS IS OF BULK AT MOST 1048576: true; the input reads as it did. -/
def gossipTrueUptoRow : OpenClaim := { program := "ytnmcbdbpafhinaa", sum := "ea30ffa794b456d149d3c5dc9950487ca35e30ba7dddd74192a9e95295e6a015", func := "corsned/corsnedlaw35.GossipTrue", spec := "gossipTrue", unfollowed := true, recurses := true, named := ["math/bits.divideError", "math/bits.overflowError"], plainKeys := false, apart := false, narrowed := true }
def GossipTrueUptoSaid : Prop := gossipTrueUptoRow.holds Try.pinned (OpenSpec.upto gossipTrueSpec)

/-- 'corsnedlaw35.GossipOrder', WHERE WHAT IT READS IS OF BULK AT MOST 1048576: true; the input reads as it did. -/
def gossipOrderUptoRow : OpenClaim := { program := "ytnmcbdbpafhinaa", sum := "ea30ffa794b456d149d3c5dc9950487ca35e30ba7dddd74192a9e95295e6a015", func := "corsned/corsnedlaw35.GossipOrder", spec := "gossipOrder", unfollowed := true, recurses := true, named := ["math/bits.divideError", "math/bits.overflowError"], plainKeys := false, apart := false, narrowed := true }
def GossipOrderUptoSaid : Prop := gossipOrderUptoRow.holds Try.pinned (OpenSpec.upto gossipOrderSpec)

/-- 'corsnedlaw35.GossipFlood', WHERE WHAT IT READS IS OF BULK AT MOST 1048576: true; the input reads as it did. -/
def gossipFloodUptoRow : OpenClaim := { program := "ytnmcbdbpafhinaa", sum := "ea30ffa794b456d149d3c5dc9950487ca35e30ba7dddd74192a9e95295e6a015", func := "corsned/corsnedlaw35.GossipFlood", spec := "gossipFlood", unfollowed := true, recurses := true, named := ["math/bits.divideError", "math/bits.overflowError"], plainKeys := false, apart := false, narrowed := true }
def GossipFloodUptoSaid : Prop := gossipFloodUptoRow.holds Try.pinned (OpenSpec.upto gossipFloodSpec)

/-- 'corsnedlaw35.GossipSigned', WHERE WHAT IT READS IS OF BULK AT MOST 1048576: true; the input reads as it did. -/
def gossipSignedUptoRow : OpenClaim := { program := "ytnmcbdbpafhinaa", sum := "ea30ffa794b456d149d3c5dc9950487ca35e30ba7dddd74192a9e95295e6a015", func := "corsned/corsnedlaw35.GossipSigned", spec := "gossipSigned", unfollowed := true, recurses := true, named := ["math/bits.divideError", "math/bits.overflowError"], plainKeys := false, apart := false, narrowed := true }
def GossipSignedUptoSaid : Prop := gossipSignedUptoRow.holds Try.pinned (OpenSpec.upto gossipSignedSpec)

/-- 'corsnedlaw46.LedgerWays', WHERE WHAT IT READS IS OF BULK AT MOST 1048576: true; the input reads as it did. -/
def ledgerWaysUptoRow : OpenClaim := { program := "ytnmcbdbpafhinaa", sum := "ea30ffa794b456d149d3c5dc9950487ca35e30ba7dddd74192a9e95295e6a015", func := "corsned/corsnedlaw46.LedgerWays", spec := "ledgerWays", inPlace := ["maps.clone"], unfollowed := true, recurses := true, named := ["math/bits.divideError", "math/bits.overflowError"], plainKeys := false, apart := false, narrowed := true }
def LedgerWaysUptoSaid : Prop := ledgerWaysUptoRow.holds Try.pinned (OpenSpec.upto ledgerWaysSpec)

end Rows
end Go.Proofs.Ytnmcbdbpafhinaa
