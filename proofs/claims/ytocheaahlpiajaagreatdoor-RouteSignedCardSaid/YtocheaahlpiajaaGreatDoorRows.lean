/-
  NARROWER THAN 'FOR EVERY INPUT', by the rows' own cells (each row's printed sentence says how): SplitShares: laid · SplitProofs: laid · SplitTells: laid · SplitFits: laid · SplitOne: laid · SplitMore: laid · RoutePeels: laid · SplitPeeled: laid · SplitHeld: laid · RouteSigned: laid.
  DERIVED. THE GIVEN ROWS OF THIS SEAT. 10 by the template 'for every input the law returns true; each argument reads behind the call as it read before'; 0 by the template 'total and deterministic' (their statements: YtocheaahlpiajaaGreatDoorTotals.lean).
  GIVEN WITH THE SEED: the statements are not yours to turn. If you find one false, say at which input.
  Laid BY PROGRAM, IN A SANDBOX (cutbox-rows.mjs): the forced cells as the released guide's own fill.sh prints them over the translation 9f88d631d1a34660… (all of the seat's roots in one cut). By AI agents, Wed Nov 11 2026. No macro, syntax, notation, axiom, sorry.
-/
import Derived.Test.YtocheaahlpiajaaGreatDoorChecked
import GoSem.Claim
import GoSem.ClaimJoined
import GoSem.ClaimMapViews
import Derived.JoinedTies
import Derived.KernelRfl
namespace Go.Proofs.YtocheaahlpiajaaGreatDoor
/- THE CELL 'sum', in the pinned program and in every row, IS THE sha256 OF THE DUMP (.gsa) THAT YtocheaahlpiajaaGreatDoorProg.lean LOADS. Nothing in Lean hashes anything: it is a label: what it is worth is what the hold of that sum in a sandbox is worth. -/
noncomputable def Tryz.pinned : Pinned := { name := "ytocheaahlpiajaagreatdoor", sum := "9f88d631d1a346603a7d571a4c6fe1384fd2cdc5b839bda85713da11ff3cb373", checked := Tryz.checked }
namespace Rows
def none {H : Type} : Left H := { results := [], args := [] }

/- WHAT THE LISTED PACKAGE-LEVEL VARIABLES READ AS WHEN THE CALL BEGINS. Each datum BY PROGRAM (the guide's laid-datum.mjs) off the statement by which the dump's own 'gosem.cut.vars' lays the variable. In a bare row this is a premise. The card (YtocheaahlpiajaaGreatDoorCards.lean) ties it to the program's text. -/
def laid_math_bits_deBruijn32tab {H : Type} : DataW H := .agg [.lit (.int .u8 0), .lit (.int .u8 1), .lit (.int .u8 28), .lit (.int .u8 2), .lit (.int .u8 29), .lit (.int .u8 14), .lit (.int .u8 24), .lit (.int .u8 3), .lit (.int .u8 30), .lit (.int .u8 22), .lit (.int .u8 20), .lit (.int .u8 15), .lit (.int .u8 25), .lit (.int .u8 17), .lit (.int .u8 4), .lit (.int .u8 8), .lit (.int .u8 31), .lit (.int .u8 27), .lit (.int .u8 13), .lit (.int .u8 23), .lit (.int .u8 21), .lit (.int .u8 19), .lit (.int .u8 16), .lit (.int .u8 7), .lit (.int .u8 26), .lit (.int .u8 12), .lit (.int .u8 18), .lit (.int .u8 6), .lit (.int .u8 11), .lit (.int .u8 5), .lit (.int .u8 10), .lit (.int .u8 9)]
def laid_math_bits_deBruijn64tab {H : Type} : DataW H := .agg [.lit (.int .u8 0), .lit (.int .u8 1), .lit (.int .u8 56), .lit (.int .u8 2), .lit (.int .u8 57), .lit (.int .u8 49), .lit (.int .u8 28), .lit (.int .u8 3), .lit (.int .u8 61), .lit (.int .u8 58), .lit (.int .u8 42), .lit (.int .u8 50), .lit (.int .u8 38), .lit (.int .u8 29), .lit (.int .u8 17), .lit (.int .u8 4), .lit (.int .u8 62), .lit (.int .u8 47), .lit (.int .u8 59), .lit (.int .u8 36), .lit (.int .u8 45), .lit (.int .u8 43), .lit (.int .u8 51), .lit (.int .u8 22), .lit (.int .u8 53), .lit (.int .u8 39), .lit (.int .u8 33), .lit (.int .u8 30), .lit (.int .u8 24), .lit (.int .u8 18), .lit (.int .u8 12), .lit (.int .u8 5), .lit (.int .u8 63), .lit (.int .u8 55), .lit (.int .u8 48), .lit (.int .u8 27), .lit (.int .u8 60), .lit (.int .u8 41), .lit (.int .u8 37), .lit (.int .u8 16), .lit (.int .u8 46), .lit (.int .u8 35), .lit (.int .u8 44), .lit (.int .u8 21), .lit (.int .u8 52), .lit (.int .u8 32), .lit (.int .u8 23), .lit (.int .u8 11), .lit (.int .u8 54), .lit (.int .u8 26), .lit (.int .u8 40), .lit (.int .u8 15), .lit (.int .u8 34), .lit (.int .u8 20), .lit (.int .u8 31), .lit (.int .u8 10), .lit (.int .u8 25), .lit (.int .u8 14), .lit (.int .u8 19), .lit (.int .u8 9), .lit (.int .u8 13), .lit (.int .u8 8), .lit (.int .u8 7), .lit (.int .u8 6)]
def laid_internal_strconv_uint64pow10 {H : Type} : DataW H := .agg [.lit (.int .u64 1), .lit (.int .u64 10), .lit (.int .u64 100), .lit (.int .u64 1000), .lit (.int .u64 10000), .lit (.int .u64 100000), .lit (.int .u64 1000000), .lit (.int .u64 10000000), .lit (.int .u64 100000000), .lit (.int .u64 1000000000), .lit (.int .u64 10000000000), .lit (.int .u64 100000000000), .lit (.int .u64 1000000000000), .lit (.int .u64 10000000000000), .lit (.int .u64 100000000000000), .lit (.int .u64 1000000000000000), .lit (.int .u64 10000000000000000), .lit (.int .u64 100000000000000000), .lit (.int .u64 1000000000000000000), .lit (.int .u64 10000000000000000000)]

/-- 'corsnedlaw39.SplitShares': WHATEVER THE INPUT: true; the input reads as it did. -/
def splitSharesSpec : ChangeSpec := { name := "splitShares", fn := fun _ => fun
  | [d1, d2] => { results := [.lit (.bool true)], args := [d1, d2] }
  | _ => none }
def splitSharesRow : OpenClaim := { program := "ytocheaahlpiajaagreatdoor", sum := "9f88d631d1a346603a7d571a4c6fe1384fd2cdc5b839bda85713da11ff3cb373", func := "corsned/corsnedlaw39.SplitShares", spec := "splitShares", inPlace := ["maps.clone", "internal/abi.NoEscape", "internal/bytealg.MakeNoZero"], unfollowed := true, recurses := true, named := ["math/bits.divideError", "math/bits.overflowError", "internal/strconv.uint64pow10", "math/bits.deBruijn32tab", "math/bits.deBruijn64tab"], plainKeys := false, apart := false, laid := [("math/bits.deBruijn32tab", laid_math_bits_deBruijn32tab), ("math/bits.deBruijn64tab", laid_math_bits_deBruijn64tab), ("internal/strconv.uint64pow10", laid_internal_strconv_uint64pow10)] }
def SplitSharesSaid : Prop := splitSharesRow.holds Tryz.pinned (OpenSpec.ofChange splitSharesSpec)

/-- ITS FALSE NEIGHBOUR: 'it returns false'. Refute it at one input. -/
def splitSharesWrong : ChangeSpec := { name := "splitShares", fn := fun _ => fun
  | [d1, d2] => { results := [.lit (.bool false)], args := [d1, d2] }
  | _ => none }
def SplitSharesWrongFalsely : Prop := splitSharesRow.holds Tryz.pinned (OpenSpec.ofChange splitSharesWrong)

/-- 'corsnedlaw39.SplitProofs': WHATEVER THE INPUT: true; the input reads as it did. -/
def splitProofsSpec : ChangeSpec := { name := "splitProofs", fn := fun _ => fun
  | [d1, d2, d3] => { results := [.lit (.bool true)], args := [d1, d2, d3] }
  | _ => none }
def splitProofsRow : OpenClaim := { program := "ytocheaahlpiajaagreatdoor", sum := "9f88d631d1a346603a7d571a4c6fe1384fd2cdc5b839bda85713da11ff3cb373", func := "corsned/corsnedlaw39.SplitProofs", spec := "splitProofs", inPlace := ["maps.clone", "internal/abi.NoEscape", "internal/bytealg.MakeNoZero"], unfollowed := true, recurses := true, named := ["math/bits.divideError", "math/bits.overflowError", "internal/strconv.uint64pow10", "math/bits.deBruijn32tab", "math/bits.deBruijn64tab"], plainKeys := false, apart := false, laid := [("math/bits.deBruijn32tab", laid_math_bits_deBruijn32tab), ("math/bits.deBruijn64tab", laid_math_bits_deBruijn64tab), ("internal/strconv.uint64pow10", laid_internal_strconv_uint64pow10)] }
def SplitProofsSaid : Prop := splitProofsRow.holds Tryz.pinned (OpenSpec.ofChange splitProofsSpec)

/-- ITS FALSE NEIGHBOUR: 'it returns false'. Refute it at one input. -/
def splitProofsWrong : ChangeSpec := { name := "splitProofs", fn := fun _ => fun
  | [d1, d2, d3] => { results := [.lit (.bool false)], args := [d1, d2, d3] }
  | _ => none }
def SplitProofsWrongFalsely : Prop := splitProofsRow.holds Tryz.pinned (OpenSpec.ofChange splitProofsWrong)

/-- 'corsnedlaw39.SplitTells': WHATEVER THE INPUT: true; the input reads as it did. -/
def splitTellsSpec : ChangeSpec := { name := "splitTells", fn := fun _ => fun
  | [d1, d2, d3, d4, d5, d6, d7, d8, d9] => { results := [.lit (.bool true)], args := [d1, d2, d3, d4, d5, d6, d7, d8, d9] }
  | _ => none }
def splitTellsRow : OpenClaim := { program := "ytocheaahlpiajaagreatdoor", sum := "9f88d631d1a346603a7d571a4c6fe1384fd2cdc5b839bda85713da11ff3cb373", func := "corsned/corsnedlaw39.SplitTells", spec := "splitTells", inPlace := ["maps.clone", "internal/abi.NoEscape", "internal/bytealg.MakeNoZero"], unfollowed := true, recurses := true, named := ["math/bits.divideError", "math/bits.overflowError", "internal/strconv.uint64pow10", "math/bits.deBruijn32tab", "math/bits.deBruijn64tab"], plainKeys := false, apart := false, laid := [("math/bits.deBruijn32tab", laid_math_bits_deBruijn32tab), ("math/bits.deBruijn64tab", laid_math_bits_deBruijn64tab), ("internal/strconv.uint64pow10", laid_internal_strconv_uint64pow10)] }
def SplitTellsSaid : Prop := splitTellsRow.holds Tryz.pinned (OpenSpec.ofChange splitTellsSpec)

/-- ITS FALSE NEIGHBOUR: 'it returns false'. Refute it at one input. -/
def splitTellsWrong : ChangeSpec := { name := "splitTells", fn := fun _ => fun
  | [d1, d2, d3, d4, d5, d6, d7, d8, d9] => { results := [.lit (.bool false)], args := [d1, d2, d3, d4, d5, d6, d7, d8, d9] }
  | _ => none }
def SplitTellsWrongFalsely : Prop := splitTellsRow.holds Tryz.pinned (OpenSpec.ofChange splitTellsWrong)

/-- 'corsnedlaw39.SplitFits': WHATEVER THE INPUT: true; the input reads as it did. -/
def splitFitsSpec : ChangeSpec := { name := "splitFits", fn := fun _ => fun
  | [d1, d2, d3, d4, d5, d6, d7] => { results := [.lit (.bool true)], args := [d1, d2, d3, d4, d5, d6, d7] }
  | _ => none }
def splitFitsRow : OpenClaim := { program := "ytocheaahlpiajaagreatdoor", sum := "9f88d631d1a346603a7d571a4c6fe1384fd2cdc5b839bda85713da11ff3cb373", func := "corsned/corsnedlaw39.SplitFits", spec := "splitFits", inPlace := ["maps.clone", "internal/abi.NoEscape", "internal/bytealg.MakeNoZero"], unfollowed := true, recurses := true, named := ["math/bits.divideError", "math/bits.overflowError", "internal/strconv.uint64pow10", "math/bits.deBruijn32tab", "math/bits.deBruijn64tab"], plainKeys := false, apart := false, laid := [("math/bits.deBruijn32tab", laid_math_bits_deBruijn32tab), ("math/bits.deBruijn64tab", laid_math_bits_deBruijn64tab), ("internal/strconv.uint64pow10", laid_internal_strconv_uint64pow10)] }
def SplitFitsSaid : Prop := splitFitsRow.holds Tryz.pinned (OpenSpec.ofChange splitFitsSpec)

/-- ITS FALSE NEIGHBOUR: 'it returns false'. Refute it at one input. -/
def splitFitsWrong : ChangeSpec := { name := "splitFits", fn := fun _ => fun
  | [d1, d2, d3, d4, d5, d6, d7] => { results := [.lit (.bool false)], args := [d1, d2, d3, d4, d5, d6, d7] }
  | _ => none }
def SplitFitsWrongFalsely : Prop := splitFitsRow.holds Tryz.pinned (OpenSpec.ofChange splitFitsWrong)

/-- 'corsnedlaw39.SplitOne': WHATEVER THE INPUT: true; the input reads as it did. -/
def splitOneSpec : ChangeSpec := { name := "splitOne", fn := fun _ => fun
  | [d1, d2, d3, d4, d5] => { results := [.lit (.bool true)], args := [d1, d2, d3, d4, d5] }
  | _ => none }
def splitOneRow : OpenClaim := { program := "ytocheaahlpiajaagreatdoor", sum := "9f88d631d1a346603a7d571a4c6fe1384fd2cdc5b839bda85713da11ff3cb373", func := "corsned/corsnedlaw39.SplitOne", spec := "splitOne", inPlace := ["maps.clone", "internal/abi.NoEscape", "internal/bytealg.MakeNoZero"], unfollowed := true, recurses := true, named := ["math/bits.divideError", "math/bits.overflowError", "internal/strconv.uint64pow10", "math/bits.deBruijn32tab", "math/bits.deBruijn64tab"], plainKeys := false, apart := false, laid := [("math/bits.deBruijn32tab", laid_math_bits_deBruijn32tab), ("math/bits.deBruijn64tab", laid_math_bits_deBruijn64tab), ("internal/strconv.uint64pow10", laid_internal_strconv_uint64pow10)] }
def SplitOneSaid : Prop := splitOneRow.holds Tryz.pinned (OpenSpec.ofChange splitOneSpec)

/-- ITS FALSE NEIGHBOUR: 'it returns false'. Refute it at one input. -/
def splitOneWrong : ChangeSpec := { name := "splitOne", fn := fun _ => fun
  | [d1, d2, d3, d4, d5] => { results := [.lit (.bool false)], args := [d1, d2, d3, d4, d5] }
  | _ => none }
def SplitOneWrongFalsely : Prop := splitOneRow.holds Tryz.pinned (OpenSpec.ofChange splitOneWrong)

/-- 'corsnedlaw39.SplitMore': WHATEVER THE INPUT: true; the input reads as it did. -/
def splitMoreSpec : ChangeSpec := { name := "splitMore", fn := fun _ => fun
  | [d1, d2, d3, d4, d5, d6, d7] => { results := [.lit (.bool true)], args := [d1, d2, d3, d4, d5, d6, d7] }
  | _ => none }
def splitMoreRow : OpenClaim := { program := "ytocheaahlpiajaagreatdoor", sum := "9f88d631d1a346603a7d571a4c6fe1384fd2cdc5b839bda85713da11ff3cb373", func := "corsned/corsnedlaw39.SplitMore", spec := "splitMore", inPlace := ["maps.clone", "internal/abi.NoEscape", "internal/bytealg.MakeNoZero"], unfollowed := true, recurses := true, named := ["math/bits.divideError", "math/bits.overflowError", "internal/strconv.uint64pow10", "math/bits.deBruijn32tab", "math/bits.deBruijn64tab"], plainKeys := false, apart := false, laid := [("math/bits.deBruijn32tab", laid_math_bits_deBruijn32tab), ("math/bits.deBruijn64tab", laid_math_bits_deBruijn64tab), ("internal/strconv.uint64pow10", laid_internal_strconv_uint64pow10)] }
def SplitMoreSaid : Prop := splitMoreRow.holds Tryz.pinned (OpenSpec.ofChange splitMoreSpec)

/-- ITS FALSE NEIGHBOUR: 'it returns false'. Refute it at one input. -/
def splitMoreWrong : ChangeSpec := { name := "splitMore", fn := fun _ => fun
  | [d1, d2, d3, d4, d5, d6, d7] => { results := [.lit (.bool false)], args := [d1, d2, d3, d4, d5, d6, d7] }
  | _ => none }
def SplitMoreWrongFalsely : Prop := splitMoreRow.holds Tryz.pinned (OpenSpec.ofChange splitMoreWrong)

/-- 'corsnedlaw38.RoutePeels': WHATEVER THE INPUT: true; the input reads as it did. -/
def routePeelsSpec : ChangeSpec := { name := "routePeels", fn := fun _ => fun
  | [d1, d2, d3, d4, d5, d6, d7, d8, d9, d10] => { results := [.lit (.bool true)], args := [d1, d2, d3, d4, d5, d6, d7, d8, d9, d10] }
  | _ => none }
def routePeelsRow : OpenClaim := { program := "ytocheaahlpiajaagreatdoor", sum := "9f88d631d1a346603a7d571a4c6fe1384fd2cdc5b839bda85713da11ff3cb373", func := "corsned/corsnedlaw38.RoutePeels", spec := "routePeels", inPlace := ["internal/abi.NoEscape", "internal/bytealg.MakeNoZero"], unfollowed := true, recurses := true, named := ["math/bits.divideError", "math/bits.overflowError", "internal/strconv.uint64pow10", "math/bits.deBruijn32tab", "math/bits.deBruijn64tab"], plainKeys := false, apart := false, laid := [("math/bits.deBruijn32tab", laid_math_bits_deBruijn32tab), ("math/bits.deBruijn64tab", laid_math_bits_deBruijn64tab), ("internal/strconv.uint64pow10", laid_internal_strconv_uint64pow10)] }
def RoutePeelsSaid : Prop := routePeelsRow.holds Tryz.pinned (OpenSpec.ofChange routePeelsSpec)

/-- ITS FALSE NEIGHBOUR: 'it returns false'. Refute it at one input. -/
def routePeelsWrong : ChangeSpec := { name := "routePeels", fn := fun _ => fun
  | [d1, d2, d3, d4, d5, d6, d7, d8, d9, d10] => { results := [.lit (.bool false)], args := [d1, d2, d3, d4, d5, d6, d7, d8, d9, d10] }
  | _ => none }
def RoutePeelsWrongFalsely : Prop := routePeelsRow.holds Tryz.pinned (OpenSpec.ofChange routePeelsWrong)

/-- 'corsnedlaw39.SplitPeeled': WHATEVER THE INPUT: true; the input reads as it did. -/
def splitPeeledSpec : ChangeSpec := { name := "splitPeeled", fn := fun _ => fun
  | [d1, d2, d3, d4, d5, d6, d7, d8, d9] => { results := [.lit (.bool true)], args := [d1, d2, d3, d4, d5, d6, d7, d8, d9] }
  | _ => none }
def splitPeeledRow : OpenClaim := { program := "ytocheaahlpiajaagreatdoor", sum := "9f88d631d1a346603a7d571a4c6fe1384fd2cdc5b839bda85713da11ff3cb373", func := "corsned/corsnedlaw39.SplitPeeled", spec := "splitPeeled", inPlace := ["maps.clone", "internal/abi.NoEscape", "internal/bytealg.MakeNoZero"], unfollowed := true, recurses := true, named := ["math/bits.divideError", "math/bits.overflowError", "internal/strconv.uint64pow10", "math/bits.deBruijn32tab", "math/bits.deBruijn64tab"], plainKeys := false, apart := false, laid := [("math/bits.deBruijn32tab", laid_math_bits_deBruijn32tab), ("math/bits.deBruijn64tab", laid_math_bits_deBruijn64tab), ("internal/strconv.uint64pow10", laid_internal_strconv_uint64pow10)] }
def SplitPeeledSaid : Prop := splitPeeledRow.holds Tryz.pinned (OpenSpec.ofChange splitPeeledSpec)

/-- ITS FALSE NEIGHBOUR: 'it returns false'. Refute it at one input. -/
def splitPeeledWrong : ChangeSpec := { name := "splitPeeled", fn := fun _ => fun
  | [d1, d2, d3, d4, d5, d6, d7, d8, d9] => { results := [.lit (.bool false)], args := [d1, d2, d3, d4, d5, d6, d7, d8, d9] }
  | _ => none }
def SplitPeeledWrongFalsely : Prop := splitPeeledRow.holds Tryz.pinned (OpenSpec.ofChange splitPeeledWrong)

/-- 'corsnedlaw39.SplitHeld': WHATEVER THE INPUT: true; the input reads as it did. -/
def splitHeldSpec : ChangeSpec := { name := "splitHeld", fn := fun _ => fun
  | [d1, d2, d3, d4, d5, d6, d7, d8, d9] => { results := [.lit (.bool true)], args := [d1, d2, d3, d4, d5, d6, d7, d8, d9] }
  | _ => none }
def splitHeldRow : OpenClaim := { program := "ytocheaahlpiajaagreatdoor", sum := "9f88d631d1a346603a7d571a4c6fe1384fd2cdc5b839bda85713da11ff3cb373", func := "corsned/corsnedlaw39.SplitHeld", spec := "splitHeld", inPlace := ["maps.clone", "internal/abi.NoEscape", "internal/bytealg.MakeNoZero"], unfollowed := true, recurses := true, named := ["math/bits.divideError", "math/bits.overflowError", "internal/strconv.uint64pow10", "math/bits.deBruijn32tab", "math/bits.deBruijn64tab"], plainKeys := false, apart := false, laid := [("math/bits.deBruijn32tab", laid_math_bits_deBruijn32tab), ("math/bits.deBruijn64tab", laid_math_bits_deBruijn64tab), ("internal/strconv.uint64pow10", laid_internal_strconv_uint64pow10)] }
def SplitHeldSaid : Prop := splitHeldRow.holds Tryz.pinned (OpenSpec.ofChange splitHeldSpec)

/-- ITS FALSE NEIGHBOUR: 'it returns false'. Refute it at one input. -/
def splitHeldWrong : ChangeSpec := { name := "splitHeld", fn := fun _ => fun
  | [d1, d2, d3, d4, d5, d6, d7, d8, d9] => { results := [.lit (.bool false)], args := [d1, d2, d3, d4, d5, d6, d7, d8, d9] }
  | _ => none }
def SplitHeldWrongFalsely : Prop := splitHeldRow.holds Tryz.pinned (OpenSpec.ofChange splitHeldWrong)

/-- 'corsnedlaw38.RouteSigned': WHATEVER THE INPUT: true; the input reads as it did. -/
def routeSignedSpec : ChangeSpec := { name := "routeSigned", fn := fun _ => fun
  | [d1, d2, d3, d4, d5, d6] => { results := [.lit (.bool true)], args := [d1, d2, d3, d4, d5, d6] }
  | _ => none }
def routeSignedRow : OpenClaim := { program := "ytocheaahlpiajaagreatdoor", sum := "9f88d631d1a346603a7d571a4c6fe1384fd2cdc5b839bda85713da11ff3cb373", func := "corsned/corsnedlaw38.RouteSigned", spec := "routeSigned", inPlace := ["internal/abi.NoEscape", "internal/bytealg.MakeNoZero"], unfollowed := true, recurses := true, named := ["math/bits.divideError", "math/bits.overflowError", "internal/strconv.uint64pow10", "math/bits.deBruijn32tab", "math/bits.deBruijn64tab"], plainKeys := false, apart := false, laid := [("math/bits.deBruijn32tab", laid_math_bits_deBruijn32tab), ("math/bits.deBruijn64tab", laid_math_bits_deBruijn64tab), ("internal/strconv.uint64pow10", laid_internal_strconv_uint64pow10)] }
def RouteSignedSaid : Prop := routeSignedRow.holds Tryz.pinned (OpenSpec.ofChange routeSignedSpec)

/-- ITS FALSE NEIGHBOUR: 'it returns false'. Refute it at one input. -/
def routeSignedWrong : ChangeSpec := { name := "routeSigned", fn := fun _ => fun
  | [d1, d2, d3, d4, d5, d6] => { results := [.lit (.bool false)], args := [d1, d2, d3, d4, d5, d6] }
  | _ => none }
def RouteSignedWrongFalsely : Prop := routeSignedRow.holds Tryz.pinned (OpenSpec.ofChange routeSignedWrong)

/- THE SECOND FORM. 'bulk': how many values and letters a reading holds, each counted each time it is reached (what is shared counts as often as it is met; a slice's spare places count too). A statement '..UptoSaid' is the law's where the arguments, and the package variables that the reading takes, are together of bulk at most 1048576: NARROWER than '..Said'. Prove '..Said' where nothing that the law and all that it calls make is longer than what came in: it says more and counts as full. Else prove '..UptoSaid'. A law counts once. -/
mutual
def uptoBulk {H : Type} : DataW H → Nat
  | .lit (.string bytes) => bytes.length + 1
  | .lit _ => 1
  | .nil => 1
  | .ptr d => uptoBulk d + 1
  | .slice elems spare => uptoBulkAll elems + uptoBulkAll spare + 1
  | .agg parts => uptoBulkAll parts + 1
  | .iface _ d => uptoBulk d + 1
  | .map entries => uptoBulkEntries entries + 1
  | .held _ => 1
def uptoBulkAll {H : Type} : List (DataW H) → Nat
  | [] => 0
  | d :: r => uptoBulk d + uptoBulkAll r
def uptoBulkEntries {H : Type} : List (Lit × DataW H) → Nat
  | [] => 0
  | x :: r => uptoBulkEntry x + uptoBulkEntries r
def uptoBulkEntry {H : Type} : Lit × DataW H → Nat
  | (.string bytes, d) => bytes.length + uptoBulk d + 1
  | (_, d) => uptoBulk d + 1
 end
def uptoSmall : (H : Type) → List (DataW H) → Bool := fun _ ds => decide (uptoBulkAll ds ≤ 1048576)
def OpenSpec.upto (s : _root_.Go.ChangeSpec) : _root_.Go.OpenSpec := { _root_.Go.OpenSpec.ofChange s with cond := some uptoSmall }

/-- 'corsnedlaw39.SplitShares', WHERE WHAT IT READS IS OF BULK AT MOST 1048576: true; the input reads as it did. -/
def splitSharesUptoRow : OpenClaim := { program := "ytocheaahlpiajaagreatdoor", sum := "9f88d631d1a346603a7d571a4c6fe1384fd2cdc5b839bda85713da11ff3cb373", func := "corsned/corsnedlaw39.SplitShares", spec := "splitShares", inPlace := ["maps.clone", "internal/abi.NoEscape", "internal/bytealg.MakeNoZero"], unfollowed := true, recurses := true, named := ["math/bits.divideError", "math/bits.overflowError", "internal/strconv.uint64pow10", "math/bits.deBruijn32tab", "math/bits.deBruijn64tab"], plainKeys := false, apart := false, laid := [("math/bits.deBruijn32tab", laid_math_bits_deBruijn32tab), ("math/bits.deBruijn64tab", laid_math_bits_deBruijn64tab), ("internal/strconv.uint64pow10", laid_internal_strconv_uint64pow10)], narrowed := true }
def SplitSharesUptoSaid : Prop := splitSharesUptoRow.holds Tryz.pinned (OpenSpec.upto splitSharesSpec)

/-- 'corsnedlaw39.SplitProofs', WHERE WHAT IT READS IS OF BULK AT MOST 1048576: true; the input reads as it did. -/
def splitProofsUptoRow : OpenClaim := { program := "ytocheaahlpiajaagreatdoor", sum := "9f88d631d1a346603a7d571a4c6fe1384fd2cdc5b839bda85713da11ff3cb373", func := "corsned/corsnedlaw39.SplitProofs", spec := "splitProofs", inPlace := ["maps.clone", "internal/abi.NoEscape", "internal/bytealg.MakeNoZero"], unfollowed := true, recurses := true, named := ["math/bits.divideError", "math/bits.overflowError", "internal/strconv.uint64pow10", "math/bits.deBruijn32tab", "math/bits.deBruijn64tab"], plainKeys := false, apart := false, laid := [("math/bits.deBruijn32tab", laid_math_bits_deBruijn32tab), ("math/bits.deBruijn64tab", laid_math_bits_deBruijn64tab), ("internal/strconv.uint64pow10", laid_internal_strconv_uint64pow10)], narrowed := true }
def SplitProofsUptoSaid : Prop := splitProofsUptoRow.holds Tryz.pinned (OpenSpec.upto splitProofsSpec)

/-- 'corsnedlaw39.SplitTells', WHERE WHAT IT READS IS OF BULK AT MOST 1048576: true; the input reads as it did. -/
def splitTellsUptoRow : OpenClaim := { program := "ytocheaahlpiajaagreatdoor", sum := "9f88d631d1a346603a7d571a4c6fe1384fd2cdc5b839bda85713da11ff3cb373", func := "corsned/corsnedlaw39.SplitTells", spec := "splitTells", inPlace := ["maps.clone", "internal/abi.NoEscape", "internal/bytealg.MakeNoZero"], unfollowed := true, recurses := true, named := ["math/bits.divideError", "math/bits.overflowError", "internal/strconv.uint64pow10", "math/bits.deBruijn32tab", "math/bits.deBruijn64tab"], plainKeys := false, apart := false, laid := [("math/bits.deBruijn32tab", laid_math_bits_deBruijn32tab), ("math/bits.deBruijn64tab", laid_math_bits_deBruijn64tab), ("internal/strconv.uint64pow10", laid_internal_strconv_uint64pow10)], narrowed := true }
def SplitTellsUptoSaid : Prop := splitTellsUptoRow.holds Tryz.pinned (OpenSpec.upto splitTellsSpec)

/-- 'corsnedlaw39.SplitFits', WHERE WHAT IT READS IS OF BULK AT MOST 1048576: true; the input reads as it did. -/
def splitFitsUptoRow : OpenClaim := { program := "ytocheaahlpiajaagreatdoor", sum := "9f88d631d1a346603a7d571a4c6fe1384fd2cdc5b839bda85713da11ff3cb373", func := "corsned/corsnedlaw39.SplitFits", spec := "splitFits", inPlace := ["maps.clone", "internal/abi.NoEscape", "internal/bytealg.MakeNoZero"], unfollowed := true, recurses := true, named := ["math/bits.divideError", "math/bits.overflowError", "internal/strconv.uint64pow10", "math/bits.deBruijn32tab", "math/bits.deBruijn64tab"], plainKeys := false, apart := false, laid := [("math/bits.deBruijn32tab", laid_math_bits_deBruijn32tab), ("math/bits.deBruijn64tab", laid_math_bits_deBruijn64tab), ("internal/strconv.uint64pow10", laid_internal_strconv_uint64pow10)], narrowed := true }
def SplitFitsUptoSaid : Prop := splitFitsUptoRow.holds Tryz.pinned (OpenSpec.upto splitFitsSpec)

/-- 'corsnedlaw39.SplitOne', WHERE WHAT IT READS IS OF BULK AT MOST 1048576: true; the input reads as it did. -/
def splitOneUptoRow : OpenClaim := { program := "ytocheaahlpiajaagreatdoor", sum := "9f88d631d1a346603a7d571a4c6fe1384fd2cdc5b839bda85713da11ff3cb373", func := "corsned/corsnedlaw39.SplitOne", spec := "splitOne", inPlace := ["maps.clone", "internal/abi.NoEscape", "internal/bytealg.MakeNoZero"], unfollowed := true, recurses := true, named := ["math/bits.divideError", "math/bits.overflowError", "internal/strconv.uint64pow10", "math/bits.deBruijn32tab", "math/bits.deBruijn64tab"], plainKeys := false, apart := false, laid := [("math/bits.deBruijn32tab", laid_math_bits_deBruijn32tab), ("math/bits.deBruijn64tab", laid_math_bits_deBruijn64tab), ("internal/strconv.uint64pow10", laid_internal_strconv_uint64pow10)], narrowed := true }
def SplitOneUptoSaid : Prop := splitOneUptoRow.holds Tryz.pinned (OpenSpec.upto splitOneSpec)

/-- 'corsnedlaw39.SplitMore', WHERE WHAT IT READS IS OF BULK AT MOST 1048576: true; the input reads as it did. -/
def splitMoreUptoRow : OpenClaim := { program := "ytocheaahlpiajaagreatdoor", sum := "9f88d631d1a346603a7d571a4c6fe1384fd2cdc5b839bda85713da11ff3cb373", func := "corsned/corsnedlaw39.SplitMore", spec := "splitMore", inPlace := ["maps.clone", "internal/abi.NoEscape", "internal/bytealg.MakeNoZero"], unfollowed := true, recurses := true, named := ["math/bits.divideError", "math/bits.overflowError", "internal/strconv.uint64pow10", "math/bits.deBruijn32tab", "math/bits.deBruijn64tab"], plainKeys := false, apart := false, laid := [("math/bits.deBruijn32tab", laid_math_bits_deBruijn32tab), ("math/bits.deBruijn64tab", laid_math_bits_deBruijn64tab), ("internal/strconv.uint64pow10", laid_internal_strconv_uint64pow10)], narrowed := true }
def SplitMoreUptoSaid : Prop := splitMoreUptoRow.holds Tryz.pinned (OpenSpec.upto splitMoreSpec)

/-- 'corsnedlaw38.RoutePeels', WHERE WHAT IT READS IS OF BULK AT MOST 1048576: true; the input reads as it did. -/
def routePeelsUptoRow : OpenClaim := { program := "ytocheaahlpiajaagreatdoor", sum := "9f88d631d1a346603a7d571a4c6fe1384fd2cdc5b839bda85713da11ff3cb373", func := "corsned/corsnedlaw38.RoutePeels", spec := "routePeels", inPlace := ["internal/abi.NoEscape", "internal/bytealg.MakeNoZero"], unfollowed := true, recurses := true, named := ["math/bits.divideError", "math/bits.overflowError", "internal/strconv.uint64pow10", "math/bits.deBruijn32tab", "math/bits.deBruijn64tab"], plainKeys := false, apart := false, laid := [("math/bits.deBruijn32tab", laid_math_bits_deBruijn32tab), ("math/bits.deBruijn64tab", laid_math_bits_deBruijn64tab), ("internal/strconv.uint64pow10", laid_internal_strconv_uint64pow10)], narrowed := true }
def RoutePeelsUptoSaid : Prop := routePeelsUptoRow.holds Tryz.pinned (OpenSpec.upto routePeelsSpec)

/-- 'corsnedlaw39.SplitPeeled', WHERE WHAT IT READS IS OF BULK AT MOST 1048576: true; the input reads as it did. -/
def splitPeeledUptoRow : OpenClaim := { program := "ytocheaahlpiajaagreatdoor", sum := "9f88d631d1a346603a7d571a4c6fe1384fd2cdc5b839bda85713da11ff3cb373", func := "corsned/corsnedlaw39.SplitPeeled", spec := "splitPeeled", inPlace := ["maps.clone", "internal/abi.NoEscape", "internal/bytealg.MakeNoZero"], unfollowed := true, recurses := true, named := ["math/bits.divideError", "math/bits.overflowError", "internal/strconv.uint64pow10", "math/bits.deBruijn32tab", "math/bits.deBruijn64tab"], plainKeys := false, apart := false, laid := [("math/bits.deBruijn32tab", laid_math_bits_deBruijn32tab), ("math/bits.deBruijn64tab", laid_math_bits_deBruijn64tab), ("internal/strconv.uint64pow10", laid_internal_strconv_uint64pow10)], narrowed := true }
def SplitPeeledUptoSaid : Prop := splitPeeledUptoRow.holds Tryz.pinned (OpenSpec.upto splitPeeledSpec)

/-- 'corsnedlaw39.SplitHeld', WHERE WHAT IT READS IS OF BULK AT MOST 1048576: true; the input reads as it did. -/
def splitHeldUptoRow : OpenClaim := { program := "ytocheaahlpiajaagreatdoor", sum := "9f88d631d1a346603a7d571a4c6fe1384fd2cdc5b839bda85713da11ff3cb373", func := "corsned/corsnedlaw39.SplitHeld", spec := "splitHeld", inPlace := ["maps.clone", "internal/abi.NoEscape", "internal/bytealg.MakeNoZero"], unfollowed := true, recurses := true, named := ["math/bits.divideError", "math/bits.overflowError", "internal/strconv.uint64pow10", "math/bits.deBruijn32tab", "math/bits.deBruijn64tab"], plainKeys := false, apart := false, laid := [("math/bits.deBruijn32tab", laid_math_bits_deBruijn32tab), ("math/bits.deBruijn64tab", laid_math_bits_deBruijn64tab), ("internal/strconv.uint64pow10", laid_internal_strconv_uint64pow10)], narrowed := true }
def SplitHeldUptoSaid : Prop := splitHeldUptoRow.holds Tryz.pinned (OpenSpec.upto splitHeldSpec)

/-- 'corsnedlaw38.RouteSigned', WHERE WHAT IT READS IS OF BULK AT MOST 1048576: true; the input reads as it did. -/
def routeSignedUptoRow : OpenClaim := { program := "ytocheaahlpiajaagreatdoor", sum := "9f88d631d1a346603a7d571a4c6fe1384fd2cdc5b839bda85713da11ff3cb373", func := "corsned/corsnedlaw38.RouteSigned", spec := "routeSigned", inPlace := ["internal/abi.NoEscape", "internal/bytealg.MakeNoZero"], unfollowed := true, recurses := true, named := ["math/bits.divideError", "math/bits.overflowError", "internal/strconv.uint64pow10", "math/bits.deBruijn32tab", "math/bits.deBruijn64tab"], plainKeys := false, apart := false, laid := [("math/bits.deBruijn32tab", laid_math_bits_deBruijn32tab), ("math/bits.deBruijn64tab", laid_math_bits_deBruijn64tab), ("internal/strconv.uint64pow10", laid_internal_strconv_uint64pow10)], narrowed := true }
def RouteSignedUptoSaid : Prop := routeSignedUptoRow.holds Tryz.pinned (OpenSpec.upto routeSignedSpec)

end Rows
end Go.Proofs.YtocheaahlpiajaaGreatDoor
