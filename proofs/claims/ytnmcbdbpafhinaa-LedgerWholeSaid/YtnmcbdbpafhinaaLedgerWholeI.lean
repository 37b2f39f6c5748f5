/- LedgerWhole: for every input the law answers true and leaves its arguments as they were. -/
import Derived.Test.YtnmcbdbpafhinaaLedgerWholeH
import Derived.OrdersHeld
import Derived.WalkKit
import Derived.Deep.AppendSrc
import Derived.Deep.MidRow
import Derived.Laws.OwnMore
import Derived.WalkSpells
import Derived.Lib.ConvBytes
import Derived.Lib.AppendZerosOnto
import Derived.Laws.StructEq
import Derived.Maps.RangeRun
import Derived.Laws.Pointers
import Derived.Test.YtnmcbdbpafhinaaProg
import Derived.KernelRfl
namespace Go.Proofs.Ytnmcbdbpafhinaa
open Go Go.Sx
theorem mixed : Try.prog.follows .mixedOrders = true := by kernel_rfl
theorem el2 : El Try.prog 2 1 8 (.int .i64 0) := El.mk (by kernel_rfl) (by first | rfl | simp [Value.cells]) (by decide)
theorem sz2 : Sz Try.prog 2 1 := el2.sz
theorem z2 : Zr Try.prog 2 (.int .i64 0) := el2.zr
theorem el3 : El Try.prog 3 1 8 (.int .i64 0) := El.mk (by kernel_rfl) (by first | rfl | simp [Value.cells]) (by decide)
theorem sz3 : Sz Try.prog 3 1 := el3.sz
theorem z3 : Zr Try.prog 3 (.int .i64 0) := el3.zr
theorem na3 : NotAgg Try.prog 3 := ⟨_, Try.underlying3, rfl⟩
theorem el4 : El Try.prog 4 1 1 (.bool false) := El.mk (by kernel_rfl) (by first | rfl | simp [Value.cells]) (by decide)
theorem z4 : Zr Try.prog 4 (.bool false) := el4.zr
theorem el5 : El Try.prog 5 1 1 (.int .u8 0) := El.mk (by kernel_rfl) (by first | rfl | simp [Value.cells]) (by decide)
theorem z5 : Zr Try.prog 5 (.int .u8 0) := el5.zr
theorem el9 : El Try.prog 9 1 16 (.string ⟨#[]⟩) := El.mk (by kernel_rfl) (by first | rfl | simp [Value.cells]) (by decide)
theorem z9 : Zr Try.prog 9 (.string ⟨#[]⟩) := el9.zr
theorem el22 : El Try.prog 22 1 2 (.int .u16 0) := El.mk (by kernel_rfl) (by first | rfl | simp [Value.cells]) (by decide)
theorem z22 : Zr Try.prog 22 (.int .u16 0) := el22.zr
theorem el23 : El Try.prog 23 4 8 (.agg #[.int .u16 0, .int .u16 0, .int .u16 0, .int .u16 0]) := El.mk (by kernel_rfl) (by first | rfl | simp [Value.cells]) (by decide)
theorem z23 : Zr Try.prog 23 (.agg #[.int .u16 0, .int .u16 0, .int .u16 0, .int .u16 0]) := el23.zr
theorem el24 : El Try.prog 24 1 24 (.slice none 0 0) := El.mk (by kernel_rfl) (by first | rfl | simp [Value.cells]) (by decide)
theorem sz24 : Sz Try.prog 24 1 := el24.sz
theorem z24 : Zr Try.prog 24 (.slice none 0 0) := el24.zr
theorem na24 : NotAgg Try.prog 24 := ⟨_, Try.underlying24, rfl⟩
theorem el25 : El Try.prog 25 1 8 (.nilFunc) := El.mk (by kernel_rfl) (by first | rfl | simp [Value.cells]) (by decide)
theorem z25 : Zr Try.prog 25 (.nilFunc) := el25.zr
theorem el26 : El Try.prog 26 1 8 (.pointer none) := El.mk (by kernel_rfl) (by first | rfl | simp [Value.cells]) (by decide)
theorem z26 : Zr Try.prog 26 (.pointer none) := el26.zr
theorem el27 : El Try.prog 27 1 8 (.nilFunc) := El.mk (by kernel_rfl) (by first | rfl | simp [Value.cells]) (by decide)
theorem z27 : Zr Try.prog 27 (.nilFunc) := el27.zr
theorem el28 : El Try.prog 28 1 8 (.int .i64 0) := El.mk (by kernel_rfl) (by first | rfl | simp [Value.cells]) (by decide)
theorem z28 : Zr Try.prog 28 (.int .i64 0) := el28.zr
theorem el31 : El Try.prog 31 2 16 (.agg #[.int .i64 0, .int .i64 0]) := El.mk (by kernel_rfl) (by first | rfl | simp [Value.cells]) (by decide)
theorem sz31 : Sz Try.prog 31 2 := el31.sz
theorem z31 : Zr Try.prog 31 (.agg #[.int .i64 0, .int .i64 0]) := el31.zr
theorem eg31 : Try.prog.eqGuardType Try.prog.depth 31 = false := by kernel_rfl
theorem ag31 : IsAgg Try.prog 31 2 := ⟨_, Try.underlying31, rfl, sz31⟩
theorem el32 : El Try.prog 32 5 40 (.agg #[.int .i64 0, .int .i64 0, .int .i64 0, .int .i64 0, .int .i64 0]) := El.mk (by kernel_rfl) (by first | rfl | simp [Value.cells]) (by decide)
theorem z32 : Zr Try.prog 32 (.agg #[.int .i64 0, .int .i64 0, .int .i64 0, .int .i64 0, .int .i64 0]) := el32.zr
theorem el33 : El Try.prog 33 5 40 (.agg #[.int .i64 0, .int .i64 0, .int .i64 0, .int .i64 0, .int .i64 0]) := El.mk (by kernel_rfl) (by first | rfl | simp [Value.cells]) (by decide)
theorem sz33 : Sz Try.prog 33 5 := el33.sz
theorem z33 : Zr Try.prog 33 (.agg #[.int .i64 0, .int .i64 0, .int .i64 0, .int .i64 0, .int .i64 0]) := el33.zr
theorem ag33 : IsAgg Try.prog 33 5 := ⟨_, Try.underlying33, rfl, sz33⟩
theorem el35 : El Try.prog 35 1 8 (.nilFunc) := El.mk (by kernel_rfl) (by first | rfl | simp [Value.cells]) (by decide)
theorem z35 : Zr Try.prog 35 (.nilFunc) := el35.zr
theorem el36 : El Try.prog 36 3 24 (.agg #[.int .i64 0, .int .i64 0, .int .i64 0]) := El.mk (by kernel_rfl) (by first | rfl | simp [Value.cells]) (by decide)
theorem z36 : Zr Try.prog 36 (.agg #[.int .i64 0, .int .i64 0, .int .i64 0]) := el36.zr
theorem el37 : El Try.prog 37 3 24 (.agg #[.int .i64 0, .int .i64 0, .int .i64 0]) := El.mk (by kernel_rfl) (by first | rfl | simp [Value.cells]) (by decide)
theorem sz37 : Sz Try.prog 37 3 := el37.sz
theorem z37 : Zr Try.prog 37 (.agg #[.int .i64 0, .int .i64 0, .int .i64 0]) := el37.zr
theorem ag37 : IsAgg Try.prog 37 3 := ⟨_, Try.underlying37, rfl, sz37⟩
theorem el41 : El Try.prog 41 1 24 (.slice none 0 0) := El.mk (by kernel_rfl) (by first | rfl | simp [Value.cells]) (by decide)
theorem sz41 : Sz Try.prog 41 1 := el41.sz
theorem z41 : Zr Try.prog 41 (.slice none 0 0) := el41.zr
theorem na41 : NotAgg Try.prog 41 := ⟨_, Try.underlying41, rfl⟩
theorem el44 : El Try.prog 44 1 8 (.nilFunc) := El.mk (by kernel_rfl) (by first | rfl | simp [Value.cells]) (by decide)
theorem z44 : Zr Try.prog 44 (.nilFunc) := el44.zr
theorem el46 : El Try.prog 46 1 8 (.nilFunc) := El.mk (by kernel_rfl) (by first | rfl | simp [Value.cells]) (by decide)
theorem z46 : Zr Try.prog 46 (.nilFunc) := el46.zr
theorem el48 : El Try.prog 48 1 8 (.int .u64 0) := El.mk (by kernel_rfl) (by first | rfl | simp [Value.cells]) (by decide)
theorem sz48 : Sz Try.prog 48 1 := el48.sz
theorem na48 : NotAgg Try.prog 48 := ⟨_, Try.underlying48, rfl⟩
theorem el49 : El Try.prog 49 1 8 (.int .u64 0) := El.mk (by kernel_rfl) (by first | rfl | simp [Value.cells]) (by decide)
theorem sz49 : Sz Try.prog 49 1 := el49.sz
theorem na49 : NotAgg Try.prog 49 := ⟨_, Try.underlying49, rfl⟩
theorem el50 : El Try.prog 50 1 24 (.slice none 0 0) := El.mk (by kernel_rfl) (by first | rfl | simp [Value.cells]) (by decide)
theorem sz50 : Sz Try.prog 50 1 := el50.sz
theorem na50 : NotAgg Try.prog 50 := ⟨_, Try.underlying50, rfl⟩
theorem el52 : El Try.prog 52 17 200 (.agg #[.int .i64 0, .int .i64 0, .int .i64 0, .int .i64 0, .int .i64 0, .int .u64 0, .int .u64 0, .int .i64 0, .int .i64 0, .int .i64 0, .int .i64 0, .int .i64 0, .int .i64 0, .slice none 0 0, .slice none 0 0, .slice none 0 0, .slice none 0 0]) := El.mk (by kernel_rfl) (by first | rfl | simp [Value.cells]) (by decide)
theorem sz52 : Sz Try.prog 52 17 := el52.sz
theorem ag52 : IsAgg Try.prog 52 17 := ⟨_, Try.underlying52, rfl, sz52⟩
theorem el53 : El Try.prog 53 1 8 (.nilFunc) := El.mk (by kernel_rfl) (by first | rfl | simp [Value.cells]) (by decide)
theorem z53 : Zr Try.prog 53 (.nilFunc) := el53.zr
theorem el57 : El Try.prog 57 1 8 (.nilFunc) := El.mk (by kernel_rfl) (by first | rfl | simp [Value.cells]) (by decide)
theorem z57 : Zr Try.prog 57 (.nilFunc) := el57.zr
theorem el63 : El Try.prog 63 1 8 (.nilFunc) := El.mk (by kernel_rfl) (by first | rfl | simp [Value.cells]) (by decide)
theorem z63 : Zr Try.prog 63 (.nilFunc) := el63.zr
theorem el64 : El Try.prog 64 1 24 (.slice none 0 0) := El.mk (by kernel_rfl) (by first | rfl | simp [Value.cells]) (by decide)
theorem z64 : Zr Try.prog 64 (.slice none 0 0) := el64.zr
theorem el101 : El Try.prog 101 1 8 (.map none) := El.mk (by kernel_rfl) (by first | rfl | simp [Value.cells]) (by decide)
theorem sz101 : Sz Try.prog 101 1 := el101.sz
theorem na101 : NotAgg Try.prog 101 := ⟨_, Try.underlying101, rfl⟩
theorem el103 : El Try.prog 103 1 8 (.map none) := El.mk (by kernel_rfl) (by first | rfl | simp [Value.cells]) (by decide)
theorem sz103 : Sz Try.prog 103 1 := el103.sz
theorem na103 : NotAgg Try.prog 103 := ⟨_, Try.underlying103, rfl⟩
theorem el105 : El Try.prog 105 4 48 (.agg #[.slice none 0 0, .map none, .map none, .int .i64 0]) := El.mk (by kernel_rfl) (by first | rfl | simp [Value.cells]) (by decide)
theorem z105 : Zr Try.prog 105 (.agg #[.slice none 0 0, .map none, .map none, .int .i64 0]) := el105.zr
theorem el111 : El Try.prog 111 3 24 (.agg #[.int .i64 0, .int .i64 0, .int .i64 0]) := El.mk (by kernel_rfl) (by first | rfl | simp [Value.cells]) (by decide)
theorem sz111 : Sz Try.prog 111 3 := el111.sz
theorem z111 : Zr Try.prog 111 (.agg #[.int .i64 0, .int .i64 0, .int .i64 0]) := el111.zr
theorem ag111 : IsAgg Try.prog 111 3 := ⟨_, Try.underlying111, rfl, sz111⟩
theorem el113 : El Try.prog 113 2 16 (.agg #[.int .i64 0, .int .u64 0]) := El.mk (by kernel_rfl) (by first | rfl | simp [Value.cells]) (by decide)
theorem sz113 : Sz Try.prog 113 2 := el113.sz
theorem z113 : Zr Try.prog 113 (.agg #[.int .i64 0, .int .u64 0]) := el113.zr
theorem go11 : IsGo Try.prog 11 := ⟨_, Try.func11, rfl, by decide⟩
theorem go13 : IsGo Try.prog 13 := ⟨_, Try.func13, rfl, by decide⟩
theorem go14 : IsGo Try.prog 14 := ⟨_, Try.func14, rfl, by decide⟩
theorem go15 : IsGo Try.prog 15 := ⟨_, Try.func15, rfl, by decide⟩
theorem go16 : IsGo Try.prog 16 := ⟨_, Try.func16, rfl, by decide⟩
theorem go17 : IsGo Try.prog 17 := ⟨_, Try.func17, rfl, by decide⟩
theorem go18 : IsGo Try.prog 18 := ⟨_, Try.func18, rfl, by decide⟩
theorem go19 : IsGo Try.prog 19 := ⟨_, Try.func19, rfl, by decide⟩
theorem go20 : IsGo Try.prog 20 := ⟨_, Try.func20, rfl, by decide⟩
theorem go21 : IsGo Try.prog 21 := ⟨_, Try.func21, rfl, by decide⟩
theorem go22 : IsGo Try.prog 22 := ⟨_, Try.func22, rfl, by decide⟩
theorem go23 : IsGo Try.prog 23 := ⟨_, Try.func23, rfl, by decide⟩
theorem go24 : IsGo Try.prog 24 := ⟨_, Try.func24, rfl, by decide⟩
theorem go25 : IsGo Try.prog 25 := ⟨_, Try.func25, rfl, by decide⟩
theorem go26 : IsGo Try.prog 26 := ⟨_, Try.func26, rfl, by decide⟩
theorem go27 : IsGo Try.prog 27 := ⟨_, Try.func27, rfl, by decide⟩
theorem go28 : IsGo Try.prog 28 := ⟨_, Try.func28, rfl, by decide⟩
theorem go40 : IsGo Try.prog 40 := ⟨_, Try.func40, rfl, by decide⟩
theorem go42 : IsGo Try.prog 42 := ⟨_, Try.func42, rfl, by decide⟩
theorem go43 : IsGo Try.prog 43 := ⟨_, Try.func43, rfl, by decide⟩
theorem go44 : IsGo Try.prog 44 := ⟨_, Try.func44, rfl, by decide⟩
theorem go45 : IsGo Try.prog 45 := ⟨_, Try.func45, rfl, by decide⟩
theorem go46 : IsGo Try.prog 46 := ⟨_, Try.func46, rfl, by decide⟩
theorem go47 : IsGo Try.prog 47 := ⟨_, Try.func47, rfl, by decide⟩
theorem go48 : IsGo Try.prog 48 := ⟨_, Try.func48, rfl, by decide⟩
theorem go49 : IsGo Try.prog 49 := ⟨_, Try.func49, rfl, by decide⟩
theorem go50 : IsGo Try.prog 50 := ⟨_, Try.func50, rfl, by decide⟩
theorem go51 : IsGo Try.prog 51 := ⟨_, Try.func51, rfl, by decide⟩
theorem go52 : IsGo Try.prog 52 := ⟨_, Try.func52, rfl, by decide⟩
theorem go53 : IsGo Try.prog 53 := ⟨_, Try.func53, rfl, by decide⟩
theorem go54 : IsGo Try.prog 54 := ⟨_, Try.func54, rfl, by decide⟩
theorem go55 : IsGo Try.prog 55 := ⟨_, Try.func55, rfl, by decide⟩
theorem go74 : IsGo Try.prog 74 := ⟨_, Try.func74, rfl, by decide⟩
theorem go75 : IsGo Try.prog 75 := ⟨_, Try.func75, rfl, by decide⟩
theorem go78 : IsGo Try.prog 78 := ⟨_, Try.func78, rfl, by decide⟩
theorem go79 : IsGo Try.prog 79 := ⟨_, Try.func79, rfl, by decide⟩
theorem go80 : IsGo Try.prog 80 := ⟨_, Try.func80, rfl, by decide⟩
theorem go81 : IsGo Try.prog 81 := ⟨_, Try.func81, rfl, by decide⟩
theorem go83 : IsGo Try.prog 83 := ⟨_, Try.func83, rfl, by decide⟩
theorem go87 : IsGo Try.prog 87 := ⟨_, Try.func87, rfl, by decide⟩
theorem go88 : IsGo Try.prog 88 := ⟨_, Try.func88, rfl, by decide⟩
theorem go93 : IsGo Try.prog 93 := ⟨_, Try.func93, rfl, by decide⟩
theorem go108 : IsGo Try.prog 108 := ⟨_, Try.func108, rfl, by decide⟩
theorem go118 : IsGo Try.prog 118 := ⟨_, Try.func118, rfl, by decide⟩
theorem go126 : IsGo Try.prog 126 := ⟨_, Try.func126, rfl, by decide⟩
theorem go131 : IsGo Try.prog 131 := ⟨_, Try.func131, rfl, by decide⟩
theorem go132 : IsGo Try.prog 132 := ⟨_, Try.func132, rfl, by decide⟩
theorem go154 : IsGo Try.prog 154 := ⟨_, Try.func154, rfl, by decide⟩
end Go.Proofs.Ytnmcbdbpafhinaa

namespace Go.Proofs.Ytnmcbdbpafhinaa
open Go Go.Sx
theorem fa33_0 : Fat Try.prog 33 0 0 := ⟨_, _, _, Try.underlying33, rfl, rfl, sz3, by decide⟩
theorem fa33_1 : Fat Try.prog 33 1 1 := ⟨_, _, _, Try.underlying33, rfl, rfl, sz31, by decide⟩
theorem fa33_2 : Fat Try.prog 33 2 3 := ⟨_, _, _, Try.underlying33, rfl, rfl, sz31, by decide⟩
theorem pl33 : Pls Try.prog 33 [(0, 1), (1, 2), (3, 2)] := ⟨_, Try.underlying33, fun w => by simp [sz3.run, sz31.run]⟩
theorem fa37_0 : Fat Try.prog 37 0 0 := ⟨_, _, _, Try.underlying37, rfl, rfl, sz3, by decide⟩
theorem fa37_1 : Fat Try.prog 37 1 1 := ⟨_, _, _, Try.underlying37, rfl, rfl, sz3, by decide⟩
theorem fa37_2 : Fat Try.prog 37 2 2 := ⟨_, _, _, Try.underlying37, rfl, rfl, sz3, by decide⟩
theorem pl37 : Pls Try.prog 37 [(0, 1), (1, 1), (2, 1)] := ⟨_, Try.underlying37, fun w => by simp [sz3.run]⟩
theorem fa52_0 : Fat Try.prog 52 0 0 := ⟨_, _, _, Try.underlying52, rfl, rfl, sz3, by decide⟩
theorem fa52_1 : Fat Try.prog 52 1 1 := ⟨_, _, _, Try.underlying52, rfl, rfl, sz3, by decide⟩
theorem fa52_2 : Fat Try.prog 52 2 2 := ⟨_, _, _, Try.underlying52, rfl, rfl, sz3, by decide⟩
theorem fa52_3 : Fat Try.prog 52 3 3 := ⟨_, _, _, Try.underlying52, rfl, rfl, sz3, by decide⟩
theorem fa52_4 : Fat Try.prog 52 4 4 := ⟨_, _, _, Try.underlying52, rfl, rfl, sz3, by decide⟩
theorem fa52_5 : Fat Try.prog 52 5 5 := ⟨_, _, _, Try.underlying52, rfl, rfl, sz48, by decide⟩
theorem fa52_6 : Fat Try.prog 52 6 6 := ⟨_, _, _, Try.underlying52, rfl, rfl, sz49, by decide⟩
theorem fa52_7 : Fat Try.prog 52 7 7 := ⟨_, _, _, Try.underlying52, rfl, rfl, sz31, by decide⟩
theorem fa52_8 : Fat Try.prog 52 8 9 := ⟨_, _, _, Try.underlying52, rfl, rfl, sz31, by decide⟩
theorem fa52_9 : Fat Try.prog 52 9 11 := ⟨_, _, _, Try.underlying52, rfl, rfl, sz31, by decide⟩
theorem fa52_10 : Fat Try.prog 52 10 13 := ⟨_, _, _, Try.underlying52, rfl, rfl, sz24, by decide⟩
theorem fa52_11 : Fat Try.prog 52 11 14 := ⟨_, _, _, Try.underlying52, rfl, rfl, sz41, by decide⟩
theorem fa52_12 : Fat Try.prog 52 12 15 := ⟨_, _, _, Try.underlying52, rfl, rfl, sz50, by decide⟩
theorem fa52_13 : Fat Try.prog 52 13 16 := ⟨_, _, _, Try.underlying52, rfl, rfl, sz41, by decide⟩
theorem fa105_0 : Fat Try.prog 105 0 0 := ⟨_, _, _, Try.underlying105, rfl, rfl, sz41, by decide⟩
theorem fa105_1 : Fat Try.prog 105 1 1 := ⟨_, _, _, Try.underlying105, rfl, rfl, sz101, by decide⟩
theorem fa105_2 : Fat Try.prog 105 2 2 := ⟨_, _, _, Try.underlying105, rfl, rfl, sz103, by decide⟩
theorem fa105_3 : Fat Try.prog 105 3 3 := ⟨_, _, _, Try.underlying105, rfl, rfl, sz3, by decide⟩
theorem pl105 : Pls Try.prog 105 [(0, 1), (1, 1), (2, 1), (3, 1)] := ⟨_, Try.underlying105, fun w => by simp [sz3.run, sz41.run, sz101.run, sz103.run]⟩
theorem fa111_0 : Fat Try.prog 111 0 0 := ⟨_, _, _, Try.underlying111, rfl, rfl, sz3, by decide⟩
theorem fa111_1 : Fat Try.prog 111 1 1 := ⟨_, _, _, Try.underlying111, rfl, rfl, sz3, by decide⟩
theorem pl111 : Pls Try.prog 111 [(0, 1), (1, 1), (2, 1)] := ⟨_, Try.underlying111, fun w => by simp [sz3.run]⟩
theorem fa113_0 : Fat Try.prog 113 0 0 := ⟨_, _, _, Try.underlying113, rfl, rfl, sz3, by decide⟩
theorem fa113_1 : Fat Try.prog 113 1 1 := ⟨_, _, _, Try.underlying113, rfl, rfl, sz48, by decide⟩
theorem pl113 : Pls Try.prog 113 [(0, 1), (1, 1)] := ⟨_, Try.underlying113, fun w => by simp [sz3.run, sz48.run]⟩
end Go.Proofs.Ytnmcbdbpafhinaa

namespace Go.Proofs.Ytnmcbdbpafhinaa
open Go Go.Sx Go.Num Go.Gsp
set_option maxRecDepth 20000
set_option linter.unusedSimpArgs false
set_option linter.unusedVariables false
theorem coins_ok (a : Int) (w : World) : Calls Try.prog 83 #[.int .i64 (a)] w fun r w' => r = .returned (.bool (coinB a)) ∧ Le w w' := by
  refine enter Try.func83 rfl rfl ?_
  have L0 := Le.refl w
  refine WC.seq ?_
  refine WC.region ?_
  refine W.any (.assign rfl) rfl rfl rfl ?_
  refine W.nil ?_
  refine E.thenN ?_
  refine WC.seq ?_
  refine WC.region ?_
  refine W.any (.move rfl) rfl rfl rfl ?_
  refine W.any (.geq rfl rfl) rfl rfl rfl ?_
  by_cases q1_2 : 0 ≤ a
  · refine W.any (.dec (.move rfl) (decide_eq_true q1_2)) rfl rfl rfl ?_
    refine W.rdg (Any.rd (.move rfl) _) rfl rfl rfl (rfl) rfl rfl ?_
    refine W.rdg (Any.rd (.leq rfl rfl) _) rfl rfl rfl (rfl) rfl rfl ?_
    refine W.any (.pickT rfl rfl rfl) rfl rfl rfl ?_
    refine W.any (.assign rfl) rfl rfl rfl ?_
    refine W.nil ?_
    refine E.thenN ?_
    refine WC.ret ?_
    refine E.retG1 rfl rfl ?_
    exact ⟨congrArg (fun b => Ending.returned (Value.bool b)) (by simp [coinB, inB, q1_2]), L0⟩
  · refine W.any (.dec (.move rfl) (decide_eq_false q1_2)) rfl rfl rfl ?_
    refine W.skip rfl rfl rfl (rfl) rfl rfl ?_
    refine W.skip rfl rfl rfl (rfl) rfl rfl ?_
    refine W.any (.pickF rfl rfl rfl) rfl rfl rfl ?_
    refine W.any (.assign rfl) rfl rfl rfl ?_
    refine W.nil ?_
    refine E.thenN ?_
    refine WC.ret ?_
    refine E.retG1 rfl rfl ?_
    exact ⟨congrArg (fun b => Ending.returned (Value.bool b)) (by simp [coinB, inB, q1_2]), L0⟩

theorem nadd_ok (a b : Int) (w : World) : Calls Try.prog 47 #[.int .i64 (a), .int .i64 (b)] w fun r w' => r = .returned (.tuple #[.int .i64 (addC a b).1, .bool (addC a b).2]) ∧ Le w w' := by
  refine enter Try.func47 rfl rfl ?_
  have L0 := Le.refl w
  refine WC.seq ?_
  refine WC.region ?_
  refine W.any (.assign rfl) rfl rfl rfl ?_
  refine W.any (.assign rfl) rfl rfl rfl ?_
  refine W.nil ?_
  refine E.thenN ?_
  refine WC.seq ?_
  refine WC.seq ?_
  refine WC.region ?_
  refine W.any (.move rfl) rfl rfl rfl ?_
  refine W.ef rfl rfl rfl ?_
  refine Ef.call go83 rfl rfl (coins_ok a w) ?_
  rintro _ w1_1 ⟨rfl, h1_1⟩
  refine ⟨_, rfl, ?_⟩
  have L1 := L0.trans h1_1
  refine W.any (.not rfl) rfl rfl rfl ?_
  by_cases q1_3 : (coinB a) = true
  · refine W.any (.dec (.move rfl) (congrArg not (q1_3))) rfl rfl rfl ?_
    refine W.rdg (Any.rd (.move rfl) _) rfl rfl rfl (rfl) rfl rfl ?_
    refine W.efg rfl rfl rfl (rfl) rfl rfl ?_
    refine Ef.call go83 rfl rfl (coins_ok b w1_1) ?_
    rintro _ w1_5 ⟨rfl, h1_5⟩
    refine ⟨_, rfl, ?_⟩
    have L2 := L1.trans h1_5
    refine W.rdg (Any.rd (.not rfl) _) rfl rfl rfl (rfl) rfl rfl ?_
    refine W.any (.pickF rfl rfl rfl) rfl rfl rfl ?_
    by_cases q1_8 : (coinB b) = true
    · refine W.any (.dec (.move rfl) (congrArg not (q1_8))) rfl rfl rfl ?_
      refine W.rdg (Any.rd (.move rfl) _) rfl rfl rfl (rfl) rfl rfl ?_
      refine W.rdg (Any.rd (.move rfl) _) rfl rfl rfl (rfl) rfl rfl ?_
      have hb1 := inB_T (show inB b 0 1125899906842624 = true by assumption)
      refine W.rdg (Any.rd (.sub rfl rfl (by omega)) _) rfl rfl rfl (rfl) rfl rfl ?_
      refine W.rdg (Any.rd (.gtr rfl rfl) _) rfl rfl rfl (rfl) rfl rfl ?_
      refine W.any (.pickF rfl rfl rfl) rfl rfl rfl ?_
      refine W.nil ?_
      refine E.thenN ?_
      by_cases c0 : (1125899906842624 - b) < a
      · refine WC.condY rfl (decide_eq_true c0) ?_
        refine WC.seq ?_
        refine WC.region ?_
        refine W.any (.assign rfl) rfl rfl rfl ?_
        refine W.any (.assign rfl) rfl rfl rfl ?_
        refine W.nil ?_
        refine E.thenN ?_
        refine WC.ret ?_
        refine E.thenR ?_
        refine E.retG2 rfl rfl rfl ?_
        exact ⟨(by first | rfl | (simp [addC, q1_3, q1_8, c0]; done) | (simp [addC, q1_3, q1_8, c0]; omega) | (simp [addC, q1_3, q1_8, c0]; split <;> first | (exfalso; omega) | (simp; done) | (simp; omega))), L2⟩
      · refine WC.condN rfl (decide_eq_false c0) ?_
        refine WC.skip ?_
        refine E.thenN ?_
        refine WC.seq ?_
        refine WC.region ?_
        refine W.any (.move rfl) rfl rfl rfl ?_
        refine W.any (.move rfl) rfl rfl rfl ?_
        refine W.any (.add rfl rfl (by have := inB_T (show inB a 0 1125899906842624 = true by assumption); have := inB_T (show inB b 0 1125899906842624 = true by assumption); omega)) rfl rfl rfl ?_
        refine W.any (.assign rfl) rfl rfl rfl ?_
        refine W.any (.assign rfl) rfl rfl rfl ?_
        refine W.nil ?_
        refine E.thenN ?_
        refine WC.ret ?_
        refine E.retG2 rfl rfl rfl ?_
        exact ⟨(by first | rfl | (simp [addC, q1_3, q1_8, c0]; done) | (simp [addC, q1_3, q1_8, c0]; omega) | (simp [addC, q1_3, q1_8, c0]; split <;> first | (exfalso; omega) | (simp; done) | (simp; omega))), L2⟩
    · refine W.any (.dec (.move rfl) (congrArg not ((Bool.eq_false_iff.2 q1_8)))) rfl rfl rfl ?_
      refine W.skip rfl rfl rfl (rfl) rfl rfl ?_
      refine W.skip rfl rfl rfl (rfl) rfl rfl ?_
      refine W.skip rfl rfl rfl (rfl) rfl rfl ?_
      refine W.skip rfl rfl rfl (rfl) rfl rfl ?_
      refine W.any (.pickT rfl rfl rfl) rfl rfl rfl ?_
      refine W.nil ?_
      refine E.thenN ?_
      refine WC.condT rfl ?_
      refine WC.seq ?_
      refine WC.region ?_
      refine W.any (.assign rfl) rfl rfl rfl ?_
      refine W.any (.assign rfl) rfl rfl rfl ?_
      refine W.nil ?_
      refine E.thenN ?_
      refine WC.ret ?_
      refine E.thenR ?_
      refine E.retG2 rfl rfl rfl ?_
      exact ⟨(by first | rfl | (simp [addC, q1_3, q1_8]; done) | (simp [addC, q1_3, q1_8]; omega) | (simp [addC, q1_3, q1_8]; split <;> first | (exfalso; omega) | (simp; done) | (simp; omega))), L2⟩
  · refine W.any (.dec (.move rfl) (congrArg not ((Bool.eq_false_iff.2 q1_3)))) rfl rfl rfl ?_
    refine W.skip rfl rfl rfl (rfl) rfl rfl ?_
    refine W.skip rfl rfl rfl (rfl) rfl rfl ?_
    refine W.skip rfl rfl rfl (rfl) rfl rfl ?_
    refine W.any (.pickT rfl rfl rfl) rfl rfl rfl ?_
    refine W.any (.move rfl) rfl rfl rfl ?_
    refine W.skip rfl rfl rfl (rfl) rfl rfl ?_
    refine W.skip rfl rfl rfl (rfl) rfl rfl ?_
    refine W.skip rfl rfl rfl (rfl) rfl rfl ?_
    refine W.skip rfl rfl rfl (rfl) rfl rfl ?_
    refine W.any (.pickT rfl rfl rfl) rfl rfl rfl ?_
    refine W.nil ?_
    refine E.thenN ?_
    refine WC.condT rfl ?_
    refine WC.seq ?_
    refine WC.region ?_
    refine W.any (.assign rfl) rfl rfl rfl ?_
    refine W.any (.assign rfl) rfl rfl rfl ?_
    refine W.nil ?_
    refine E.thenN ?_
    refine WC.ret ?_
    refine E.thenR ?_
    refine E.retG2 rfl rfl rfl ?_
    exact ⟨(by first | rfl | (simp [addC, q1_3]; done) | (simp [addC, q1_3]; omega) | (simp [addC, q1_3]; split <;> first | (exfalso; omega) | (simp; done) | (simp; omega))), L1⟩
end Go.Proofs.Ytnmcbdbpafhinaa

