/- LedgerTells: for every input the law answers true and leaves its arguments as they were. -/
import Derived.Test.YtmgfgbplbemklaaGreatLedgerTellsH
import Derived.OrdersHeld
import Derived.WalkKit
import Derived.Deep.AppendSrc
import Derived.Deep.MidRow
import Derived.Laws.OwnMore
import Derived.WalkSpells
import Derived.Lib.ConvBytes
import Derived.Lib.AppendZerosOnto
import Derived.Laws.StructEq
import Derived.Maps.RangeRun
import Derived.Laws.Pointers
import Derived.Test.YtmgfgbplbemklaaGreatProg
import Derived.KernelRfl
namespace Go.Proofs.YtmgfgbplbemklaaGreat
open Go Go.Sx
theorem mixed : Tryz.prog.follows .mixedOrders = true := by kernel_rfl
theorem el2 : El Tryz.prog 2 1 8 (.int .i64 0) := El.mk (by kernel_rfl) (by first | rfl | simp [Value.cells]) (by decide)
theorem z2 : Zr Tryz.prog 2 (.int .i64 0) := el2.zr
theorem el3 : El Tryz.prog 3 1 8 (.int .i64 0) := El.mk (by kernel_rfl) (by first | rfl | simp [Value.cells]) (by decide)
theorem sz3 : Sz Tryz.prog 3 1 := el3.sz
theorem z3 : Zr Tryz.prog 3 (.int .i64 0) := el3.zr
theorem na3 : NotAgg Tryz.prog 3 := ⟨_, Tryz.underlying3, rfl⟩
theorem el4 : El Tryz.prog 4 1 1 (.bool false) := El.mk (by kernel_rfl) (by first | rfl | simp [Value.cells]) (by decide)
theorem z4 : Zr Tryz.prog 4 (.bool false) := el4.zr
theorem el5 : El Tryz.prog 5 1 1 (.int .u8 0) := El.mk (by kernel_rfl) (by first | rfl | simp [Value.cells]) (by decide)
theorem z5 : Zr Tryz.prog 5 (.int .u8 0) := el5.zr
theorem el9 : El Tryz.prog 9 1 16 (.string ⟨#[]⟩) := El.mk (by kernel_rfl) (by first | rfl | simp [Value.cells]) (by decide)
theorem z9 : Zr Tryz.prog 9 (.string ⟨#[]⟩) := el9.zr
theorem el22 : El Tryz.prog 22 1 24 (.slice none 0 0) := El.mk (by kernel_rfl) (by first | rfl | simp [Value.cells]) (by decide)
theorem sz22 : Sz Tryz.prog 22 1 := el22.sz
theorem z22 : Zr Tryz.prog 22 (.slice none 0 0) := el22.zr
theorem na22 : NotAgg Tryz.prog 22 := ⟨_, Tryz.underlying22, rfl⟩
theorem el23 : El Tryz.prog 23 1 24 (.slice none 0 0) := El.mk (by kernel_rfl) (by first | rfl | simp [Value.cells]) (by decide)
theorem z23 : Zr Tryz.prog 23 (.slice none 0 0) := el23.zr
theorem el24 : El Tryz.prog 24 1 8 (.nilFunc) := El.mk (by kernel_rfl) (by first | rfl | simp [Value.cells]) (by decide)
theorem z24 : Zr Tryz.prog 24 (.nilFunc) := el24.zr
theorem el25 : El Tryz.prog 25 1 8 (.nilFunc) := El.mk (by kernel_rfl) (by first | rfl | simp [Value.cells]) (by decide)
theorem z25 : Zr Tryz.prog 25 (.nilFunc) := el25.zr
theorem el26 : El Tryz.prog 26 1 8 (.pointer none) := El.mk (by kernel_rfl) (by first | rfl | simp [Value.cells]) (by decide)
theorem z26 : Zr Tryz.prog 26 (.pointer none) := el26.zr
theorem el27 : El Tryz.prog 27 1 8 (.nilFunc) := El.mk (by kernel_rfl) (by first | rfl | simp [Value.cells]) (by decide)
theorem z27 : Zr Tryz.prog 27 (.nilFunc) := el27.zr
theorem el28 : El Tryz.prog 28 1 8 (.pointer none) := El.mk (by kernel_rfl) (by first | rfl | simp [Value.cells]) (by decide)
theorem z28 : Zr Tryz.prog 28 (.pointer none) := el28.zr
theorem el32 : El Tryz.prog 32 1 8 (.int .u64 0) := El.mk (by kernel_rfl) (by first | rfl | simp [Value.cells]) (by decide)
theorem z32 : Zr Tryz.prog 32 (.int .u64 0) := el32.zr
theorem el33 : El Tryz.prog 33 1 8 (.int .u64 0) := El.mk (by kernel_rfl) (by first | rfl | simp [Value.cells]) (by decide)
theorem sz33 : Sz Tryz.prog 33 1 := el33.sz
theorem z33 : Zr Tryz.prog 33 (.int .u64 0) := el33.zr
theorem na33 : NotAgg Tryz.prog 33 := ⟨_, Tryz.underlying33, rfl⟩
theorem el34 : El Tryz.prog 34 1 8 (.int .u64 0) := El.mk (by kernel_rfl) (by first | rfl | simp [Value.cells]) (by decide)
theorem sz34 : Sz Tryz.prog 34 1 := el34.sz
theorem na34 : NotAgg Tryz.prog 34 := ⟨_, Tryz.underlying34, rfl⟩
theorem el35 : El Tryz.prog 35 2 16 (.agg #[.int .i64 0, .int .i64 0]) := El.mk (by kernel_rfl) (by first | rfl | simp [Value.cells]) (by decide)
theorem sz35 : Sz Tryz.prog 35 2 := el35.sz
theorem z35 : Zr Tryz.prog 35 (.agg #[.int .i64 0, .int .i64 0]) := el35.zr
theorem eg35 : Tryz.prog.eqGuardType Tryz.prog.depth 35 = false := by kernel_rfl
theorem ag35 : IsAgg Tryz.prog 35 2 := ⟨_, Tryz.underlying35, rfl, sz35⟩
theorem el36 : El Tryz.prog 36 1 24 (.slice none 0 0) := El.mk (by kernel_rfl) (by first | rfl | simp [Value.cells]) (by decide)
theorem sz36 : Sz Tryz.prog 36 1 := el36.sz
theorem z36 : Zr Tryz.prog 36 (.slice none 0 0) := el36.zr
theorem na36 : NotAgg Tryz.prog 36 := ⟨_, Tryz.underlying36, rfl⟩
theorem el37 : El Tryz.prog 37 1 24 (.slice none 0 0) := El.mk (by kernel_rfl) (by first | rfl | simp [Value.cells]) (by decide)
theorem sz37 : Sz Tryz.prog 37 1 := el37.sz
theorem na37 : NotAgg Tryz.prog 37 := ⟨_, Tryz.underlying37, rfl⟩
theorem el39 : El Tryz.prog 39 17 200 (.agg #[.int .i64 0, .int .i64 0, .int .i64 0, .int .i64 0, .int .i64 0, .int .u64 0, .int .u64 0, .int .i64 0, .int .i64 0, .int .i64 0, .int .i64 0, .int .i64 0, .int .i64 0, .slice none 0 0, .slice none 0 0, .slice none 0 0, .slice none 0 0]) := El.mk (by kernel_rfl) (by first | rfl | simp [Value.cells]) (by decide)
theorem sz39 : Sz Tryz.prog 39 17 := el39.sz
theorem ag39 : IsAgg Tryz.prog 39 17 := ⟨_, Tryz.underlying39, rfl, sz39⟩
theorem el41 : El Tryz.prog 41 1 8 (.nilFunc) := El.mk (by kernel_rfl) (by first | rfl | simp [Value.cells]) (by decide)
theorem z41 : Zr Tryz.prog 41 (.nilFunc) := el41.zr
theorem el44 : El Tryz.prog 44 5 40 (.agg #[.int .i64 0, .int .i64 0, .int .i64 0, .int .i64 0, .int .i64 0]) := El.mk (by kernel_rfl) (by first | rfl | simp [Value.cells]) (by decide)
theorem sz44 : Sz Tryz.prog 44 5 := el44.sz
theorem z44 : Zr Tryz.prog 44 (.agg #[.int .i64 0, .int .i64 0, .int .i64 0, .int .i64 0, .int .i64 0]) := el44.zr
theorem eg44 : Tryz.prog.eqGuardType Tryz.prog.depth 44 = false := by kernel_rfl
theorem ag44 : IsAgg Tryz.prog 44 5 := ⟨_, Tryz.underlying44, rfl, sz44⟩
theorem el46 : El Tryz.prog 46 1 8 (.nilFunc) := El.mk (by kernel_rfl) (by first | rfl | simp [Value.cells]) (by decide)
theorem z46 : Zr Tryz.prog 46 (.nilFunc) := el46.zr
theorem el53 : El Tryz.prog 53 3 24 (.agg #[.int .i64 0, .int .i64 0, .int .i64 0]) := El.mk (by kernel_rfl) (by first | rfl | simp [Value.cells]) (by decide)
theorem sz53 : Sz Tryz.prog 53 3 := el53.sz
theorem z53 : Zr Tryz.prog 53 (.agg #[.int .i64 0, .int .i64 0, .int .i64 0]) := el53.zr
theorem ag53 : IsAgg Tryz.prog 53 3 := ⟨_, Tryz.underlying53, rfl, sz53⟩
theorem el57 : El Tryz.prog 57 1 8 (.nilFunc) := El.mk (by kernel_rfl) (by first | rfl | simp [Value.cells]) (by decide)
theorem z57 : Zr Tryz.prog 57 (.nilFunc) := el57.zr
theorem el63 : El Tryz.prog 63 1 8 (.map none) := El.mk (by kernel_rfl) (by first | rfl | simp [Value.cells]) (by decide)
theorem sz63 : Sz Tryz.prog 63 1 := el63.sz
theorem z63 : Zr Tryz.prog 63 (.map none) := el63.zr
theorem na63 : NotAgg Tryz.prog 63 := ⟨_, Tryz.underlying63, rfl⟩
theorem el64 : El Tryz.prog 64 1 8 (.map none) := El.mk (by kernel_rfl) (by first | rfl | simp [Value.cells]) (by decide)
theorem sz64 : Sz Tryz.prog 64 1 := el64.sz
theorem z64 : Zr Tryz.prog 64 (.map none) := el64.zr
theorem na64 : NotAgg Tryz.prog 64 := ⟨_, Tryz.underlying64, rfl⟩
theorem el66 : El Tryz.prog 66 4 48 (.agg #[.slice none 0 0, .map none, .map none, .int .i64 0]) := El.mk (by kernel_rfl) (by first | rfl | simp [Value.cells]) (by decide)
theorem z66 : Zr Tryz.prog 66 (.agg #[.slice none 0 0, .map none, .map none, .int .i64 0]) := el66.zr
theorem el68 : El Tryz.prog 68 1 24 (.slice none 0 0) := El.mk (by kernel_rfl) (by first | rfl | simp [Value.cells]) (by decide)
theorem sz68 : Sz Tryz.prog 68 1 := el68.sz
theorem na68 : NotAgg Tryz.prog 68 := ⟨_, Tryz.underlying68, rfl⟩
theorem el69 : El Tryz.prog 69 1 24 (.slice none 0 0) := El.mk (by kernel_rfl) (by first | rfl | simp [Value.cells]) (by decide)
theorem sz69 : Sz Tryz.prog 69 1 := el69.sz
theorem na69 : NotAgg Tryz.prog 69 := ⟨_, Tryz.underlying69, rfl⟩
theorem el71 : El Tryz.prog 71 4 80 (.agg #[.slice none 0 0, .slice none 0 0, .slice none 0 0, .int .i64 0]) := El.mk (by kernel_rfl) (by first | rfl | simp [Value.cells]) (by decide)
theorem z71 : Zr Tryz.prog 71 (.agg #[.slice none 0 0, .slice none 0 0, .slice none 0 0, .int .i64 0]) := el71.zr
theorem el73 : El Tryz.prog 73 5 40 (.agg #[.int .i64 0, .int .i64 0, .int .i64 0, .int .i64 0, .int .i64 0]) := El.mk (by kernel_rfl) (by first | rfl | simp [Value.cells]) (by decide)
theorem sz73 : Sz Tryz.prog 73 5 := el73.sz
theorem z73 : Zr Tryz.prog 73 (.agg #[.int .i64 0, .int .i64 0, .int .i64 0, .int .i64 0, .int .i64 0]) := el73.zr
theorem ag73 : IsAgg Tryz.prog 73 5 := ⟨_, Tryz.underlying73, rfl, sz73⟩
theorem el75 : El Tryz.prog 75 3 24 (.agg #[.int .i64 0, .int .i64 0, .int .i64 0]) := El.mk (by kernel_rfl) (by first | rfl | simp [Value.cells]) (by decide)
theorem sz75 : Sz Tryz.prog 75 3 := el75.sz
theorem z75 : Zr Tryz.prog 75 (.agg #[.int .i64 0, .int .i64 0, .int .i64 0]) := el75.zr
theorem ag75 : IsAgg Tryz.prog 75 3 := ⟨_, Tryz.underlying75, rfl, sz75⟩
theorem el84 : El Tryz.prog 84 3 24 (.agg #[.int .i64 0, .int .i64 0, .int .i64 0]) := El.mk (by kernel_rfl) (by first | rfl | simp [Value.cells]) (by decide)
theorem sz84 : Sz Tryz.prog 84 3 := el84.sz
theorem z84 : Zr Tryz.prog 84 (.agg #[.int .i64 0, .int .i64 0, .int .i64 0]) := el84.zr
theorem ag84 : IsAgg Tryz.prog 84 3 := ⟨_, Tryz.underlying84, rfl, sz84⟩
theorem el86 : El Tryz.prog 86 2 16 (.agg #[.int .i64 0, .int .u64 0]) := El.mk (by kernel_rfl) (by first | rfl | simp [Value.cells]) (by decide)
theorem sz86 : Sz Tryz.prog 86 2 := el86.sz
theorem z86 : Zr Tryz.prog 86 (.agg #[.int .i64 0, .int .u64 0]) := el86.zr
theorem el103 : El Tryz.prog 103 5 40 (.agg #[.int .i64 0, .int .i64 0, .int .i64 0, .int .i64 0, .int .u64 0]) := El.mk (by kernel_rfl) (by first | rfl | simp [Value.cells]) (by decide)
theorem sz103 : Sz Tryz.prog 103 5 := el103.sz
theorem z103 : Zr Tryz.prog 103 (.agg #[.int .i64 0, .int .i64 0, .int .i64 0, .int .i64 0, .int .u64 0]) := el103.zr
theorem ag103 : IsAgg Tryz.prog 103 5 := ⟨_, Tryz.underlying103, rfl, sz103⟩
theorem go4 : IsGo Tryz.prog 4 := ⟨_, Tryz.func4, rfl, by decide⟩
theorem go5 : IsGo Tryz.prog 5 := ⟨_, Tryz.func5, rfl, by decide⟩
theorem go6 : IsGo Tryz.prog 6 := ⟨_, Tryz.func6, rfl, by decide⟩
theorem go7 : IsGo Tryz.prog 7 := ⟨_, Tryz.func7, rfl, by decide⟩
theorem go8 : IsGo Tryz.prog 8 := ⟨_, Tryz.func8, rfl, by decide⟩
theorem go9 : IsGo Tryz.prog 9 := ⟨_, Tryz.func9, rfl, by decide⟩
theorem go10 : IsGo Tryz.prog 10 := ⟨_, Tryz.func10, rfl, by decide⟩
theorem go11 : IsGo Tryz.prog 11 := ⟨_, Tryz.func11, rfl, by decide⟩
theorem go12 : IsGo Tryz.prog 12 := ⟨_, Tryz.func12, rfl, by decide⟩
theorem go13 : IsGo Tryz.prog 13 := ⟨_, Tryz.func13, rfl, by decide⟩
theorem go14 : IsGo Tryz.prog 14 := ⟨_, Tryz.func14, rfl, by decide⟩
theorem go15 : IsGo Tryz.prog 15 := ⟨_, Tryz.func15, rfl, by decide⟩
theorem go16 : IsGo Tryz.prog 16 := ⟨_, Tryz.func16, rfl, by decide⟩
theorem go17 : IsGo Tryz.prog 17 := ⟨_, Tryz.func17, rfl, by decide⟩
theorem go18 : IsGo Tryz.prog 18 := ⟨_, Tryz.func18, rfl, by decide⟩
theorem go19 : IsGo Tryz.prog 19 := ⟨_, Tryz.func19, rfl, by decide⟩
theorem go20 : IsGo Tryz.prog 20 := ⟨_, Tryz.func20, rfl, by decide⟩
theorem go21 : IsGo Tryz.prog 21 := ⟨_, Tryz.func21, rfl, by decide⟩
theorem go22 : IsGo Tryz.prog 22 := ⟨_, Tryz.func22, rfl, by decide⟩
theorem go23 : IsGo Tryz.prog 23 := ⟨_, Tryz.func23, rfl, by decide⟩
theorem go24 : IsGo Tryz.prog 24 := ⟨_, Tryz.func24, rfl, by decide⟩
theorem go25 : IsGo Tryz.prog 25 := ⟨_, Tryz.func25, rfl, by decide⟩
theorem go26 : IsGo Tryz.prog 26 := ⟨_, Tryz.func26, rfl, by decide⟩
theorem go27 : IsGo Tryz.prog 27 := ⟨_, Tryz.func27, rfl, by decide⟩
theorem go28 : IsGo Tryz.prog 28 := ⟨_, Tryz.func28, rfl, by decide⟩
theorem go29 : IsGo Tryz.prog 29 := ⟨_, Tryz.func29, rfl, by decide⟩
theorem go30 : IsGo Tryz.prog 30 := ⟨_, Tryz.func30, rfl, by decide⟩
theorem go31 : IsGo Tryz.prog 31 := ⟨_, Tryz.func31, rfl, by decide⟩
theorem go32 : IsGo Tryz.prog 32 := ⟨_, Tryz.func32, rfl, by decide⟩
theorem go33 : IsGo Tryz.prog 33 := ⟨_, Tryz.func33, rfl, by decide⟩
theorem go34 : IsGo Tryz.prog 34 := ⟨_, Tryz.func34, rfl, by decide⟩
theorem go35 : IsGo Tryz.prog 35 := ⟨_, Tryz.func35, rfl, by decide⟩
theorem go36 : IsGo Tryz.prog 36 := ⟨_, Tryz.func36, rfl, by decide⟩
theorem go37 : IsGo Tryz.prog 37 := ⟨_, Tryz.func37, rfl, by decide⟩
theorem go38 : IsGo Tryz.prog 38 := ⟨_, Tryz.func38, rfl, by decide⟩
theorem go39 : IsGo Tryz.prog 39 := ⟨_, Tryz.func39, rfl, by decide⟩
theorem go40 : IsGo Tryz.prog 40 := ⟨_, Tryz.func40, rfl, by decide⟩
theorem go41 : IsGo Tryz.prog 41 := ⟨_, Tryz.func41, rfl, by decide⟩
theorem go42 : IsGo Tryz.prog 42 := ⟨_, Tryz.func42, rfl, by decide⟩
theorem go43 : IsGo Tryz.prog 43 := ⟨_, Tryz.func43, rfl, by decide⟩
theorem go44 : IsGo Tryz.prog 44 := ⟨_, Tryz.func44, rfl, by decide⟩
theorem go45 : IsGo Tryz.prog 45 := ⟨_, Tryz.func45, rfl, by decide⟩
theorem go46 : IsGo Tryz.prog 46 := ⟨_, Tryz.func46, rfl, by decide⟩
theorem go47 : IsGo Tryz.prog 47 := ⟨_, Tryz.func47, rfl, by decide⟩
theorem go48 : IsGo Tryz.prog 48 := ⟨_, Tryz.func48, rfl, by decide⟩
theorem go49 : IsGo Tryz.prog 49 := ⟨_, Tryz.func49, rfl, by decide⟩
theorem go50 : IsGo Tryz.prog 50 := ⟨_, Tryz.func50, rfl, by decide⟩
theorem go51 : IsGo Tryz.prog 51 := ⟨_, Tryz.func51, rfl, by decide⟩
theorem go52 : IsGo Tryz.prog 52 := ⟨_, Tryz.func52, rfl, by decide⟩
theorem go53 : IsGo Tryz.prog 53 := ⟨_, Tryz.func53, rfl, by decide⟩
theorem go54 : IsGo Tryz.prog 54 := ⟨_, Tryz.func54, rfl, by decide⟩
theorem go55 : IsGo Tryz.prog 55 := ⟨_, Tryz.func55, rfl, by decide⟩
theorem go56 : IsGo Tryz.prog 56 := ⟨_, Tryz.func56, rfl, by decide⟩
theorem go57 : IsGo Tryz.prog 57 := ⟨_, Tryz.func57, rfl, by decide⟩
theorem go58 : IsGo Tryz.prog 58 := ⟨_, Tryz.func58, rfl, by decide⟩
theorem go59 : IsGo Tryz.prog 59 := ⟨_, Tryz.func59, rfl, by decide⟩
theorem go60 : IsGo Tryz.prog 60 := ⟨_, Tryz.func60, rfl, by decide⟩
theorem go61 : IsGo Tryz.prog 61 := ⟨_, Tryz.func61, rfl, by decide⟩
theorem go62 : IsGo Tryz.prog 62 := ⟨_, Tryz.func62, rfl, by decide⟩
theorem go63 : IsGo Tryz.prog 63 := ⟨_, Tryz.func63, rfl, by decide⟩
theorem go64 : IsGo Tryz.prog 64 := ⟨_, Tryz.func64, rfl, by decide⟩
theorem go65 : IsGo Tryz.prog 65 := ⟨_, Tryz.func65, rfl, by decide⟩
theorem go66 : IsGo Tryz.prog 66 := ⟨_, Tryz.func66, rfl, by decide⟩
theorem go67 : IsGo Tryz.prog 67 := ⟨_, Tryz.func67, rfl, by decide⟩
theorem go68 : IsGo Tryz.prog 68 := ⟨_, Tryz.func68, rfl, by decide⟩
theorem go69 : IsGo Tryz.prog 69 := ⟨_, Tryz.func69, rfl, by decide⟩
theorem go70 : IsGo Tryz.prog 70 := ⟨_, Tryz.func70, rfl, by decide⟩
theorem go72 : IsGo Tryz.prog 72 := ⟨_, Tryz.func72, rfl, by decide⟩
theorem go76 : IsGo Tryz.prog 76 := ⟨_, Tryz.func76, rfl, by decide⟩
theorem go77 : IsGo Tryz.prog 77 := ⟨_, Tryz.func77, rfl, by decide⟩
theorem go78 : IsGo Tryz.prog 78 := ⟨_, Tryz.func78, rfl, by decide⟩
theorem go79 : IsGo Tryz.prog 79 := ⟨_, Tryz.func79, rfl, by decide⟩
theorem go83 : IsGo Tryz.prog 83 := ⟨_, Tryz.func83, rfl, by decide⟩
theorem go84 : IsGo Tryz.prog 84 := ⟨_, Tryz.func84, rfl, by decide⟩
theorem go85 : IsGo Tryz.prog 85 := ⟨_, Tryz.func85, rfl, by decide⟩
theorem go86 : IsGo Tryz.prog 86 := ⟨_, Tryz.func86, rfl, by decide⟩
theorem go97 : IsGo Tryz.prog 97 := ⟨_, Tryz.func97, rfl, by decide⟩
theorem go98 : IsGo Tryz.prog 98 := ⟨_, Tryz.func98, rfl, by decide⟩
theorem go105 : IsGo Tryz.prog 105 := ⟨_, Tryz.func105, rfl, by decide⟩
end Go.Proofs.YtmgfgbplbemklaaGreat

namespace Go.Proofs.YtmgfgbplbemklaaGreat
open Go Go.Sx
theorem fa39_0 : Fat Tryz.prog 39 0 0 := ⟨_, _, _, Tryz.underlying39, rfl, rfl, sz3, by decide⟩
theorem fa39_1 : Fat Tryz.prog 39 1 1 := ⟨_, _, _, Tryz.underlying39, rfl, rfl, sz3, by decide⟩
theorem fa39_2 : Fat Tryz.prog 39 2 2 := ⟨_, _, _, Tryz.underlying39, rfl, rfl, sz3, by decide⟩
theorem fa39_3 : Fat Tryz.prog 39 3 3 := ⟨_, _, _, Tryz.underlying39, rfl, rfl, sz3, by decide⟩
theorem fa39_4 : Fat Tryz.prog 39 4 4 := ⟨_, _, _, Tryz.underlying39, rfl, rfl, sz3, by decide⟩
theorem fa39_5 : Fat Tryz.prog 39 5 5 := ⟨_, _, _, Tryz.underlying39, rfl, rfl, sz33, by decide⟩
theorem fa39_6 : Fat Tryz.prog 39 6 6 := ⟨_, _, _, Tryz.underlying39, rfl, rfl, sz34, by decide⟩
theorem fa39_7 : Fat Tryz.prog 39 7 7 := ⟨_, _, _, Tryz.underlying39, rfl, rfl, sz35, by decide⟩
theorem fa39_8 : Fat Tryz.prog 39 8 9 := ⟨_, _, _, Tryz.underlying39, rfl, rfl, sz35, by decide⟩
theorem fa39_9 : Fat Tryz.prog 39 9 11 := ⟨_, _, _, Tryz.underlying39, rfl, rfl, sz35, by decide⟩
theorem fa39_10 : Fat Tryz.prog 39 10 13 := ⟨_, _, _, Tryz.underlying39, rfl, rfl, sz36, by decide⟩
theorem fa39_11 : Fat Tryz.prog 39 11 14 := ⟨_, _, _, Tryz.underlying39, rfl, rfl, sz22, by decide⟩
theorem fa39_12 : Fat Tryz.prog 39 12 15 := ⟨_, _, _, Tryz.underlying39, rfl, rfl, sz37, by decide⟩
theorem fa39_13 : Fat Tryz.prog 39 13 16 := ⟨_, _, _, Tryz.underlying39, rfl, rfl, sz22, by decide⟩
theorem fa44_0 : Fat Tryz.prog 44 0 0 := ⟨_, _, _, Tryz.underlying44, rfl, rfl, sz3, by decide⟩
theorem fa44_1 : Fat Tryz.prog 44 1 1 := ⟨_, _, _, Tryz.underlying44, rfl, rfl, sz35, by decide⟩
theorem fa44_2 : Fat Tryz.prog 44 2 3 := ⟨_, _, _, Tryz.underlying44, rfl, rfl, sz35, by decide⟩
theorem pl44 : Pls Tryz.prog 44 [(0, 1), (1, 2), (3, 2)] := ⟨_, Tryz.underlying44, fun w => by simp [sz3.run, sz35.run]⟩
theorem fa53_0 : Fat Tryz.prog 53 0 0 := ⟨_, _, _, Tryz.underlying53, rfl, rfl, sz3, by decide⟩
theorem fa53_1 : Fat Tryz.prog 53 1 1 := ⟨_, _, _, Tryz.underlying53, rfl, rfl, sz3, by decide⟩
theorem fa53_2 : Fat Tryz.prog 53 2 2 := ⟨_, _, _, Tryz.underlying53, rfl, rfl, sz3, by decide⟩
theorem pl53 : Pls Tryz.prog 53 [(0, 1), (1, 1), (2, 1)] := ⟨_, Tryz.underlying53, fun w => by simp [sz3.run]⟩
theorem fa66_0 : Fat Tryz.prog 66 0 0 := ⟨_, _, _, Tryz.underlying66, rfl, rfl, sz22, by decide⟩
theorem fa66_1 : Fat Tryz.prog 66 1 1 := ⟨_, _, _, Tryz.underlying66, rfl, rfl, sz63, by decide⟩
theorem fa66_2 : Fat Tryz.prog 66 2 2 := ⟨_, _, _, Tryz.underlying66, rfl, rfl, sz64, by decide⟩
theorem fa66_3 : Fat Tryz.prog 66 3 3 := ⟨_, _, _, Tryz.underlying66, rfl, rfl, sz3, by decide⟩
theorem pl66 : Pls Tryz.prog 66 [(0, 1), (1, 1), (2, 1), (3, 1)] := ⟨_, Tryz.underlying66, fun w => by simp [sz3.run, sz22.run, sz63.run, sz64.run]⟩
theorem fa71_0 : Fat Tryz.prog 71 0 0 := ⟨_, _, _, Tryz.underlying71, rfl, rfl, sz22, by decide⟩
theorem fa71_1 : Fat Tryz.prog 71 1 1 := ⟨_, _, _, Tryz.underlying71, rfl, rfl, sz68, by decide⟩
theorem fa71_2 : Fat Tryz.prog 71 2 2 := ⟨_, _, _, Tryz.underlying71, rfl, rfl, sz69, by decide⟩
theorem fa71_3 : Fat Tryz.prog 71 3 3 := ⟨_, _, _, Tryz.underlying71, rfl, rfl, sz3, by decide⟩
theorem pl71 : Pls Tryz.prog 71 [(0, 1), (1, 1), (2, 1), (3, 1)] := ⟨_, Tryz.underlying71, fun w => by simp [sz3.run, sz22.run, sz68.run, sz69.run]⟩
theorem fa73_0 : Fat Tryz.prog 73 0 0 := ⟨_, _, _, Tryz.underlying73, rfl, rfl, sz3, by decide⟩
theorem fa73_1 : Fat Tryz.prog 73 1 1 := ⟨_, _, _, Tryz.underlying73, rfl, rfl, sz35, by decide⟩
theorem fa73_2 : Fat Tryz.prog 73 2 3 := ⟨_, _, _, Tryz.underlying73, rfl, rfl, sz35, by decide⟩
theorem pl73 : Pls Tryz.prog 73 [(0, 1), (1, 2), (3, 2)] := ⟨_, Tryz.underlying73, fun w => by simp [sz3.run, sz35.run]⟩
theorem fa75_0 : Fat Tryz.prog 75 0 0 := ⟨_, _, _, Tryz.underlying75, rfl, rfl, sz3, by decide⟩
theorem fa75_1 : Fat Tryz.prog 75 1 1 := ⟨_, _, _, Tryz.underlying75, rfl, rfl, sz3, by decide⟩
theorem fa75_2 : Fat Tryz.prog 75 2 2 := ⟨_, _, _, Tryz.underlying75, rfl, rfl, sz3, by decide⟩
theorem pl75 : Pls Tryz.prog 75 [(0, 1), (1, 1), (2, 1)] := ⟨_, Tryz.underlying75, fun w => by simp [sz3.run]⟩
theorem fa84_0 : Fat Tryz.prog 84 0 0 := ⟨_, _, _, Tryz.underlying84, rfl, rfl, sz3, by decide⟩
theorem fa84_1 : Fat Tryz.prog 84 1 1 := ⟨_, _, _, Tryz.underlying84, rfl, rfl, sz3, by decide⟩
theorem pl84 : Pls Tryz.prog 84 [(0, 1), (1, 1), (2, 1)] := ⟨_, Tryz.underlying84, fun w => by simp [sz3.run]⟩
theorem fa86_0 : Fat Tryz.prog 86 0 0 := ⟨_, _, _, Tryz.underlying86, rfl, rfl, sz3, by decide⟩
theorem fa86_1 : Fat Tryz.prog 86 1 1 := ⟨_, _, _, Tryz.underlying86, rfl, rfl, sz33, by decide⟩
theorem pl86 : Pls Tryz.prog 86 [(0, 1), (1, 1)] := ⟨_, Tryz.underlying86, fun w => by simp [sz3.run, sz33.run]⟩
theorem fa103_0 : Fat Tryz.prog 103 0 0 := ⟨_, _, _, Tryz.underlying103, rfl, rfl, sz3, by decide⟩
theorem fa103_1 : Fat Tryz.prog 103 1 1 := ⟨_, _, _, Tryz.underlying103, rfl, rfl, sz3, by decide⟩
theorem fa103_2 : Fat Tryz.prog 103 2 2 := ⟨_, _, _, Tryz.underlying103, rfl, rfl, sz3, by decide⟩
theorem fa103_3 : Fat Tryz.prog 103 3 3 := ⟨_, _, _, Tryz.underlying103, rfl, rfl, sz3, by decide⟩
theorem fa103_4 : Fat Tryz.prog 103 4 4 := ⟨_, _, _, Tryz.underlying103, rfl, rfl, sz33, by decide⟩
theorem pl103 : Pls Tryz.prog 103 [(0, 1), (1, 1), (2, 1), (3, 1), (4, 1)] := ⟨_, Tryz.underlying103, fun w => by simp [sz3.run, sz33.run]⟩
end Go.Proofs.YtmgfgbplbemklaaGreat

namespace Go.Proofs.YtmgfgbplbemklaaGreat
open Go Go.Sx Go.Num Go.Gsp
set_option maxRecDepth 20000
set_option linter.unusedSimpArgs false
set_option linter.unusedVariables false
theorem coins_ok (a : Int) (w : World) : Calls Tryz.prog 57 #[.int .i64 (a)] w fun r w' => r = .returned (.bool (coinB a)) ∧ Le w w' := by
 refine enter Tryz.func57 rfl rfl ?_
 have L0 := Le.refl w
 refine WC.seq (WC.region ?_)
 refine W.any (.assign rfl) rfl rfl rfl ?_
 refine W.nil (E.thenN (WC.seq (WC.region ?_)))
 refine W.any (.move rfl) rfl rfl rfl ?_
 refine W.any (.geq rfl rfl) rfl rfl rfl ?_
 by_cases q1_2 : 0 ≤ a
 ·refine W.any (.dec (.move rfl) (decide_eq_true q1_2)) rfl rfl rfl ?_
  refine W.rdg (Any.rd (.move rfl) _) rfl rfl rfl (rfl) rfl rfl ?_
  refine W.rdg (Any.rd (.leq rfl rfl) _) rfl rfl rfl (rfl) rfl rfl ?_
  refine W.any (.pickT rfl rfl rfl) rfl rfl rfl ?_
  refine W.any (.assign rfl) rfl rfl rfl ?_
  refine W.nil (E.thenN (WC.ret ?_))
  refine E.retG1 rfl rfl ?_
  exact ⟨congrArg (fun b => Ending.returned (Value.bool b)) (by simp [coinB, inB, q1_2]), L0⟩
 ·refine W.any (.dec (.move rfl) (decide_eq_false q1_2)) rfl rfl rfl ?_
  refine W.skip rfl rfl rfl (rfl) rfl rfl ?_
  refine W.skip rfl rfl rfl (rfl) rfl rfl ?_
  refine W.any (.pickF rfl rfl rfl) rfl rfl rfl ?_
  refine W.any (.assign rfl) rfl rfl rfl ?_
  refine W.nil (E.thenN (WC.ret ?_))
  refine E.retG1 rfl rfl ?_
  exact ⟨congrArg (fun b => Ending.returned (Value.bool b)) (by simp [coinB, inB, q1_2]), L0⟩

theorem nadd_ok (a b : Int) (w : World) : Calls Tryz.prog 26 #[.int .i64 (a), .int .i64 (b)] w fun r w' => r = .returned (.tuple #[.int .i64 (addC a b).1, .bool (addC a b).2]) ∧ Le w w' := by
 refine enter Tryz.func26 rfl rfl ?_
 have L0 := Le.refl w
 refine WC.seq (WC.region ?_)
 refine W.any (.assign rfl) rfl rfl rfl ?_
 refine W.any (.assign rfl) rfl rfl rfl ?_
 refine W.nil (E.thenN (WC.seq (WC.seq (WC.region ?_))))
 refine W.any (.move rfl) rfl rfl rfl ?_
 refine W.ef rfl rfl rfl ?_
 refine Ef.call go57 rfl rfl (coins_ok a w) ?_
 rintro _ w1_1 ⟨rfl, h1_1⟩
 refine ⟨_, rfl, ?_⟩
 have L1 := L0.trans h1_1
 refine W.any (.not rfl) rfl rfl rfl ?_
 by_cases q1_3 : (coinB a) = true
 ·refine W.any (.dec (.move rfl) (congrArg not (q1_3))) rfl rfl rfl ?_
  refine W.rdg (Any.rd (.move rfl) _) rfl rfl rfl (rfl) rfl rfl ?_
  refine W.efg rfl rfl rfl (rfl) rfl rfl ?_
  refine Ef.call go57 rfl rfl (coins_ok b w1_1) ?_
  rintro _ w1_5 ⟨rfl, h1_5⟩
  refine ⟨_, rfl, ?_⟩
  have L2 := L1.trans h1_5
  refine W.rdg (Any.rd (.not rfl) _) rfl rfl rfl (rfl) rfl rfl ?_
  refine W.any (.pickF rfl rfl rfl) rfl rfl rfl ?_
  by_cases q1_8 : (coinB b) = true
  ·refine W.any (.dec (.move rfl) (congrArg not (q1_8))) rfl rfl rfl ?_
   refine W.rdg (Any.rd (.move rfl) _) rfl rfl rfl (rfl) rfl rfl ?_
   refine W.rdg (Any.rd (.move rfl) _) rfl rfl rfl (rfl) rfl rfl ?_
   have hb1 := inB_T (show inB b 0 1125899906842624 = true by assumption)
   refine W.rdg (Any.rd (.sub rfl rfl (by omega)) _) rfl rfl rfl (rfl) rfl rfl ?_
   refine W.rdg (Any.rd (.gtr rfl rfl) _) rfl rfl rfl (rfl) rfl rfl ?_
   refine W.any (.pickF rfl rfl rfl) rfl rfl rfl ?_
   refine W.nil (E.thenN ?_)
   by_cases c0 : (1125899906842624 - b) < a
   ·refine WC.condY rfl (decide_eq_true c0) ?_
    refine WC.seq (WC.region ?_)
    refine W.any (.assign rfl) rfl rfl rfl ?_
    refine W.any (.assign rfl) rfl rfl rfl ?_
    refine W.nil (E.thenN (WC.ret (E.thenR ?_)))
    refine E.retG2 rfl rfl rfl ?_
    exact ⟨(by first | rfl | (simp [addC, q1_3, q1_8, c0]; done) | (simp [addC, q1_3, q1_8, c0]; omega) | (simp [addC, q1_3, q1_8, c0]; split <;> first | (exfalso; omega) | (simp; done) | (simp; omega))), L2⟩
   ·refine WC.condN rfl (decide_eq_false c0) ?_
    refine WC.skip (E.thenN (WC.seq (WC.region ?_)))
    refine W.any (.move rfl) rfl rfl rfl ?_
    refine W.any (.move rfl) rfl rfl rfl ?_
    refine W.any (.add rfl rfl (by have := inB_T (show inB a 0 1125899906842624 = true by assumption); have := inB_T (show inB b 0 1125899906842624 = true by assumption); omega)) rfl rfl rfl ?_
    refine W.any (.assign rfl) rfl rfl rfl ?_
    refine W.any (.assign rfl) rfl rfl rfl ?_
    refine W.nil (E.thenN (WC.ret ?_))
    refine E.retG2 rfl rfl rfl ?_
    exact ⟨(by first | rfl | (simp [addC, q1_3, q1_8, c0]; done) | (simp [addC, q1_3, q1_8, c0]; omega) | (simp [addC, q1_3, q1_8, c0]; split <;> first | (exfalso; omega) | (simp; done) | (simp; omega))), L2⟩
  ·refine W.any (.dec (.move rfl) (congrArg not ((Bool.eq_false_iff.2 q1_8)))) rfl rfl rfl ?_
   refine W.skip rfl rfl rfl (rfl) rfl rfl ?_
   refine W.skip rfl rfl rfl (rfl) rfl rfl ?_
   refine W.skip rfl rfl rfl (rfl) rfl rfl ?_
   refine W.skip rfl rfl rfl (rfl) rfl rfl ?_
   refine W.any (.pickT rfl rfl rfl) rfl rfl rfl ?_
   refine W.nil (E.thenN ?_)
   refine WC.condT rfl ?_
   refine WC.seq (WC.region ?_)
   refine W.any (.assign rfl) rfl rfl rfl ?_
   refine W.any (.assign rfl) rfl rfl rfl ?_
   refine W.nil (E.thenN (WC.ret (E.thenR ?_)))
   refine E.retG2 rfl rfl rfl ?_
   exact ⟨(by first | rfl | (simp [addC, q1_3, q1_8]; done) | (simp [addC, q1_3, q1_8]; omega) | (simp [addC, q1_3, q1_8]; split <;> first | (exfalso; omega) | (simp; done) | (simp; omega))), L2⟩
 ·refine W.any (.dec (.move rfl) (congrArg not ((Bool.eq_false_iff.2 q1_3)))) rfl rfl rfl ?_
  refine W.skip rfl rfl rfl (rfl) rfl rfl ?_
  refine W.skip rfl rfl rfl (rfl) rfl rfl ?_
  refine W.skip rfl rfl rfl (rfl) rfl rfl ?_
  refine W.any (.pickT rfl rfl rfl) rfl rfl rfl ?_
  refine W.any (.move rfl) rfl rfl rfl ?_
  refine W.skip rfl rfl rfl (rfl) rfl rfl ?_
  refine W.skip rfl rfl rfl (rfl) rfl rfl ?_
  refine W.skip rfl rfl rfl (rfl) rfl rfl ?_
  refine W.skip rfl rfl rfl (rfl) rfl rfl ?_
  refine W.any (.pickT rfl rfl rfl) rfl rfl rfl ?_
  refine W.nil (E.thenN ?_)
  refine WC.condT rfl ?_
  refine WC.seq (WC.region ?_)
  refine W.any (.assign rfl) rfl rfl rfl ?_
  refine W.any (.assign rfl) rfl rfl rfl ?_
  refine W.nil (E.thenN (WC.ret (E.thenR ?_)))
  refine E.retG2 rfl rfl rfl ?_
  exact ⟨(by first | rfl | (simp [addC, q1_3]; done) | (simp [addC, q1_3]; omega) | (simp [addC, q1_3]; split <;> first | (exfalso; omega) | (simp; done) | (simp; omega))), L1⟩
end Go.Proofs.YtmgfgbplbemklaaGreat

