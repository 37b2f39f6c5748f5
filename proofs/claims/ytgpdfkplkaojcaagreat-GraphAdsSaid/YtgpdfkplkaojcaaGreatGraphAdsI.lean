/- GraphAds: for every input the law answers true and leaves its arguments as they were. -/
import Derived.Test.YtgpdfkplkaojcaaGreatGraphAdsH
import Derived.OrdersHeld
import Derived.WalkKit
import Derived.Deep.AppendSrc
import Derived.Deep.MidRow
import Derived.Laws.OwnMore
import Derived.WalkSpells
import Derived.Lib.ConvBytes
import Derived.Lib.AppendZerosOnto
import Derived.Laws.StructEq
import Derived.Maps.RangeRun
import Derived.Laws.Pointers
import Derived.Test.YtgpdfkplkaojcaaGreatProg
import Derived.KernelRfl
namespace Go.Proofs.YtgpdfkplkaojcaaGreat
open Go Go.Sx
theorem mixed : Tryz.prog.follows .mixedOrders = true := by kernel_rfl
theorem el2 : El Tryz.prog 2 1 8 (.int .i64 0) := El.mk (by kernel_rfl) (by first | rfl | simp [Value.cells]) (by decide)
theorem z2 : Zr Tryz.prog 2 (.int .i64 0) := el2.zr
theorem el3 : El Tryz.prog 3 1 8 (.int .i64 0) := El.mk (by kernel_rfl) (by first | rfl | simp [Value.cells]) (by decide)
theorem sz3 : Sz Tryz.prog 3 1 := el3.sz
theorem z3 : Zr Tryz.prog 3 (.int .i64 0) := el3.zr
theorem na3 : NotAgg Tryz.prog 3 := ⟨_, Tryz.underlying3, rfl⟩
theorem el4 : El Tryz.prog 4 1 1 (.bool false) := El.mk (by kernel_rfl) (by first | rfl | simp [Value.cells]) (by decide)
theorem sz4 : Sz Tryz.prog 4 1 := el4.sz
theorem z4 : Zr Tryz.prog 4 (.bool false) := el4.zr
theorem na4 : NotAgg Tryz.prog 4 := ⟨_, Tryz.underlying4, rfl⟩
theorem el5 : El Tryz.prog 5 1 1 (.int .u8 0) := El.mk (by kernel_rfl) (by first | rfl | simp [Value.cells]) (by decide)
theorem sz5 : Sz Tryz.prog 5 1 := el5.sz
theorem z5 : Zr Tryz.prog 5 (.int .u8 0) := el5.zr
theorem na5 : NotAgg Tryz.prog 5 := ⟨_, Tryz.underlying5, rfl⟩
theorem el9 : El Tryz.prog 9 1 16 (.string ⟨#[]⟩) := El.mk (by kernel_rfl) (by first | rfl | simp [Value.cells]) (by decide)
theorem z9 : Zr Tryz.prog 9 (.string ⟨#[]⟩) := el9.zr
theorem el22 : El Tryz.prog 22 1 24 (.slice none 0 0) := El.mk (by kernel_rfl) (by first | rfl | simp [Value.cells]) (by decide)
theorem z22 : Zr Tryz.prog 22 (.slice none 0 0) := el22.zr
theorem el23 : El Tryz.prog 23 1 24 (.slice none 0 0) := El.mk (by kernel_rfl) (by first | rfl | simp [Value.cells]) (by decide)
theorem z23 : Zr Tryz.prog 23 (.slice none 0 0) := el23.zr
theorem el24 : El Tryz.prog 24 1 24 (.slice none 0 0) := El.mk (by kernel_rfl) (by first | rfl | simp [Value.cells]) (by decide)
theorem sz24 : Sz Tryz.prog 24 1 := el24.sz
theorem na24 : NotAgg Tryz.prog 24 := ⟨_, Tryz.underlying24, rfl⟩
theorem el25 : El Tryz.prog 25 1 8 (.nilFunc) := El.mk (by kernel_rfl) (by first | rfl | simp [Value.cells]) (by decide)
theorem z25 : Zr Tryz.prog 25 (.nilFunc) := el25.zr
theorem el26 : El Tryz.prog 26 1 24 (.slice none 0 0) := El.mk (by kernel_rfl) (by first | rfl | simp [Value.cells]) (by decide)
theorem sz26 : Sz Tryz.prog 26 1 := el26.sz
theorem na26 : NotAgg Tryz.prog 26 := ⟨_, Tryz.underlying26, rfl⟩
theorem el28 : El Tryz.prog 28 1 8 (.int .u64 0) := El.mk (by kernel_rfl) (by first | rfl | simp [Value.cells]) (by decide)
theorem sz28 : Sz Tryz.prog 28 1 := el28.sz
theorem na28 : NotAgg Tryz.prog 28 := ⟨_, Tryz.underlying28, rfl⟩
theorem el30 : El Tryz.prog 30 1 8 (.int .u64 0) := El.mk (by kernel_rfl) (by first | rfl | simp [Value.cells]) (by decide)
theorem sz30 : Sz Tryz.prog 30 1 := el30.sz
theorem na30 : NotAgg Tryz.prog 30 := ⟨_, Tryz.underlying30, rfl⟩
theorem el34 : El Tryz.prog 34 5 40 (.agg #[.int .i64 0, .int .i64 0, .int .i64 0, .int .i64 0, .int .i64 0]) := El.mk (by kernel_rfl) (by first | rfl | simp [Value.cells]) (by decide)
theorem sz34 : Sz Tryz.prog 34 5 := el34.sz
theorem z34 : Zr Tryz.prog 34 (.agg #[.int .i64 0, .int .i64 0, .int .i64 0, .int .i64 0, .int .i64 0]) := el34.zr
theorem ag34 : IsAgg Tryz.prog 34 5 := ⟨_, Tryz.underlying34, rfl, sz34⟩
theorem el36 : El Tryz.prog 36 9 72 (.agg (List.replicate 9 (.int .i64 0)).toArray) := El.mk (by kernel_rfl) (by first | rfl | simp [Value.cells]) (by decide)
theorem sz36 : Sz Tryz.prog 36 9 := el36.sz
theorem z36 : Zr Tryz.prog 36 (.agg (List.replicate 9 (.int .i64 0)).toArray) := el36.zr
theorem eg36 : Tryz.prog.eqGuardType Tryz.prog.depth 36 = false := by kernel_rfl
theorem ag36 : IsAgg Tryz.prog 36 9 := ⟨_, Tryz.underlying36, rfl, sz36⟩
theorem el38 : El Tryz.prog 38 2 16 (.agg #[.int .u64 0, .int .u64 0]) := El.mk (by kernel_rfl) (by first | rfl | simp [Value.cells]) (by decide)
theorem sz38 : Sz Tryz.prog 38 2 := el38.sz
theorem z38 : Zr Tryz.prog 38 (.agg #[.int .u64 0, .int .u64 0]) := el38.zr
theorem ag38 : IsAgg Tryz.prog 38 2 := ⟨_, Tryz.underlying38, rfl, sz38⟩
theorem el39 : El Tryz.prog 39 13 104 (.agg #[.int .i64 0, .int .i64 0, .int .i64 0, .int .i64 0, .int .i64 0, .int .i64 0, .int .i64 0, .int .i64 0, .int .i64 0, .int .i64 0, .bool false, .int .u64 0, .int .u64 0]) := El.mk (by kernel_rfl) (by first | rfl | simp [Value.cells]) (by decide)
theorem z39 : Zr Tryz.prog 39 (.agg #[.int .i64 0, .int .i64 0, .int .i64 0, .int .i64 0, .int .i64 0, .int .i64 0, .int .i64 0, .int .i64 0, .int .i64 0, .int .i64 0, .bool false, .int .u64 0, .int .u64 0]) := el39.zr
theorem el40 : El Tryz.prog 40 13 104 (.agg #[.int .i64 0, .int .i64 0, .int .i64 0, .int .i64 0, .int .i64 0, .int .i64 0, .int .i64 0, .int .i64 0, .int .i64 0, .int .i64 0, .bool false, .int .u64 0, .int .u64 0]) := El.mk (by kernel_rfl) (by first | rfl | simp [Value.cells]) (by decide)
theorem sz40 : Sz Tryz.prog 40 13 := el40.sz
theorem z40 : Zr Tryz.prog 40 (.agg #[.int .i64 0, .int .i64 0, .int .i64 0, .int .i64 0, .int .i64 0, .int .i64 0, .int .i64 0, .int .i64 0, .int .i64 0, .int .i64 0, .bool false, .int .u64 0, .int .u64 0]) := el40.zr
theorem ag40 : IsAgg Tryz.prog 40 13 := ⟨_, Tryz.underlying40, rfl, sz40⟩
theorem el45 : El Tryz.prog 45 1 8 (.nilFunc) := El.mk (by kernel_rfl) (by first | rfl | simp [Value.cells]) (by decide)
theorem z45 : Zr Tryz.prog 45 (.nilFunc) := el45.zr
theorem el46 : El Tryz.prog 46 1 8 (.nilFunc) := El.mk (by kernel_rfl) (by first | rfl | simp [Value.cells]) (by decide)
theorem z46 : Zr Tryz.prog 46 (.nilFunc) := el46.zr
theorem el50 : El Tryz.prog 50 1 8 (.nilFunc) := El.mk (by kernel_rfl) (by first | rfl | simp [Value.cells]) (by decide)
theorem z50 : Zr Tryz.prog 50 (.nilFunc) := el50.zr
theorem el53 : El Tryz.prog 53 1 8 (.nilFunc) := El.mk (by kernel_rfl) (by first | rfl | simp [Value.cells]) (by decide)
theorem z53 : Zr Tryz.prog 53 (.nilFunc) := el53.zr
theorem el55 : El Tryz.prog 55 1 8 (.nilFunc) := El.mk (by kernel_rfl) (by first | rfl | simp [Value.cells]) (by decide)
theorem z55 : Zr Tryz.prog 55 (.nilFunc) := el55.zr
theorem el57 : El Tryz.prog 57 2 48 (.agg #[.slice none 0 0, .slice none 0 0]) := El.mk (by kernel_rfl) (by first | rfl | simp [Value.cells]) (by decide)
theorem sz57 : Sz Tryz.prog 57 2 := el57.sz
theorem z57 : Zr Tryz.prog 57 (.agg #[.slice none 0 0, .slice none 0 0]) := el57.zr
theorem ag57 : IsAgg Tryz.prog 57 2 := ⟨_, Tryz.underlying57, rfl, sz57⟩
theorem el61 : El Tryz.prog 61 32 32 (.agg (List.replicate 32 (.int .u8 0)).toArray) := El.mk (by kernel_rfl) (by first | rfl | simp [Value.cells]) (by decide)
theorem sz61 : Sz Tryz.prog 61 32 := el61.sz
theorem z61 : Zr Tryz.prog 61 (.agg (List.replicate 32 (.int .u8 0)).toArray) := el61.zr
theorem ag61 : IsAgg Tryz.prog 61 32 := ⟨_, Tryz.underlying61, rfl, sz61⟩
theorem el66 : El Tryz.prog 66 1 8 (.nilFunc) := El.mk (by kernel_rfl) (by first | rfl | simp [Value.cells]) (by decide)
theorem z66 : Zr Tryz.prog 66 (.nilFunc) := el66.zr
theorem el68 : El Tryz.prog 68 6 48 (.agg #[.int .i64 0, .int .i64 0, .int .i64 0, .int .i64 0, .int .u64 0, .int .u64 0]) := El.mk (by kernel_rfl) (by first | rfl | simp [Value.cells]) (by decide)
theorem sz68 : Sz Tryz.prog 68 6 := el68.sz
theorem z68 : Zr Tryz.prog 68 (.agg #[.int .i64 0, .int .i64 0, .int .i64 0, .int .i64 0, .int .u64 0, .int .u64 0]) := el68.zr
theorem eg68 : Tryz.prog.eqGuardType Tryz.prog.depth 68 = false := by kernel_rfl
theorem ag68 : IsAgg Tryz.prog 68 6 := ⟨_, Tryz.underlying68, rfl, sz68⟩
theorem el70 : El Tryz.prog 70 1 8 (.nilFunc) := El.mk (by kernel_rfl) (by first | rfl | simp [Value.cells]) (by decide)
theorem z70 : Zr Tryz.prog 70 (.nilFunc) := el70.zr
theorem el72 : El Tryz.prog 72 1 8 (.map none) := El.mk (by kernel_rfl) (by first | rfl | simp [Value.cells]) (by decide)
theorem sz72 : Sz Tryz.prog 72 1 := el72.sz
theorem na72 : NotAgg Tryz.prog 72 := ⟨_, Tryz.underlying72, rfl⟩
theorem el73 : El Tryz.prog 73 1 8 (.map none) := El.mk (by kernel_rfl) (by first | rfl | simp [Value.cells]) (by decide)
theorem sz73 : Sz Tryz.prog 73 1 := el73.sz
theorem na73 : NotAgg Tryz.prog 73 := ⟨_, Tryz.underlying73, rfl⟩
theorem el75 : El Tryz.prog 75 4 48 (.agg #[.slice none 0 0, .map none, .map none, .int .i64 0]) := El.mk (by kernel_rfl) (by first | rfl | simp [Value.cells]) (by decide)
theorem z75 : Zr Tryz.prog 75 (.agg #[.slice none 0 0, .map none, .map none, .int .i64 0]) := el75.zr
theorem el76 : El Tryz.prog 76 1 8 (.nilFunc) := El.mk (by kernel_rfl) (by first | rfl | simp [Value.cells]) (by decide)
theorem z76 : Zr Tryz.prog 76 (.nilFunc) := el76.zr
theorem el77 : El Tryz.prog 77 1 8 (.nilFunc) := El.mk (by kernel_rfl) (by first | rfl | simp [Value.cells]) (by decide)
theorem z77 : Zr Tryz.prog 77 (.nilFunc) := el77.zr
theorem el82 : El Tryz.prog 82 2 16 (.agg #[.int .i64 0, .int .i64 0]) := El.mk (by kernel_rfl) (by first | rfl | simp [Value.cells]) (by decide)
theorem sz82 : Sz Tryz.prog 82 2 := el82.sz
theorem z82 : Zr Tryz.prog 82 (.agg #[.int .i64 0, .int .i64 0]) := el82.zr
theorem ag82 : IsAgg Tryz.prog 82 2 := ⟨_, Tryz.underlying82, rfl, sz82⟩
theorem el99 : El Tryz.prog 99 1 24 (.slice none 0 0) := El.mk (by kernel_rfl) (by first | rfl | simp [Value.cells]) (by decide)
theorem sz99 : Sz Tryz.prog 99 1 := el99.sz
theorem na99 : NotAgg Tryz.prog 99 := ⟨_, Tryz.underlying99, rfl⟩
theorem el103 : El Tryz.prog 103 1 4 (.int .u32 0) := El.mk (by kernel_rfl) (by first | rfl | simp [Value.cells]) (by decide)
theorem sz103 : Sz Tryz.prog 103 1 := el103.sz
theorem na103 : NotAgg Tryz.prog 103 := ⟨_, Tryz.underlying103, rfl⟩
theorem el105 : El Tryz.prog 105 8 32 (.agg #[.int .u32 0, .int .u32 0, .int .u32 0, .int .u32 0, .int .u32 0, .int .u32 0, .int .u32 0, .int .u32 0]) := El.mk (by kernel_rfl) (by first | rfl | simp [Value.cells]) (by decide)
theorem sz105 : Sz Tryz.prog 105 8 := el105.sz
theorem z105 : Zr Tryz.prog 105 (.agg #[.int .u32 0, .int .u32 0, .int .u32 0, .int .u32 0, .int .u32 0, .int .u32 0, .int .u32 0, .int .u32 0]) := el105.zr
theorem ag105 : IsAgg Tryz.prog 105 8 := ⟨_, Tryz.underlying105, rfl, sz105⟩
theorem el108 : El Tryz.prog 108 12 12 (.agg (List.replicate 12 (.bool false)).toArray) := El.mk (by kernel_rfl) (by first | rfl | simp [Value.cells]) (by decide)
theorem z108 : Zr Tryz.prog 108 (.agg (List.replicate 12 (.bool false)).toArray) := el108.zr
theorem el126 : El Tryz.prog 126 64 256 (.agg (List.replicate 64 (.int .u32 0)).toArray) := El.mk (by kernel_rfl) (by first | rfl | simp [Value.cells]) (by decide)
theorem sz126 : Sz Tryz.prog 126 64 := el126.sz
theorem z126 : Zr Tryz.prog 126 (.agg (List.replicate 64 (.int .u32 0)).toArray) := el126.zr
theorem ag126 : IsAgg Tryz.prog 126 64 := ⟨_, Tryz.underlying126, rfl, sz126⟩
theorem go4 : IsGo Tryz.prog 4 := ⟨_, Tryz.func4, rfl, by decide⟩
theorem go5 : IsGo Tryz.prog 5 := ⟨_, Tryz.func5, rfl, by decide⟩
theorem go6 : IsGo Tryz.prog 6 := ⟨_, Tryz.func6, rfl, by decide⟩
theorem go7 : IsGo Tryz.prog 7 := ⟨_, Tryz.func7, rfl, by decide⟩
theorem go8 : IsGo Tryz.prog 8 := ⟨_, Tryz.func8, rfl, by decide⟩
theorem go9 : IsGo Tryz.prog 9 := ⟨_, Tryz.func9, rfl, by decide⟩
theorem go10 : IsGo Tryz.prog 10 := ⟨_, Tryz.func10, rfl, by decide⟩
theorem go11 : IsGo Tryz.prog 11 := ⟨_, Tryz.func11, rfl, by decide⟩
theorem go12 : IsGo Tryz.prog 12 := ⟨_, Tryz.func12, rfl, by decide⟩
theorem go13 : IsGo Tryz.prog 13 := ⟨_, Tryz.func13, rfl, by decide⟩
theorem go14 : IsGo Tryz.prog 14 := ⟨_, Tryz.func14, rfl, by decide⟩
theorem go15 : IsGo Tryz.prog 15 := ⟨_, Tryz.func15, rfl, by decide⟩
theorem go16 : IsGo Tryz.prog 16 := ⟨_, Tryz.func16, rfl, by decide⟩
theorem go17 : IsGo Tryz.prog 17 := ⟨_, Tryz.func17, rfl, by decide⟩
theorem go18 : IsGo Tryz.prog 18 := ⟨_, Tryz.func18, rfl, by decide⟩
theorem go19 : IsGo Tryz.prog 19 := ⟨_, Tryz.func19, rfl, by decide⟩
theorem go20 : IsGo Tryz.prog 20 := ⟨_, Tryz.func20, rfl, by decide⟩
theorem go21 : IsGo Tryz.prog 21 := ⟨_, Tryz.func21, rfl, by decide⟩
theorem go22 : IsGo Tryz.prog 22 := ⟨_, Tryz.func22, rfl, by decide⟩
theorem go23 : IsGo Tryz.prog 23 := ⟨_, Tryz.func23, rfl, by decide⟩
theorem go24 : IsGo Tryz.prog 24 := ⟨_, Tryz.func24, rfl, by decide⟩
theorem go25 : IsGo Tryz.prog 25 := ⟨_, Tryz.func25, rfl, by decide⟩
theorem go26 : IsGo Tryz.prog 26 := ⟨_, Tryz.func26, rfl, by decide⟩
theorem go27 : IsGo Tryz.prog 27 := ⟨_, Tryz.func27, rfl, by decide⟩
theorem go28 : IsGo Tryz.prog 28 := ⟨_, Tryz.func28, rfl, by decide⟩
theorem go29 : IsGo Tryz.prog 29 := ⟨_, Tryz.func29, rfl, by decide⟩
theorem go30 : IsGo Tryz.prog 30 := ⟨_, Tryz.func30, rfl, by decide⟩
theorem go31 : IsGo Tryz.prog 31 := ⟨_, Tryz.func31, rfl, by decide⟩
theorem go32 : IsGo Tryz.prog 32 := ⟨_, Tryz.func32, rfl, by decide⟩
theorem go33 : IsGo Tryz.prog 33 := ⟨_, Tryz.func33, rfl, by decide⟩
theorem go34 : IsGo Tryz.prog 34 := ⟨_, Tryz.func34, rfl, by decide⟩
theorem go35 : IsGo Tryz.prog 35 := ⟨_, Tryz.func35, rfl, by decide⟩
theorem go36 : IsGo Tryz.prog 36 := ⟨_, Tryz.func36, rfl, by decide⟩
theorem go37 : IsGo Tryz.prog 37 := ⟨_, Tryz.func37, rfl, by decide⟩
theorem go38 : IsGo Tryz.prog 38 := ⟨_, Tryz.func38, rfl, by decide⟩
theorem go39 : IsGo Tryz.prog 39 := ⟨_, Tryz.func39, rfl, by decide⟩
theorem go40 : IsGo Tryz.prog 40 := ⟨_, Tryz.func40, rfl, by decide⟩
theorem go41 : IsGo Tryz.prog 41 := ⟨_, Tryz.func41, rfl, by decide⟩
theorem go42 : IsGo Tryz.prog 42 := ⟨_, Tryz.func42, rfl, by decide⟩
theorem go43 : IsGo Tryz.prog 43 := ⟨_, Tryz.func43, rfl, by decide⟩
theorem go44 : IsGo Tryz.prog 44 := ⟨_, Tryz.func44, rfl, by decide⟩
theorem go45 : IsGo Tryz.prog 45 := ⟨_, Tryz.func45, rfl, by decide⟩
theorem go46 : IsGo Tryz.prog 46 := ⟨_, Tryz.func46, rfl, by decide⟩
theorem go47 : IsGo Tryz.prog 47 := ⟨_, Tryz.func47, rfl, by decide⟩
theorem go48 : IsGo Tryz.prog 48 := ⟨_, Tryz.func48, rfl, by decide⟩
theorem go49 : IsGo Tryz.prog 49 := ⟨_, Tryz.func49, rfl, by decide⟩
theorem go50 : IsGo Tryz.prog 50 := ⟨_, Tryz.func50, rfl, by decide⟩
theorem go51 : IsGo Tryz.prog 51 := ⟨_, Tryz.func51, rfl, by decide⟩
theorem go52 : IsGo Tryz.prog 52 := ⟨_, Tryz.func52, rfl, by decide⟩
theorem go53 : IsGo Tryz.prog 53 := ⟨_, Tryz.func53, rfl, by decide⟩
theorem go54 : IsGo Tryz.prog 54 := ⟨_, Tryz.func54, rfl, by decide⟩
theorem go55 : IsGo Tryz.prog 55 := ⟨_, Tryz.func55, rfl, by decide⟩
theorem go56 : IsGo Tryz.prog 56 := ⟨_, Tryz.func56, rfl, by decide⟩
theorem go57 : IsGo Tryz.prog 57 := ⟨_, Tryz.func57, rfl, by decide⟩
theorem go58 : IsGo Tryz.prog 58 := ⟨_, Tryz.func58, rfl, by decide⟩
theorem go59 : IsGo Tryz.prog 59 := ⟨_, Tryz.func59, rfl, by decide⟩
theorem go60 : IsGo Tryz.prog 60 := ⟨_, Tryz.func60, rfl, by decide⟩
theorem go61 : IsGo Tryz.prog 61 := ⟨_, Tryz.func61, rfl, by decide⟩
theorem go62 : IsGo Tryz.prog 62 := ⟨_, Tryz.func62, rfl, by decide⟩
theorem go63 : IsGo Tryz.prog 63 := ⟨_, Tryz.func63, rfl, by decide⟩
theorem go64 : IsGo Tryz.prog 64 := ⟨_, Tryz.func64, rfl, by decide⟩
theorem go65 : IsGo Tryz.prog 65 := ⟨_, Tryz.func65, rfl, by decide⟩
theorem go66 : IsGo Tryz.prog 66 := ⟨_, Tryz.func66, rfl, by decide⟩
theorem go67 : IsGo Tryz.prog 67 := ⟨_, Tryz.func67, rfl, by decide⟩
theorem go68 : IsGo Tryz.prog 68 := ⟨_, Tryz.func68, rfl, by decide⟩
theorem go70 : IsGo Tryz.prog 70 := ⟨_, Tryz.func70, rfl, by decide⟩
theorem go71 : IsGo Tryz.prog 71 := ⟨_, Tryz.func71, rfl, by decide⟩
theorem go72 : IsGo Tryz.prog 72 := ⟨_, Tryz.func72, rfl, by decide⟩
theorem go73 : IsGo Tryz.prog 73 := ⟨_, Tryz.func73, rfl, by decide⟩
theorem go74 : IsGo Tryz.prog 74 := ⟨_, Tryz.func74, rfl, by decide⟩
theorem go75 : IsGo Tryz.prog 75 := ⟨_, Tryz.func75, rfl, by decide⟩
theorem go76 : IsGo Tryz.prog 76 := ⟨_, Tryz.func76, rfl, by decide⟩
theorem go77 : IsGo Tryz.prog 77 := ⟨_, Tryz.func77, rfl, by decide⟩
theorem go78 : IsGo Tryz.prog 78 := ⟨_, Tryz.func78, rfl, by decide⟩
theorem go79 : IsGo Tryz.prog 79 := ⟨_, Tryz.func79, rfl, by decide⟩
theorem go80 : IsGo Tryz.prog 80 := ⟨_, Tryz.func80, rfl, by decide⟩
theorem go81 : IsGo Tryz.prog 81 := ⟨_, Tryz.func81, rfl, by decide⟩
theorem go82 : IsGo Tryz.prog 82 := ⟨_, Tryz.func82, rfl, by decide⟩
theorem go83 : IsGo Tryz.prog 83 := ⟨_, Tryz.func83, rfl, by decide⟩
theorem go84 : IsGo Tryz.prog 84 := ⟨_, Tryz.func84, rfl, by decide⟩
theorem go85 : IsGo Tryz.prog 85 := ⟨_, Tryz.func85, rfl, by decide⟩
theorem go86 : IsGo Tryz.prog 86 := ⟨_, Tryz.func86, rfl, by decide⟩
theorem go87 : IsGo Tryz.prog 87 := ⟨_, Tryz.func87, rfl, by decide⟩
theorem go90 : IsGo Tryz.prog 90 := ⟨_, Tryz.func90, rfl, by decide⟩
theorem go91 : IsGo Tryz.prog 91 := ⟨_, Tryz.func91, rfl, by decide⟩
theorem go92 : IsGo Tryz.prog 92 := ⟨_, Tryz.func92, rfl, by decide⟩
theorem go93 : IsGo Tryz.prog 93 := ⟨_, Tryz.func93, rfl, by decide⟩
theorem go94 : IsGo Tryz.prog 94 := ⟨_, Tryz.func94, rfl, by decide⟩
theorem go95 : IsGo Tryz.prog 95 := ⟨_, Tryz.func95, rfl, by decide⟩
theorem go96 : IsGo Tryz.prog 96 := ⟨_, Tryz.func96, rfl, by decide⟩
theorem go97 : IsGo Tryz.prog 97 := ⟨_, Tryz.func97, rfl, by decide⟩
theorem go98 : IsGo Tryz.prog 98 := ⟨_, Tryz.func98, rfl, by decide⟩
theorem go99 : IsGo Tryz.prog 99 := ⟨_, Tryz.func99, rfl, by decide⟩
theorem go100 : IsGo Tryz.prog 100 := ⟨_, Tryz.func100, rfl, by decide⟩
theorem go101 : IsGo Tryz.prog 101 := ⟨_, Tryz.func101, rfl, by decide⟩
theorem go102 : IsGo Tryz.prog 102 := ⟨_, Tryz.func102, rfl, by decide⟩
theorem go112 : IsGo Tryz.prog 112 := ⟨_, Tryz.func112, rfl, by decide⟩
theorem go113 : IsGo Tryz.prog 113 := ⟨_, Tryz.func113, rfl, by decide⟩
theorem go114 : IsGo Tryz.prog 114 := ⟨_, Tryz.func114, rfl, by decide⟩
theorem go115 : IsGo Tryz.prog 115 := ⟨_, Tryz.func115, rfl, by decide⟩
theorem go121 : IsGo Tryz.prog 121 := ⟨_, Tryz.func121, rfl, by decide⟩
end Go.Proofs.YtgpdfkplkaojcaaGreat

namespace Go.Proofs.YtgpdfkplkaojcaaGreat
open Go Go.Sx Go.Hsp
set_option maxRecDepth 20000
abbrev zw8 : Array Value := #[.int .u32 0, .int .u32 0, .int .u32 0, .int .u32 0, .int .u32 0, .int .u32 0, .int .u32 0, .int .u32 0]
theorem one8 (a b c d e f g h : BitVec 32) : ∀ v ∈ [u32v a, u32v b, u32v c, u32v d, u32v e, u32v f, u32v g, u32v h], v.oneCell' = true := fun v hv => by
  simp at hv; rcases hv with rfl | rfl | rfl | rfl | rfl | rfl | rfl | rfl <;> rfl
theorem rot_ok (x : BitVec 32) (k : Nat) (w : World) (hk : 1 ≤ k ∧ k ≤ 31) : Calls Tryz.prog 78 #[u32v x, .int .i64 (-(k : Int))] w fun e w' => e = .returned (u32v (rot x k)) ∧ Le w w' := by
  have e : (18446744073709551616 - k) &&& 31 = 32 - k := by
    have h := Nat.and_two_pow_sub_one_eq_mod (18446744073709551616 - k) 5
    have h5 : (2 ^ 5 - 1 : Nat) = 31 := by decide
    rw [h5] at h; rw [h]; omega
  refine enter Tryz.func78 rfl rfl ?_
  have L0 := Le.refl w
  refine WC.seq ?_
  refine WC.region ?_
  refine W.any (.assign rfl) rfl rfl rfl ?_
  refine W.nil ?_
  refine E.thenN ?_
  refine WC.seq ?_
  refine WC.region ?_
  refine W.any (.move rfl) rfl rfl rfl ?_
  refine W.rd (.convEq (i' := ((18446744073709551616 - k : Nat) : Int)) (isS Tryz.underlying3) Tryz.underlying130 rfl (by rw [wrap_u64]; omega)) rfl rfl rfl ?_
  refine W.any (.andN (18446744073709551616 - k) 31 rfl rfl rfl rfl (by omega) (by decide)) rfl rfl rfl ?_
  refine W.any (.assign rfl) rfl rfl rfl ?_
  refine W.nil ?_
  refine E.thenN ?_
  refine WC.seq ?_
  refine WC.region ?_
  refine W.any (.move rfl) rfl rfl rfl ?_
  refine W.any (.move rfl) rfl rfl rfl ?_
  refine W.any (.shl32 (32 - k) rfl rfl (by rw [e]) (by omega)) rfl rfl rfl ?_
  refine W.any (.move rfl) rfl rfl rfl ?_
  refine W.any (.move rfl) rfl rfl rfl ?_
  refine W.any (.subU rfl rfl (by rw [e]; omega)) rfl rfl rfl ?_
  refine W.any (.shr32 k rfl rfl (by rw [e]; omega) (by omega)) rfl rfl rfl ?_
  refine W.any (.or32 rfl rfl) rfl rfl rfl ?_
  refine W.any (.assign rfl) rfl rfl rfl ?_
  refine W.nil ?_
  refine E.thenN ?_
  refine WC.ret ?_
  refine E.ret1 rfl rfl ?_
  exact ⟨rfl, L0⟩

theorem binary_ok {A : Option Addr} {n c : Nat} {xs : List Byte} (w : World) (hS : Sb w A n xs) (hn : 4 ≤ n) : Calls Tryz.prog 95 #[.slice A n c] w fun e w' => e = .returned (u32v (be32 xs)) ∧ Le w w' := by
  have hl := hS.len
  refine enter Tryz.func95 rfl rfl ?_
  have L0 := Le.refl w
  refine WC.seq ?_
  refine WC.region ?_
  refine W.any (.assign rfl) rfl rfl rfl ?_
  refine W.nil ?_
  refine E.thenN ?_
  refine WC.seq ?_
  refine WC.draw [0, 1, 2, 3, 4, 5, 6, 7, 8, 9, 10, 11, 12, 13, 14, 15, 16, 17, 18, 19, 20, 21, 22] mixed (by kernel_rfl) ?_
  intro w1 d1
  have L1 := L0.trans d1
  refine G.any rfl rfl (.move rfl) rfl rfl rfl ?_
  refine G.any rfl rfl (.idxS1 (0) Tryz.underlying99 sz5 rfl rfl (hS.isSome (by omega)) (rfl) (by omega)) rfl rfl rfl ?_
  refine G.rd rfl rfl (.loadS na5 rfl (hS.le L1) (getb xs (by omega))) rfl rfl rfl ?_
  refine G.rd rfl rfl (.u8to32 (isS Tryz.underlying5) Tryz.underlying103 rfl) rfl rfl rfl ?_
  refine G.any rfl rfl (.shl32 24 rfl rfl rfl (by decide)) rfl rfl rfl ?_
  refine G.any rfl rfl (.move rfl) rfl rfl rfl ?_
  refine G.any rfl rfl (.idxS1 (1) Tryz.underlying99 sz5 rfl rfl (hS.isSome (by omega)) (rfl) (by omega)) rfl rfl rfl ?_
  refine G.rd rfl rfl (.loadS na5 rfl (hS.le L1) (getb xs (by omega))) rfl rfl rfl ?_
  refine G.rd rfl rfl (.u8to32 (isS Tryz.underlying5) Tryz.underlying103 rfl) rfl rfl rfl ?_
  refine G.any rfl rfl (.shl32 16 rfl rfl rfl (by decide)) rfl rfl rfl ?_
  refine G.any rfl rfl (.or32 rfl rfl) rfl rfl rfl ?_
  refine G.any rfl rfl (.move rfl) rfl rfl rfl ?_
  refine G.any rfl rfl (.idxS1 (2) Tryz.underlying99 sz5 rfl rfl (hS.isSome (by omega)) (rfl) (by omega)) rfl rfl rfl ?_
  refine G.rd rfl rfl (.loadS na5 rfl (hS.le L1) (getb xs (by omega))) rfl rfl rfl ?_
  refine G.rd rfl rfl (.u8to32 (isS Tryz.underlying5) Tryz.underlying103 rfl) rfl rfl rfl ?_
  refine G.any rfl rfl (.shl32 8 rfl rfl rfl (by decide)) rfl rfl rfl ?_
  refine G.any rfl rfl (.or32 rfl rfl) rfl rfl rfl ?_
  refine G.any rfl rfl (.move rfl) rfl rfl rfl ?_
  refine G.any rfl rfl (.idxS1 (3) Tryz.underlying99 sz5 rfl rfl (hS.isSome (by omega)) (rfl) (by omega)) rfl rfl rfl ?_
  refine G.rd rfl rfl (.loadS na5 rfl (hS.le L1) (getb xs (by omega))) rfl rfl rfl ?_
  refine G.rd rfl rfl (.u8to32 (isS Tryz.underlying5) Tryz.underlying103 rfl) rfl rfl rfl ?_
  refine G.any rfl rfl (.or32 rfl rfl) rfl rfl rfl ?_
  refine G.any rfl rfl (.assign rfl) rfl rfl rfl ?_
  refine G.nil ?_
  refine E.thenN ?_
  refine WC.ret ?_
  refine E.ret1 rfl rfl ?_
  exact ⟨rfl, L1⟩

theorem schedule_ok {A : Option Addr} {n c : Nat} {b : List Byte} (w : World) (hS : Sb w A n b) (hn : n = 64) (hc : n ≤ c) : Calls Tryz.prog 76 #[.slice A n c] w fun e w' => e = .returned (.agg ((sched b).map u32v).toArray) ∧ Le w w' := by
  refine enter Tryz.func76 rfl rfl ?_
  have L0 := Le.refl w
  refine WC.seq ?_
  refine WC.region ?_
  refine W.ef rfl rfl rfl ?_
  refine Ef.allocA z126 ?_
  intro g0_0 w0_0 hg0_0 b0_0 h0_0
  have L0_0 := L0.trans h0_0
  refine W.nil ?_
  refine E.thenN ?_
  refine WC.seq ?_
  refine WC.seq ?_
  refine WC.region ?_
  refine W.any (.move rfl) rfl rfl rfl ?_
  refine W.nil ?_
  refine E.thenN ?_
  refine WC.block ?_
  refine WC.loop (ι := Nat) (fun k => [(0, .slice A n c), (2, .pointer (some ⟨g0_0, 0, none⟩)), (8, .int .i64 (k : Int))]) (fun k wl => k ≤ 64 ∧ Le w wl ∧ Blk wl g0_0 126 (((schedTo b k) ++ List.replicate (64 - k) 0#32).map u32v).toArray) (fun k => 64 - k) 0 ?_ ?_ ?_
  · exact .cons rfl (.cons rfl (.cons rfl (.nil _)))
  · exact ⟨by omega, L0_0, b0_0.cast rfl⟩
  · rintro k wl ⟨hk, Ll, bl⟩
    have hsl := schedTo_length b k
    refine WC.seq ?_
    refine WC.region ?_
    refine W.any (.lss rfl rfl) rfl rfl rfl ?_
    refine W.nil ?_
    refine E.thenN ?_
    refine WC.seq ?_
    refine WC.cond rfl (fun c0 => ?_) (fun c0 => ?_)
    · refine WC.skip ?_
      refine E.thenN ?_
      refine WC.seq ?_
      refine WC.block ?_
      refine WC.seq ?_
      refine WC.region ?_
      refine W.any (.move rfl) rfl rfl rfl ?_
      refine W.any (.assign rfl) rfl rfl rfl ?_
      refine W.nil ?_
      refine E.thenN ?_
      refine WC.seq ?_
      refine WC.seq ?_
      refine WC.region ?_
      refine W.any (.move rfl) rfl rfl rfl ?_
      refine W.any (.lss rfl rfl) rfl rfl rfl ?_
      refine W.nil ?_
      refine E.thenN ?_
      refine WC.cond rfl (fun c1 => ?_) (fun c1 => ?_)
      · have c1 : k < 16 := by omega
        refine WC.seq ?_
        refine WC.region ?_
        refine W.any (.move rfl) rfl rfl rfl ?_
        refine W.any (.move rfl) rfl rfl rfl ?_
        refine W.any (.move rfl) rfl rfl rfl ?_
        refine W.any (.mul rfl rfl (by omega)) rfl rfl rfl ?_
        refine W.any (.cutL (4 * k) Tryz.underlying99 sz5 rfl rfl (by omega) (by omega) (by omega)) rfl rfl rfl ?_
        refine W.ef rfl rfl rfl ?_
        refine Ef.call go95 rfl rfl (binary_ok wl ((hS.le Ll).cutL c (4 * k) (by omega) hc) (by omega)) ?_
        rintro _ w5_5 ⟨rfl, h5_5⟩
        refine ⟨_, rfl, ?_⟩
        have L5_5 := Ll.trans h5_5
        refine W.any (.idxA1 (k) Tryz.underlying126 sz103 rfl rfl (rfl) (by omega)) rfl rfl rfl ?_
        refine W.ef0 rfl rfl ?_
        refine Ef.store sz103 rfl rfl (bl.le h5_5) (by simp; omega) (rfl) ?_
        intro w5_7 b5_7 h5_7
        have L5_7 : Le w w5_7 := L5_5.then_ h5_7 (fun q hq => by cases hq; exact hg0_0)
        refine W.nil ?_
        refine E.thenN ?_
        refine WC.exit ?_
        refine E.thenX ?_
        refine E.blkH ?_
        refine E.thenN ?_
        refine WC.region ?_
        refine W.any (.add rfl rfl (by omega)) rfl rfl rfl ?_
        refine W.any (.move rfl) rfl rfl rfl ?_
        refine W.nil ?_
        refine E.again (k + 1) (.cons rfl (.cons rfl (.cons rfl (.nil _)))) ?_ ?_
        · exact ⟨by omega, L5_7, b5_7.cast (by rw [fill_set u32v (schedTo b k) 0#32 _ 64 k hsl (by omega)]; simp [schedTo, c1])⟩
        · first | omega | (simp only []; omega)
      · have c1 : ¬ k < 16 := by omega
        refine WC.skip ?_
        refine E.thenN ?_
        refine WC.seq ?_
        refine WC.draw [0, 1, 2, 3, 4, 5, 6, 7, 8, 9] mixed (by kernel_rfl) ?_
        intro w6 d6
        have L6 := Ll.trans d6
        refine G.any rfl rfl (.move rfl) rfl rfl rfl ?_
        refine G.any rfl rfl (.sub rfl rfl (by omega)) rfl rfl rfl ?_
        refine G.any rfl rfl (.idxA1 (k - 15) Tryz.underlying126 sz103 rfl rfl (by omega) (by omega)) rfl rfl rfl ?_
        refine G.rd rfl rfl (.loadB na103 rfl (bl.le d6) (getwF _ _ _ (by omega))) rfl rfl rfl ?_
        refine G.any rfl rfl (.move rfl) rfl rfl rfl ?_
        refine G.any rfl rfl (.sub rfl rfl (by omega)) rfl rfl rfl ?_
        refine G.any rfl rfl (.idxA1 (k - 2) Tryz.underlying126 sz103 rfl rfl (by omega) (by omega)) rfl rfl rfl ?_
        refine G.rd rfl rfl (.loadB na103 rfl (bl.le d6) (getwF _ _ _ (by omega))) rfl rfl rfl ?_
        refine G.any rfl rfl (.assign rfl) rfl rfl rfl ?_
        refine G.any rfl rfl (.assign rfl) rfl rfl rfl ?_
        refine G.nil ?_
        refine E.thenN ?_
        refine WC.seq ?_
        refine WC.region ?_
        refine W.any (.move rfl) rfl rfl rfl ?_
        refine W.ef rfl rfl rfl ?_
        refine Ef.call go78 rfl rfl (rot_ok _ 7 w6 (by omega)) ?_
        rintro _ w7_1 ⟨rfl, h7_1⟩
        refine ⟨_, rfl, ?_⟩
        have L7_1 := L6.trans h7_1
        refine W.any (.move rfl) rfl rfl rfl ?_
        refine W.ef rfl rfl rfl ?_
        refine Ef.call go78 rfl rfl (rot_ok _ 18 w7_1 (by omega)) ?_
        rintro _ w7_3 ⟨rfl, h7_3⟩
        refine ⟨_, rfl, ?_⟩
        have L7_3 := L7_1.trans h7_3
        refine W.any (.xor32 rfl rfl) rfl rfl rfl ?_
        refine W.any (.move rfl) rfl rfl rfl ?_
        refine W.any (.shr32 3 rfl rfl rfl (by decide)) rfl rfl rfl ?_
        refine W.any (.xor32 rfl rfl) rfl rfl rfl ?_
        refine W.any (.assign rfl) rfl rfl rfl ?_
        refine W.nil ?_
        refine E.thenN ?_
        refine WC.seq ?_
        refine WC.region ?_
        refine W.any (.move rfl) rfl rfl rfl ?_
        refine W.ef rfl rfl rfl ?_
        refine Ef.call go78 rfl rfl (rot_ok _ 17 w7_3 (by omega)) ?_
        rintro _ w8_1 ⟨rfl, h8_1⟩
        refine ⟨_, rfl, ?_⟩
        have L8_1 := L7_3.trans h8_1
        refine W.any (.move rfl) rfl rfl rfl ?_
        refine W.ef rfl rfl rfl ?_
        refine Ef.call go78 rfl rfl (rot_ok _ 19 w8_1 (by omega)) ?_
        rintro _ w8_3 ⟨rfl, h8_3⟩
        refine ⟨_, rfl, ?_⟩
        have L8_3 := L8_1.trans h8_3
        refine W.any (.xor32 rfl rfl) rfl rfl rfl ?_
        refine W.any (.move rfl) rfl rfl rfl ?_
        refine W.any (.shr32 10 rfl rfl rfl (by decide)) rfl rfl rfl ?_
        refine W.any (.xor32 rfl rfl) rfl rfl rfl ?_
        refine W.any (.assign rfl) rfl rfl rfl ?_
        refine W.nil ?_
        refine E.thenN ?_
        refine WC.draw [0, 1, 2, 3, 4, 5, 6, 7, 8, 9, 10, 11, 12, 13, 14, 15] mixed (by kernel_rfl) ?_
        intro w9 d9
        have L9 := L8_3.trans d9
        have bl9 := bl.le (d6.trans (h7_1.trans (h7_3.trans (h8_1.trans (h8_3.trans d9)))))
        refine G.any rfl rfl (.move rfl) rfl rfl rfl ?_
        refine G.any rfl rfl (.move rfl) rfl rfl rfl ?_
        refine G.any rfl rfl (.sub rfl rfl (by omega)) rfl rfl rfl ?_
        refine G.any rfl rfl (.idxA1 (k - 16) Tryz.underlying126 sz103 rfl rfl (by omega) (by omega)) rfl rfl rfl ?_
        refine G.rd rfl rfl (.loadB na103 rfl (bl9) (getwF _ _ _ (by omega))) rfl rfl rfl ?_
        refine G.any rfl rfl (.move rfl) rfl rfl rfl ?_
        refine G.any rfl rfl (.add32 rfl rfl) rfl rfl rfl ?_
        refine G.any rfl rfl (.move rfl) rfl rfl rfl ?_
        refine G.any rfl rfl (.sub rfl rfl (by omega)) rfl rfl rfl ?_
        refine G.any rfl rfl (.idxA1 (k - 7) Tryz.underlying126 sz103 rfl rfl (by omega) (by omega)) rfl rfl rfl ?_
        refine G.rd rfl rfl (.loadB na103 rfl (bl9) (getwF _ _ _ (by omega))) rfl rfl rfl ?_
        refine G.any rfl rfl (.add32 rfl rfl) rfl rfl rfl ?_
        refine G.any rfl rfl (.move rfl) rfl rfl rfl ?_
        refine G.any rfl rfl (.add32 rfl rfl) rfl rfl rfl ?_
        refine G.any rfl rfl (.idxA1 (k) Tryz.underlying126 sz103 rfl rfl (rfl) (by omega)) rfl rfl rfl ?_
        refine G.ef0 rfl rfl rfl rfl ?_
        refine Ef.store sz103 rfl rfl (bl9) (by simp; omega) (rfl) ?_
        intro w9_15 b9_15 h9_15
        have L9_15 : Le w w9_15 := L9.then_ h9_15 (fun q hq => by cases hq; exact hg0_0)
        refine ⟨fun h => absurd h (ne_true_of_eq_false (by kernel_rfl)), ?_⟩
        refine G.nil ?_
        refine E.blkN ?_
        refine E.thenN ?_
        refine WC.region ?_
        refine W.any (.add rfl rfl (by omega)) rfl rfl rfl ?_
        refine W.any (.move rfl) rfl rfl rfl ?_
        refine W.nil ?_
        refine E.again (k + 1) (.cons rfl (.cons rfl (.cons rfl (.nil _)))) ?_ ?_
        · exact ⟨by omega, L9_15, b9_15.cast (by rw [fill_set u32v (schedTo b k) 0#32 _ 64 k hsl (by omega)]; simp [schedTo, c1, nextWord])⟩
        · first | omega | (simp only []; omega)
    · have hk64 : k = 64 := by omega
      subst hk64
      have bl : Blk wl g0_0 126 ((sched b).map u32v).toArray := bl.cast (by simp [sched])
      have hsl : (sched b).length = 64 := schedTo_length b 64
      refine WC.exit ?_
      refine E.thenX ?_
      refine E.thenX ?_
      refine E.blkH ?_
      refine E.thenN ?_
      refine WC.seq ?_
      refine WC.region ?_
      refine W.rd (.loadAll ag126 (by simp [hsl]) rfl (bl)) rfl rfl rfl ?_
      refine W.ef0 rfl rfl ?_
      refine Ef.storeAll sz126 (by simp [hsl]) rfl rfl (bl) (by simp) (fun v hv => all_u32v _ v (by simpa using hv)) ?_
      intro w11_1 b11_1 h11_1
      have L11_1 : Le w w11_1 := Ll.then_ h11_1 (fun q hq => by cases hq; exact hg0_0)
      refine W.nil ?_
      refine E.thenN ?_
      refine WC.ret ?_
      refine E.retC rfl rfl b11_1 ag126 (by simp [hsl]) ?_
      exact ⟨rfl, L11_1⟩

theorem table_ok (w : World) : Calls Tryz.prog 77 #[] w fun e w' => e = .returned (.agg (table.map u32v).toArray) ∧ Le w w' := by
  refine enter Tryz.func77 rfl rfl ?_
  have L0 := Le.refl w
  refine WC.seq ?_
  refine WC.region ?_
  refine W.ef rfl rfl rfl ?_
  refine Ef.allocA z126 ?_
  intro g0_0 w0_0 hg0_0 b0_0 h0_0
  have L0_0 := L0.trans h0_0
  refine W.nil ?_
  refine E.thenN ?_
  refine WC.seq ?_
  refine WC.region ?_
  refine W.any (.buildA (cells := (table.map u32v).toArray) Tryz.underlying126 sz103 z126 rfl (by kernel_rfl)) rfl rfl rfl ?_
  refine W.ef0 rfl rfl ?_
  refine Ef.storeAll sz126 (rfl) rfl rfl (b0_0) (rfl) (fun v hv => all_u32v _ v (by simpa using hv)) ?_
  intro w1_1 b1_1 h1_1
  have L1_1 : Le w w1_1 := L0_0.then_ h1_1 (fun q hq => by cases hq; exact hg0_0)
  refine W.nil ?_
  refine E.thenN ?_
  refine WC.ret ?_
  refine E.retC rfl rfl b1_1 ag126 rfl ?_
  exact ⟨rfl, L1_1⟩

theorem first_ok (w : World) : Calls Tryz.prog 51 #[] w fun e w' => e = .returned (.agg (first.map u32v).toArray) ∧ Le w w' := by
  refine enter Tryz.func51 rfl rfl ?_
  have L0 := Le.refl w
  refine WC.seq ?_
  refine WC.region ?_
  refine W.ef rfl rfl rfl ?_
  refine Ef.allocA z105 ?_
  intro g0_0 w0_0 hg0_0 b0_0 h0_0
  have L0_0 := L0.trans h0_0
  refine W.nil ?_
  refine E.thenN ?_
  refine WC.seq ?_
  refine WC.region ?_
  refine W.any (.buildA (cells := (first.map u32v).toArray) Tryz.underlying105 sz103 z105 rfl (by kernel_rfl)) rfl rfl rfl ?_
  refine W.ef0 rfl rfl ?_
  refine Ef.storeAll sz105 (rfl) rfl rfl (b0_0) (rfl) (fun v hv => all_u32v _ v (by simpa using hv)) ?_
  intro w1_1 b1_1 h1_1
  have L1_1 : Le w w1_1 := L0_0.then_ h1_1 (fun q hq => by cases hq; exact hg0_0)
  refine W.nil ?_
  refine E.thenN ?_
  refine WC.ret ?_
  refine E.retC rfl rfl b1_1 ag105 rfl ?_
  exact ⟨rfl, L1_1⟩

set_option maxHeartbeats 1000000 in
theorem mix_ok {A : Option Addr} {n c : Nat} {b : List Byte} {h : List Word} (w : World) (hl : h.length = 8) (hS : Sb w A n b) (hn : n = 64) (hc : n ≤ c) : Calls Tryz.prog 52 #[.agg (h.map u32v).toArray, .slice A n c] w fun e w' => e = .returned (.agg ((mix h b).map u32v).toArray) ∧ Le w w' := by
  have hsl : (sched b).length = 64 := schedTo_length b 64
  unfold mix
  refine enter Tryz.func52 rfl rfl ?_
  have L0 := Le.refl w
  refine WC.seq ?_
  refine WC.region ?_
  refine W.ef rfl rfl rfl ?_
  refine Ef.boxA rfl ?_
  intro g0_0 w0_0 hg0_0 b0_0 h0_0
  have L0_0 := L0.trans h0_0
  refine W.ef rfl rfl rfl ?_
  refine Ef.allocA z105 ?_
  intro g0_1 w0_1 hg0_1 b0_1 h0_1
  have L0_1 := L0_0.trans h0_1
  refine W.nil ?_
  refine E.thenN ?_
  refine WC.seq ?_
  refine WC.region ?_
  refine W.any (.move rfl) rfl rfl rfl ?_
  refine W.ef rfl rfl rfl ?_
  refine Ef.call go76 rfl rfl (schedule_ok w0_1 (hS.le L0_1) hn hc) ?_
  rintro _ w1_1 ⟨rfl, h1_1⟩
  refine ⟨_, rfl, ?_⟩
  have L1_1 := L0_1.trans h1_1
  refine W.ef rfl rfl rfl ?_
  refine Ef.call go77 rfl rfl (table_ok w1_1) ?_
  rintro _ w1_2 ⟨rfl, h1_2⟩
  refine ⟨_, rfl, ?_⟩
  have L1_2 := L1_1.trans h1_2
  refine W.ef rfl rfl rfl ?_
  refine Ef.allocA z126 ?_
  intro g1_3 w1_3 hg1_3 b1_3 h1_3
  have L1_3 := L1_2.trans h1_3
  refine W.ef rfl rfl rfl ?_
  refine Ef.allocA z126 ?_
  intro g1_4 w1_4 hg1_4 b1_4 h1_4
  have L1_4 := L1_3.trans h1_4
  refine W.ef0 rfl rfl ?_
  refine Ef.storeAll sz126 (by simp [hsl]) rfl rfl (b1_3.le h1_4) (by simp [hsl]) (fun v hv => all_u32v _ v (by simpa using hv)) ?_
  intro w1_5 b1_5 h1_5
  have L1_5 : Le w w1_5 := L1_4.then_ h1_5 (fun q hq => by cases hq; exact Nat.le_trans L1_2.size hg1_3)
  refine W.ef0 rfl rfl ?_
  refine Ef.storeAll sz126 (rfl) rfl rfl (b1_4.ch h1_5 (by simp; have := b1_3.lt; omega)) (rfl) (fun v hv => all_u32v _ v (by simpa using hv)) ?_
  intro w1_6 b1_6 h1_6
  have L1_6 : Le w w1_6 := L1_5.then_ h1_6 (fun q hq => by cases hq; exact Nat.le_trans L1_3.size hg1_4)
  have B5 := b1_5.ch h1_6 (by simp; have := b1_3.lt; omega)
  refine W.nil ?_
  refine E.thenN ?_
  refine WC.seq ?_
  refine WC.region ?_
  refine W.rd (.loadAll ag105 (by simp [hl]) rfl (((((((b0_0.le h0_1).le h1_1).le h1_2).le h1_3).le h1_4).ch h1_5 (by simp; have := b0_0.lt; have := h0_1.size; have := h1_1.size; have := h1_2.size; omega)).ch h1_6 (by simp; have := b0_0.lt; have := h0_1.size; have := h1_1.size; have := h1_2.size; have := h1_3.size; omega))) rfl rfl rfl ?_
  have B2 := ((((((b0_0.le h0_1).le h1_1).le h1_2).le h1_3).le h1_4).ch h1_5 (by simp; have := b0_0.lt; have := h0_1.size; have := h1_1.size; have := h1_2.size; omega)).ch h1_6 (by simp; have := b0_0.lt; have := h0_1.size; have := h1_1.size; have := h1_2.size; have := h1_3.size; omega)
  have B4 := (((((b0_1.le h1_1).le h1_2).le h1_3).le h1_4).ch h1_5 (by simp; have := b0_1.lt; have := h1_1.size; have := h1_2.size; omega)).ch h1_6 (by simp; have := b0_1.lt; have := h1_1.size; have := h1_2.size; have := h1_3.size; omega)
  refine W.ef rfl rfl rfl ?_
  refine Ef.allocA z105 ?_
  intro g2_1 w2_1 hg2_1 b2_1 h2_1
  have L2_1 := L1_6.trans h2_1
  refine W.ef0 rfl rfl ?_
  refine Ef.storeAll sz105 (by simp [hl]) rfl rfl (b2_1) (by simp [hl]) (fun v hv => all_u32v _ v (by simpa using hv)) ?_
  intro w2_2 b2_2 h2_2
  have L2_2 : Le w w2_2 := L2_1.then_ h2_2 (fun q hq => by cases hq; exact Nat.le_trans L1_6.size hg2_1)
  have C2 := (B2.le h2_1).ch h2_2 (by simp; have := B2.lt; omega)
  have C4 := (B4.le h2_1).ch h2_2 (by simp; have := B4.lt; omega)
  have C5 := (B5.le h2_1).ch h2_2 (by simp; have := B5.lt; omega)
  have C6 := (b1_6.le h2_1).ch h2_2 (by simp; have := b1_6.lt; omega)
  have n2 : g0_0 < g2_1 := by have := B2.lt; omega
  have n4 : g0_1 < g2_1 := by have := B4.lt; omega
  have n5 : g1_3 < g2_1 := by have := B5.lt; omega
  have n6 : g1_4 < g2_1 := by have := b1_6.lt; omega
  have hgv : w.heap.size ≤ g2_1 := Nat.le_trans L1_6.size hg2_1
  clear B2 B4 B5
  refine W.nil ?_
  refine E.thenN ?_
  refine WC.seq ?_
  refine WC.seq ?_
  refine WC.region ?_
  refine W.any (.move rfl) rfl rfl rfl ?_
  refine W.nil ?_
  refine E.thenN ?_
  refine WC.block ?_
  refine WC.loop (ι := Nat) (fun i => [(2, .pointer (some ⟨g0_0, 0, none⟩)), (4, .pointer (some ⟨g0_1, 0, none⟩)), (5, .pointer (some ⟨g1_3, 0, none⟩)), (6, .pointer (some ⟨g1_4, 0, none⟩)), (7, .pointer (some ⟨g2_1, 0, none⟩)), (18, .int .i64 (i : Int))]) (fun i wl => i ≤ 64 ∧ Le w wl ∧ Blk wl g0_0 105 (h.map u32v).toArray ∧ Blk wl g0_1 105 zw8 ∧ Blk wl g1_3 126 ((sched b).map u32v).toArray ∧ Blk wl g1_4 126 (table.map u32v).toArray ∧ Blk wl g2_1 105 ((roundsTo h (sched b) i).map u32v).toArray) (fun i => 64 - i) 0 ?_ ?_ ?_
  · exact .cons rfl (.cons rfl (.cons rfl (.cons rfl (.cons rfl (.cons rfl (.nil _))))))
  · exact ⟨by omega, L2_2, C2, C4, C5, C6, b2_2⟩
  · rintro i wl ⟨hi, Ll, C2, C4, C5, C6, bv⟩
    have hvl := roundsTo_length h (sched b) hl i
    obtain ⟨v, hv⟩ : ∃ v, v = roundsTo h (sched b) i := ⟨_, rfl⟩
    rw [← hv] at bv hvl
    refine WC.seq ?_
    refine WC.region ?_
    refine W.any (.lss rfl rfl) rfl rfl rfl ?_
    refine W.nil ?_
    refine E.thenN ?_
    refine WC.seq ?_
    refine WC.cond rfl (fun c0 => ?_) (fun c0 => ?_)
    · refine WC.skip ?_
      refine E.thenN ?_
      refine WC.seq ?_
      refine WC.block ?_
      refine WC.seq ?_
      refine WC.region ?_
      refine W.any (.move rfl) rfl rfl rfl ?_
      refine W.any (.assign rfl) rfl rfl rfl ?_
      refine W.nil ?_
      refine E.thenN ?_
      refine WC.seq ?_
      refine WC.draw [0, 1, 3, 4, 7, 8, 2, 5, 6, 9, 10, 11] mixed (by kernel_rfl) ?_
      intro w6 d6
      have L6 := Ll.trans d6
      have v6 := bv.le d6
      refine G.any rfl rfl (.idxA1 4 Tryz.underlying105 sz103 rfl rfl rfl (by decide)) rfl rfl rfl ?_
      refine G.rd rfl rfl (.loadB na103 rfl (v6) (getwA _ (by omega))) rfl rfl rfl ?_
      refine G.any rfl rfl (.idxA1 4 Tryz.underlying105 sz103 rfl rfl rfl (by decide)) rfl rfl rfl ?_
      refine G.rd rfl rfl (.loadB na103 rfl (v6) (getwA _ (by omega))) rfl rfl rfl ?_
      refine G.any rfl rfl (.idxA1 4 Tryz.underlying105 sz103 rfl rfl rfl (by decide)) rfl rfl rfl ?_
      refine G.rd rfl rfl (.loadB na103 rfl (v6) (getwA _ (by omega))) rfl rfl rfl ?_
      refine G.ef rfl rfl rfl rfl rfl ?_
      refine Ef.call go78 rfl rfl (rot_ok _ 6 w6 (by omega)) ?_
      rintro _ w6_2 ⟨rfl, h6_2⟩
      refine ⟨_, rfl, ?_⟩
      have L6_2 := L6.trans h6_2
      refine ⟨fun _ => h6_2, ?_⟩
      refine G.ef rfl rfl rfl rfl rfl ?_
      refine Ef.call go78 rfl rfl (rot_ok _ 11 w6_2 (by omega)) ?_
      rintro _ w6_5 ⟨rfl, h6_5⟩
      refine ⟨_, rfl, ?_⟩
      have L6_5 := L6_2.trans h6_5
      refine ⟨fun _ => h6_5, ?_⟩
      refine G.any rfl rfl (.xor32 rfl rfl) rfl rfl rfl ?_
      refine G.ef rfl rfl rfl rfl rfl ?_
      refine Ef.call go78 rfl rfl (rot_ok _ 25 w6_5 (by omega)) ?_
      rintro _ w6_9 ⟨rfl, h6_9⟩
      refine ⟨_, rfl, ?_⟩
      have L6_9 := L6_5.trans h6_9
      refine ⟨fun _ => h6_9, ?_⟩
      refine G.any rfl rfl (.xor32 rfl rfl) rfl rfl rfl ?_
      refine G.any rfl rfl (.assign rfl) rfl rfl rfl ?_
      refine G.nil ?_
      refine E.thenN ?_
      refine WC.seq ?_
      refine WC.draw [0, 1, 2, 3, 4, 5, 6, 7, 8, 9, 10, 11, 12, 13, 14, 15, 16, 17, 18, 19, 20, 21, 22, 23, 24] mixed (by kernel_rfl) ?_
      intro w7 d7
      have L7 := L6_9.trans d7
      have LL := d6.trans (h6_2.trans (h6_5.trans (h6_9.trans d7)))
      have v7 := bv.le LL
      refine G.any rfl rfl (.idxA1 7 Tryz.underlying105 sz103 rfl rfl rfl (by decide)) rfl rfl rfl ?_
      refine G.rd rfl rfl (.loadB na103 rfl (v7) (getwA _ (by omega))) rfl rfl rfl ?_
      refine G.any rfl rfl (.move rfl) rfl rfl rfl ?_
      refine G.any rfl rfl (.add32 rfl rfl) rfl rfl rfl ?_
      refine G.any rfl rfl (.idxA1 6 Tryz.underlying105 sz103 rfl rfl rfl (by decide)) rfl rfl rfl ?_
      refine G.rd rfl rfl (.loadB na103 rfl (v7) (getwA _ (by omega))) rfl rfl rfl ?_
      refine G.any rfl rfl (.idxA1 4 Tryz.underlying105 sz103 rfl rfl rfl (by decide)) rfl rfl rfl ?_
      refine G.rd rfl rfl (.loadB na103 rfl (v7) (getwA _ (by omega))) rfl rfl rfl ?_
      refine G.any rfl rfl (.idxA1 5 Tryz.underlying105 sz103 rfl rfl rfl (by decide)) rfl rfl rfl ?_
      refine G.rd rfl rfl (.loadB na103 rfl (v7) (getwA _ (by omega))) rfl rfl rfl ?_
      refine G.any rfl rfl (.idxA1 6 Tryz.underlying105 sz103 rfl rfl rfl (by decide)) rfl rfl rfl ?_
      refine G.rd rfl rfl (.loadB na103 rfl (v7) (getwA _ (by omega))) rfl rfl rfl ?_
      refine G.any rfl rfl (.xor32 rfl rfl) rfl rfl rfl ?_
      refine G.any rfl rfl (.and32 rfl rfl) rfl rfl rfl ?_
      refine G.any rfl rfl (.xor32 rfl rfl) rfl rfl rfl ?_
      refine G.any rfl rfl (.add32 rfl rfl) rfl rfl rfl ?_
      refine G.any rfl rfl (.move rfl) rfl rfl rfl ?_
      refine G.any rfl rfl (.idxA1 (i) Tryz.underlying126 sz103 rfl rfl (rfl) (by omega)) rfl rfl rfl ?_
      refine G.rd rfl rfl (.loadB na103 rfl (C6.le LL) (getwA _ (by show i < 64; omega))) rfl rfl rfl ?_
      refine G.any rfl rfl (.add32 rfl rfl) rfl rfl rfl ?_
      refine G.any rfl rfl (.move rfl) rfl rfl rfl ?_
      refine G.any rfl rfl (.idxA1 (i) Tryz.underlying126 sz103 rfl rfl (rfl) (by omega)) rfl rfl rfl ?_
      refine G.rd rfl rfl (.loadB na103 rfl (C5.le LL) (getwA _ (by rw [hsl]; omega))) rfl rfl rfl ?_
      refine G.any rfl rfl (.add32 rfl rfl) rfl rfl rfl ?_
      refine G.any rfl rfl (.assign rfl) rfl rfl rfl ?_
      refine G.nil ?_
      refine E.thenN ?_
      refine WC.seq ?_
      refine WC.draw [0, 1, 3, 4, 7, 8, 2, 5, 6, 9, 10, 11] mixed (by kernel_rfl) ?_
      intro w8 d8
      have L8 := L7.trans d8
      have LL := LL.trans d8
      have v8 := bv.le LL
      refine G.any rfl rfl (.idxA1 0 Tryz.underlying105 sz103 rfl rfl rfl (by decide)) rfl rfl rfl ?_
      refine G.rd rfl rfl (.loadB na103 rfl (v8) (getwA _ (by omega))) rfl rfl rfl ?_
      refine G.any rfl rfl (.idxA1 0 Tryz.underlying105 sz103 rfl rfl rfl (by decide)) rfl rfl rfl ?_
      refine G.rd rfl rfl (.loadB na103 rfl (v8) (getwA _ (by omega))) rfl rfl rfl ?_
      refine G.any rfl rfl (.idxA1 0 Tryz.underlying105 sz103 rfl rfl rfl (by decide)) rfl rfl rfl ?_
      refine G.rd rfl rfl (.loadB na103 rfl (v8) (getwA _ (by omega))) rfl rfl rfl ?_
      refine G.ef rfl rfl rfl rfl rfl ?_
      refine Ef.call go78 rfl rfl (rot_ok _ 2 w8 (by omega)) ?_
      rintro _ w8_2 ⟨rfl, h8_2⟩
      refine ⟨_, rfl, ?_⟩
      have L8_2 := L8.trans h8_2
      refine ⟨fun _ => h8_2, ?_⟩
      refine G.ef rfl rfl rfl rfl rfl ?_
      refine Ef.call go78 rfl rfl (rot_ok _ 13 w8_2 (by omega)) ?_
      rintro _ w8_5 ⟨rfl, h8_5⟩
      refine ⟨_, rfl, ?_⟩
      have L8_5 := L8_2.trans h8_5
      refine ⟨fun _ => h8_5, ?_⟩
      refine G.any rfl rfl (.xor32 rfl rfl) rfl rfl rfl ?_
      refine G.ef rfl rfl rfl rfl rfl ?_
      refine Ef.call go78 rfl rfl (rot_ok _ 22 w8_5 (by omega)) ?_
      rintro _ w8_9 ⟨rfl, h8_9⟩
      refine ⟨_, rfl, ?_⟩
      have L8_9 := L8_5.trans h8_9
      refine ⟨fun _ => h8_9, ?_⟩
      refine G.any rfl rfl (.xor32 rfl rfl) rfl rfl rfl ?_
      refine G.any rfl rfl (.assign rfl) rfl rfl rfl ?_
      refine G.nil ?_
      refine E.thenN ?_
      refine WC.seq ?_
      refine WC.region ?_
      have LL := LL.trans (h8_2.trans (h8_5.trans h8_9))
      have v9 := bv.le LL
      refine W.any (.idxA1 0 Tryz.underlying105 sz103 rfl rfl rfl (by decide)) rfl rfl rfl ?_
      refine W.rd (.loadB na103 rfl (v9) (getwA _ (by omega))) rfl rfl rfl ?_
      refine W.any (.idxA1 1 Tryz.underlying105 sz103 rfl rfl rfl (by decide)) rfl rfl rfl ?_
      refine W.rd (.loadB na103 rfl (v9) (getwA _ (by omega))) rfl rfl rfl ?_
      refine W.any (.and32 rfl rfl) rfl rfl rfl ?_
      refine W.any (.idxA1 2 Tryz.underlying105 sz103 rfl rfl rfl (by decide)) rfl rfl rfl ?_
      refine W.rd (.loadB na103 rfl (v9) (getwA _ (by omega))) rfl rfl rfl ?_
      refine W.any (.idxA1 0 Tryz.underlying105 sz103 rfl rfl rfl (by decide)) rfl rfl rfl ?_
      refine W.rd (.loadB na103 rfl (v9) (getwA _ (by omega))) rfl rfl rfl ?_
      refine W.any (.idxA1 1 Tryz.underlying105 sz103 rfl rfl rfl (by decide)) rfl rfl rfl ?_
      refine W.rd (.loadB na103 rfl (v9) (getwA _ (by omega))) rfl rfl rfl ?_
      refine W.any (.or32 rfl rfl) rfl rfl rfl ?_
      refine W.any (.and32 rfl rfl) rfl rfl rfl ?_
      refine W.any (.or32 rfl rfl) rfl rfl rfl ?_
      refine W.any (.assign rfl) rfl rfl rfl ?_
      refine W.nil ?_
      refine E.thenN ?_
      refine WC.region ?_
      refine W.any (.move rfl) rfl rfl rfl ?_
      refine W.any (.move rfl) rfl rfl rfl ?_
      refine W.any (.add32 rfl rfl) rfl rfl rfl ?_
      refine W.any (.move rfl) rfl rfl rfl ?_
      refine W.any (.add32 rfl rfl) rfl rfl rfl ?_
      refine W.any (.idxA1 0 Tryz.underlying105 sz103 rfl rfl rfl (by decide)) rfl rfl rfl ?_
      refine W.rd (.loadB na103 rfl (v9) (getwA _ (by omega))) rfl rfl rfl ?_
      refine W.any (.idxA1 1 Tryz.underlying105 sz103 rfl rfl rfl (by decide)) rfl rfl rfl ?_
      refine W.rd (.loadB na103 rfl (v9) (getwA _ (by omega))) rfl rfl rfl ?_
      refine W.any (.idxA1 2 Tryz.underlying105 sz103 rfl rfl rfl (by decide)) rfl rfl rfl ?_
      refine W.rd (.loadB na103 rfl (v9) (getwA _ (by omega))) rfl rfl rfl ?_
      refine W.any (.idxA1 3 Tryz.underlying105 sz103 rfl rfl rfl (by decide)) rfl rfl rfl ?_
      refine W.rd (.loadB na103 rfl (v9) (getwA _ (by omega))) rfl rfl rfl ?_
      refine W.any (.move rfl) rfl rfl rfl ?_
      refine W.any (.add32 rfl rfl) rfl rfl rfl ?_
      refine W.any (.idxA1 4 Tryz.underlying105 sz103 rfl rfl rfl (by decide)) rfl rfl rfl ?_
      refine W.rd (.loadB na103 rfl (v9) (getwA _ (by omega))) rfl rfl rfl ?_
      refine W.any (.idxA1 5 Tryz.underlying105 sz103 rfl rfl rfl (by decide)) rfl rfl rfl ?_
      refine W.rd (.loadB na103 rfl (v9) (getwA _ (by omega))) rfl rfl rfl ?_
      refine W.any (.idxA1 6 Tryz.underlying105 sz103 rfl rfl rfl (by decide)) rfl rfl rfl ?_
      refine W.rd (.loadB na103 rfl (v9) (getwA _ (by omega))) rfl rfl rfl ?_
      refine W.any (.buildArr [_, _, _, _, _, _, _, _] Tryz.underlying105 sz103 z105 rfl (one8 _ _ _ _ _ _ _ _) rfl rfl) rfl rfl rfl ?_
      have e2 := C2.le LL
      have e4 := C4.le LL
      have e5 := C5.le LL
      have e6 := C6.le LL
      refine W.ef0 rfl rfl ?_
      refine Ef.storeAll sz105 (rfl) rfl rfl (v9) (by simp [hvl]) (fun v hv => one8 _ _ _ _ _ _ _ _ v (by simpa using hv)) ?_
      intro w10_22 b10_22 h10_22
      have L10_22 : Le w w10_22 := L8_9.then_ h10_22 (fun q hq => by cases hq; exact hgv)
      refine W.nil ?_
      refine E.blkN ?_
      refine E.thenN ?_
      refine WC.region ?_
      refine W.any (.add rfl rfl (by omega)) rfl rfl rfl ?_
      refine W.any (.move rfl) rfl rfl rfl ?_
      refine W.nil ?_
      refine E.again (i + 1) (.cons rfl (.cons rfl (.cons rfl (.cons rfl (.cons rfl (.cons rfl (.nil _))))))) ?_ ?_
      · exact ⟨by omega, L10_22, e2.ch h10_22 (by simp; omega), e4.ch h10_22 (by simp; omega), e5.ch h10_22 (by simp; omega), e6.ch h10_22 (by simp; omega), b10_22.cast (by rw [roundsTo, ← hv]; rfl)⟩
      · first | omega | (simp only []; omega)
    · rw [hv] at bv hvl
      have hi64 : i = 64 := by omega
      subst hi64
      refine WC.exit ?_
      refine E.thenX ?_
      refine E.thenX ?_
      refine E.blkH ?_
      refine E.thenN ?_
      refine WC.seq ?_
      refine WC.seq ?_
      refine WC.region ?_
      refine W.any (.move rfl) rfl rfl rfl ?_
      refine W.nil ?_
      refine E.thenN ?_
      refine WC.block ?_
      refine WC.loop (ι := Nat) (fun j => [(2, .pointer (some ⟨g0_0, 0, none⟩)), (4, .pointer (some ⟨g0_1, 0, none⟩)), (7, .pointer (some ⟨g2_1, 0, none⟩)), (104, .int .i64 (j : Int))]) (fun j wm => j ≤ 8 ∧ Le w wm ∧ Blk wm g0_0 105 (h.map u32v).toArray ∧ Blk wm g0_1 105 zw8 ∧ Blk wm g2_1 105 ((addTo (roundsTo h (sched b) 64) h j).map u32v).toArray) (fun j => 8 - j) 0 ?_ ?_ ?_
      · exact .cons rfl (.cons rfl (.cons rfl (.cons rfl (.nil _))))
      · exact ⟨by omega, Ll, C2, C4, bv.cast (by rw [addTo_zero _ _ hvl])⟩
      · rintro j wm ⟨hj, Lm, C2, C4, bv⟩
        have hal := addTo_length (roundsTo h (sched b) 64) h j
        refine WC.seq ?_
        refine WC.region ?_
        refine W.any (.lss rfl rfl) rfl rfl rfl ?_
        refine W.nil ?_
        refine E.thenN ?_
        refine WC.seq ?_
        refine WC.cond rfl (fun c1 => ?_) (fun c1 => ?_)
        · refine WC.skip ?_
          refine E.thenN ?_
          refine WC.seq ?_
          refine WC.block ?_
          refine WC.seq ?_
          refine WC.region ?_
          refine W.any (.move rfl) rfl rfl rfl ?_
          refine W.any (.assign rfl) rfl rfl rfl ?_
          refine W.nil ?_
          refine E.thenN ?_
          refine WC.draw [0, 1, 2, 3, 4, 5, 6, 7, 8] mixed (by kernel_rfl) ?_
          intro w15 d15
          have L15 := Lm.trans d15
          refine G.any rfl rfl (.move rfl) rfl rfl rfl ?_
          refine G.any rfl rfl (.idxA1 (j) Tryz.underlying105 sz103 rfl rfl (rfl) (by omega)) rfl rfl rfl ?_
          refine G.rd rfl rfl (.loadB na103 rfl (bv.le d15) ((getwA _ (by omega)).trans (by rw [addTo_at _ _ _ _ (by omega), if_neg (by omega)]))) rfl rfl rfl ?_
          refine G.any rfl rfl (.move rfl) rfl rfl rfl ?_
          refine G.any rfl rfl (.idxA1 (j) Tryz.underlying105 sz103 rfl rfl (rfl) (by omega)) rfl rfl rfl ?_
          refine G.rd rfl rfl (.loadB na103 rfl (C2.le d15) (getwA _ (by omega))) rfl rfl rfl ?_
          refine G.any rfl rfl (.add32 rfl rfl) rfl rfl rfl ?_
          refine G.any rfl rfl (.idxA1 (j) Tryz.underlying105 sz103 rfl rfl (rfl) (by omega)) rfl rfl rfl ?_
          refine G.ef0 rfl rfl rfl rfl ?_
          refine Ef.store sz103 rfl rfl (bv.le d15) (by simp; omega) (rfl) ?_
          intro w15_8 b15_8 h15_8
          have L15_8 : Le w w15_8 := L15.then_ h15_8 (fun q hq => by cases hq; exact hgv)
          refine ⟨fun h => absurd h (ne_true_of_eq_false (by kernel_rfl)), ?_⟩
          refine G.nil ?_
          refine E.blkN ?_
          refine E.thenN ?_
          refine WC.region ?_
          refine W.any (.add rfl rfl (by omega)) rfl rfl rfl ?_
          refine W.any (.move rfl) rfl rfl rfl ?_
          refine W.nil ?_
          refine E.again (j + 1) (.cons rfl (.cons rfl (.cons rfl (.cons rfl (.nil _))))) ?_ ?_
          · exact ⟨by omega, L15_8, (C2.le d15).ch h15_8 (by simp; omega), (C4.le d15).ch h15_8 (by simp; omega), b15_8.cast (by rw [← addTo_succ _ _ j (by omega)]; apply Array.ext'; simp)⟩
          · first | omega | (simp only []; omega)
        · have hj8 : j = 8 := by omega
          subst hj8
          refine WC.exit ?_
          refine E.thenX ?_
          refine E.thenX ?_
          refine E.blkH ?_
          refine E.thenN ?_
          refine WC.seq ?_
          refine WC.region ?_
          refine W.rd (.loadAll ag105 (by simp [hal]) rfl (bv)) rfl rfl rfl ?_
          refine W.ef0 rfl rfl ?_
          refine Ef.storeAll sz105 (by simp [hal]) rfl rfl (C4) (by simp [hal]) (fun v hv => all_u32v _ v (by simpa using hv)) ?_
          intro w17_1 b17_1 h17_1
          have L17_1 : Le w w17_1 := Lm.then_ h17_1 (fun q hq => by cases hq; exact Nat.le_trans L0_0.size hg0_1)
          refine W.nil ?_
          refine E.thenN ?_
          refine WC.ret ?_
          refine E.retC rfl rfl b17_1 ag105 (by simp [hal]) ?_
          exact ⟨rfl, L17_1⟩
end Go.Proofs.YtgpdfkplkaojcaaGreat

namespace Go.Proofs.YtgpdfkplkaojcaaGreat
open Go Go.Sx Go.Hsp
set_option maxRecDepth 20000
theorem clone_ok {A : Option Addr} {n c : Nat} {xs : List Byte} (w : World) (hS : Sb w A n xs) (hn : n ≤ 70368744177664) : Calls Tryz.prog 49 #[.slice A n c] w fun e w' => ∃ A' c', e = .returned (.slice A' n c') ∧ Own w' w.heap.size 5 1 A' n c' (xs.map u8v) ∧ Le w w' := by
  refine enter Tryz.func49 rfl rfl ?_
  have L0 := Le.refl w
  refine WC.seq ?_
  refine WC.region ?_
  refine W.any (.assign rfl) rfl rfl rfl ?_
  refine W.nil ?_
  refine E.thenN ?_
  refine WC.seq ?_
  refine WC.seq ?_
  refine WC.region ?_
  refine W.any (.move rfl) rfl rfl rfl ?_
  refine W.any (.isNil Tryz.underlying99 rfl) rfl rfl rfl ?_
  refine W.nil ?_
  refine E.thenN ?_
  refine WC.condB rfl (fun c0 => ?_) (fun c0 => ?_)
  · have hA : A = none := by simpa using c0
    subst hA
    have hl := hS.len
    have hx : xs = [] := by cases xs with | nil => rfl | cons x xs => exact absurd (hS.isSome (by rw [← hl]; simp)) (by simp)
    subst hx
    have hn0 : n = 0 := by simpa using hl.symm
    subst hn0
    refine WC.seq ?_
    refine WC.region ?_
    refine W.any (.assign rfl) rfl rfl rfl ?_
    refine W.nil ?_
    refine E.thenN ?_
    refine WC.ret ?_
    refine E.thenR ?_
    refine E.ret1 rfl rfl ?_
    exact ⟨none, 0, rfl, Own.empty _ _ _ _ _, L0⟩
  · refine WC.skip ?_
    refine E.thenN ?_
    refine WC.seq ?_
    refine WC.region ?_
    refine W.ef rfl rfl rfl ?_
    refine Ef.buildSlice0 Tryz.underlying99 el5 ?_
    intro g3_0 w3_0 hg3_0 b3_0 h3_0
    have L3_0 := L0.trans h3_0
    refine W.any (.move rfl) rfl rfl rfl ?_
    refine W.ef rfl rfl rfl ?_
    refine Ef.append Tryz.underlying99 el5 rfl (Own.empty w3_0 w.heap.size 5 1 _) rfl ((hS.le L3_0).src Tryz.underlying99 _) (by omega) (by unfold maxLen; omega) (L3_0.size) ?_
    intro A3_2 c3_2 w3_2 o3_2 h3_2 at3_2
    have L3_2 : Le w w3_2 := L3_0.then_ h3_2 (fun q hq => by rw [rowOf_zero] at hq; cases hq)
    refine W.any (.assign rfl) rfl rfl rfl ?_
    refine W.nil ?_
    refine E.thenN ?_
    refine WC.ret ?_
    refine E.ret1 rfl rfl ?_
    exact ⟨A3_2, c3_2, by rw [Nat.zero_add], o3_2.cast (Nat.zero_add n) (List.nil_append _), L3_2⟩

theorem long_ok {A : Option Addr} {n c base : Nat} {xs : List Byte} (m : Nat) (w : World) (hO : Own w base 5 1 A n c (xs.map u8v)) (_hm : m ≤ 9223372036854775807) (hn : n ≤ 70368744177664) (hb : base ≤ w.heap.size) : Calls Tryz.prog 50 #[.slice A n c, .int .i64 (m : Int)] w fun e w' => ∃ A' c', e = .returned (.slice A' (n + 8) c') ∧ Own w' base 5 1 A' (n + 8) c' ((xs ++ be8 m).map u8v) ∧ Ch w w' (rowOf A c) ∧ At w A c A' c' := by
  refine enter Tryz.func50 rfl rfl ?_
  have L0 := Le.refl w
  refine WC.seq ?_
  refine WC.region ?_
  refine W.any (.assign rfl) rfl rfl rfl ?_
  refine W.nil ?_
  refine E.thenN ?_
  refine WC.seq ?_
  refine WC.seq ?_
  refine WC.region ?_
  refine W.any (.assign rfl) rfl rfl rfl ?_
  refine W.nil ?_
  refine E.thenN ?_
  refine WC.block ?_
  refine WC.loop (ι := Nat × Option Addr × Nat) (fun ⟨k, A1, c1⟩ => [(0, .slice A1 (n + k) c1), (1, .int .i64 (m : Int)), (5, .int .i64 (56 - 8 * (k : Int)))]) (fun ⟨k, A1, c1⟩ wl => k ≤ 8 ∧ Own wl base 5 1 A1 (n + k) c1 ((xs ++ be8To m k).map u8v) ∧ Ch w wl (rowOf A c) ∧ At w A c A1 c1) (fun ⟨k, A1, c1⟩ => 8 - k) (0, A, c) ?_ ?_ ?_
  · exact .cons rfl (.cons rfl (.cons rfl (.nil _)))
  · exact ⟨by omega, hO.cast rfl (by simp [be8To]), Ch.refl _ _, At.refl _ _ _⟩
  · rintro ⟨k, A1, c1⟩ wl ⟨hk, ol, chl, atl⟩
    refine WC.seq ?_
    refine WC.seq ?_
    refine WC.region ?_
    refine W.any (.move rfl) rfl rfl rfl ?_
    refine W.any (.geq rfl rfl) rfl rfl rfl ?_
    refine W.nil ?_
    refine E.thenN ?_
    refine WC.cond rfl (fun c0 => ?_) (fun c0 => ?_)
    · refine WC.skip ?_
      refine E.thenN ?_
      refine WC.seq ?_
      refine WC.block ?_
      refine WC.region ?_
      refine W.any (.move rfl) rfl rfl rfl ?_
      refine W.any (.move rfl) rfl rfl rfl ?_
      refine W.any (.move rfl) rfl rfl rfl ?_
      refine W.any (.shrN m (56 - 8 * k) rfl rfl rfl (by omega) (by show 56 - 8 * k ≤ 64; omega)) rfl rfl rfl ?_
      refine W.rd (.toU8 (m >>> (56 - 8 * k)) (isS Tryz.underlying3) Tryz.underlying5 rfl rfl) rfl rfl rfl ?_
      refine W.ef rfl rfl rfl ?_
      refine Ef.buildSlice1 Tryz.underlying99 el5 rfl rfl ?_
      intro g4_5 w4_5 hg4_5 b4_5 h4_5
      refine W.ef rfl rfl rfl ?_
      refine Ef.append Tryz.underlying99 el5 rfl (ol.le h4_5) rfl (b4_5.src1 Tryz.underlying99 rfl) (by omega) (by unfold maxLen; omega) (Nat.le_trans hb (Nat.le_trans chl.size h4_5.size)) ?_
      intro A4_6 c4_6 w4_6 o4_6 h4_6 at4_6
      refine W.any (.assign rfl) rfl rfl rfl ?_
      refine W.nil ?_
      refine E.blkN ?_
      refine E.thenN ?_
      refine WC.region ?_
      refine W.any (.move rfl) rfl rfl rfl ?_
      refine W.any (.sub rfl rfl (by omega)) rfl rfl rfl ?_
      refine W.any (.assign rfl) rfl rfl rfl ?_
      refine W.nil ?_
      refine E.again (k + 1, A4_6, c4_6) (.cons rfl (.cons rfl (.cons' rfl (int_eq (by omega)) (.nil _)))) ?_ ?_
      · exact ⟨by omega, o4_6.cast rfl (by rw [be8To_succ m k (by omega)]; simp), (chl.trans (h4_5.ch _)).then_ h4_6 (fun q hq => (atl q hq).symm), atl.trans (Nat.le_trans chl.size h4_5.size) at4_6⟩
      · first | omega | (simp only []; omega)
    · have hk8 : k = 8 := by omega
      subst hk8
      refine WC.exit ?_
      refine E.thenX ?_
      refine E.thenX ?_
      refine E.blkH ?_
      refine E.thenN ?_
      refine WC.seq ?_
      refine WC.region ?_
      refine W.any (.move rfl) rfl rfl rfl ?_
      refine W.any (.assign rfl) rfl rfl rfl ?_
      refine W.nil ?_
      refine E.thenN ?_
      refine WC.ret ?_
      refine E.ret1 rfl rfl ?_
      exact ⟨A1, c1, rfl, ol, chl, atl⟩

set_option maxHeartbeats 1000000 in
theorem sum_ok {A : Option Addr} {n c : Nat} {xs : List Byte} (w : World) (hS : Sb w A n xs) (hn : n ≤ 35184372088832) (hc : n ≤ c) : Calls Tryz.prog 18 #[.slice A n c] w fun e w' => e = .returned (.agg ((sum xs).map u8v).toArray) ∧ Le w w' := by
  have hl := hS.len
  refine enter Tryz.func18 rfl rfl ?_
  have L0 := Le.refl w
  refine WC.seq ?_
  refine WC.region ?_
  refine W.ef rfl rfl rfl ?_
  refine Ef.allocA z61 ?_
  intro g0_0 w0_0 hg0_0 b0_0 h0_0
  have L0_0 := L0.trans h0_0
  have b0 : Blk w0_0 g0_0 61 ((List.replicate 32 0#8).map u8v).toArray := b0_0
  refine W.nil ?_
  refine E.thenN ?_
  refine WC.seq ?_
  refine WC.region ?_
  refine W.any (.move rfl) rfl rfl rfl ?_
  refine W.any (.move rfl) rfl rfl rfl ?_
  refine W.rd (.len Tryz.underlying99 rfl) rfl rfl rfl ?_
  refine W.any (.move rfl) rfl rfl rfl ?_
  refine W.rd (.len Tryz.underlying99 rfl) rfl rfl rfl ?_
  refine W.any (.rem rfl rfl (by omega)) rfl rfl rfl ?_
  refine W.any (.sub rfl rfl (by omega)) rfl rfl rfl ?_
  refine W.any (.cutL (n - n % 64) Tryz.underlying99 sz5 rfl rfl (by omega) (by omega) (by omega)) rfl rfl rfl ?_
  refine W.ef rfl rfl rfl ?_
  refine Ef.call go49 rfl rfl (clone_ok w0_0 ((hS.le L0_0).cutL c (n - n % 64) (by omega) hc) (by omega)) ?_
  rintro _ w1_8 ⟨A1, c1, rfl, o1, h1_8⟩
  refine ⟨_, rfl, ?_⟩
  have L1_8 := L0_0.trans h1_8
  have o1b := o1
  have o1 := o1.mono L0_0.size
  refine W.ef rfl rfl rfl ?_
  refine Ef.buildSlice1 Tryz.underlying99 el5 rfl rfl ?_
  intro g1_9 w1_9 hg1_9 b1_9 h1_9
  have L1_9 := L1_8.trans h1_9
  refine W.ef rfl rfl rfl ?_
  refine Ef.append Tryz.underlying99 el5 rfl (o1.le h1_9) rfl (b1_9.src1 Tryz.underlying99 rfl) (by omega) (by unfold maxLen; omega) (L1_9.size) ?_
  intro A1_10 c1_10 w1_10 o1_10 h1_10 at1_10
  have L1_10 : Le w w1_10 := L1_9.then_ h1_10 (fun q hq => (o1.row hq).1)
  have ne0 : rowOf A1_10 c1_10 ≠ some g0_0 := at1_10.off (by have := b0.lt; have := h1_8.size; have := h1_9.size; omega) (fun he => by have := (o1b.row he).1; have := b0.lt; omega)
  have b0 := ((b0.le h1_8).le h1_9).ch h1_10 (fun he => by have := (o1b.row he).1; have := b0.lt; omega)
  refine W.any (.assign rfl) rfl rfl rfl ?_
  refine W.nil ?_
  refine E.thenN ?_
  refine WC.seq ?_
  refine WC.block ?_
  refine WC.loop (ι := Nat × Option Addr × Nat) (fun ⟨k, A2, c2⟩ => [(0, .slice A n c), (2, .pointer (some ⟨g0_0, 0, none⟩)), (3, .slice A2 (n % 64 + 1 + k) c2)]) (fun ⟨k, A2, c2⟩ wl => k ≤ noughts n ∧ Le w wl ∧ Own wl w.heap.size 5 1 A2 (n % 64 + 1 + k) c2 ((xs.drop (n - n % 64) ++ [128] ++ List.replicate k 0).map u8v) ∧ Blk wl g0_0 61 ((List.replicate 32 0#8).map u8v).toArray ∧ rowOf A2 c2 ≠ some g0_0) (fun ⟨k, A2, c2⟩ => 64 - k) (0, A1_10, c1_10) ?_ ?_ ?_
  · exact .cons rfl (.cons rfl (.cons' rfl (slice_eq (by omega)) (.nil _)))
  · exact ⟨Nat.zero_le _, L1_10, o1_10.cast (by omega) (by simp; rfl), b0, ne0⟩
  · rintro ⟨k, A2, c2⟩ wl ⟨hk, Ll, ol, b0, ne0⟩
    have hk63 : noughts n ≤ 63 := by unfold noughts; omega
    refine WC.seq ?_
    refine WC.seq ?_
    refine WC.region ?_
    refine W.any (.move rfl) rfl rfl rfl ?_
    refine W.rd (.len Tryz.underlying99 rfl) rfl rfl rfl ?_
    refine W.any (.rem rfl rfl (by omega)) rfl rfl rfl ?_
    refine W.any (.neq rfl rfl) rfl rfl rfl ?_
    refine W.nil ?_
    refine E.thenN ?_
    refine WC.cond rfl (fun c0 => ?_) (fun c0 => ?_)
    · refine WC.skip ?_
      refine E.thenN ?_
      refine WC.block ?_
      refine WC.region ?_
      refine W.any (.move rfl) rfl rfl rfl ?_
      refine W.ef rfl rfl rfl ?_
      refine Ef.buildSlice1 Tryz.underlying99 el5 rfl rfl ?_
      intro g3_1 w3_1 hg3_1 b3_1 h3_1
      have L3_1 := Ll.trans h3_1
      refine W.ef rfl rfl rfl ?_
      refine Ef.append Tryz.underlying99 el5 rfl (ol.le h3_1) rfl (b3_1.src1 Tryz.underlying99 rfl) (by omega) (by unfold maxLen; omega) (Nat.le_trans Ll.size h3_1.size) ?_
      intro A3_2 c3_2 w3_2 o3_2 h3_2 at3_2
      have L3_2 : Le w w3_2 := L3_1.then_ h3_2 (fun q hq => (ol.row hq).1)
      refine W.any (.assign rfl) rfl rfl rfl ?_
      refine W.nil ?_
      refine E.blkN ?_
      refine E.again (k + 1, A3_2, c3_2) (.cons rfl (.cons rfl (.cons' rfl (slice_eq (by omega)) (.nil _)))) ?_ ?_
      · exact ⟨by unfold noughts at *; omega, L3_2, o3_2.cast (by omega) (by simp [List.replicate_succ']; rfl), (b0.le h3_1).ch h3_2 ne0, at3_2.off (by have := b0.lt; have := h3_1.size; omega) ne0⟩
      · first | omega | (simp only []; omega)
    · have hkn : k = noughts n := by unfold noughts at *; omega
      subst hkn
      refine WC.exit ?_
      refine E.thenX ?_
      refine E.thenX ?_
      refine E.blkH ?_
      refine E.thenN ?_
      refine WC.seq ?_
      refine WC.region ?_
      refine W.any (.move rfl) rfl rfl rfl ?_
      refine W.any (.move rfl) rfl rfl rfl ?_
      refine W.rd (.len Tryz.underlying99 rfl) rfl rfl rfl ?_
      refine W.any (.mul rfl rfl (by omega)) rfl rfl rfl ?_
      refine W.ef rfl rfl rfl ?_
      refine Ef.call go50 rfl rfl (long_ok (8 * n) wl ol (by omega) (by omega) Ll.size) ?_
      rintro _ w4_4 ⟨A4, c4, rfl, o4, h4_4, at4⟩
      refine ⟨_, rfl, ?_⟩
      have L4_4 : Le w w4_4 := Ll.then_ h4_4 (fun q hq => (ol.row hq).1)
      have b0 := b0.ch h4_4 ne0
      obtain ⟨ge, hA4, hge1, hge2, hrow⟩ := o4.lit (by omega)
      subst hA4
      have hce := o4.cap.1
      have hE : Sb w4_4 (some ⟨ge, 0, none⟩) (n % 64 + 1 + noughts n + 8) (tail xs) := o4.sb.cast rfl (by simp [tail, hl])
      have htl := tail_length xs
      have hlen := hE.len
      rw [hlen] at htl
      refine W.any (.assign rfl) rfl rfl rfl ?_
      refine W.nil ?_
      refine E.thenN ?_
      refine WC.seq ?_
      refine WC.region ?_
      refine W.ef rfl rfl rfl ?_
      refine Ef.call go51 rfl rfl (first_ok w4_4) ?_
      rintro _ w5_0 ⟨rfl, h5_0⟩
      refine ⟨_, rfl, ?_⟩
      have L5_0 := L4_4.trans h5_0
      refine W.ef rfl rfl rfl ?_
      refine Ef.allocA z105 ?_
      intro g5_1 w5_1 hg5_1 b5_1 h5_1
      have L5_1 := L5_0.trans h5_1
      refine W.ef0 rfl rfl ?_
      refine Ef.storeAll sz105 (rfl) rfl rfl (b5_1) (rfl) (fun v hv => all_u32v _ v (by simpa using hv)) ?_
      intro w5_2 b5_2 h5_2
      have L5_2 : Le w w5_2 := L5_1.then_ h5_2 (fun q hq => by cases hq; exact Nat.le_trans L5_0.size hg5_1)
      have g5 : w4_4.heap.size ≤ g5_1 := Nat.le_trans h5_0.size hg5_1
      have n05 : g0_0 < g5_1 := Nat.lt_of_lt_of_le b0.lt g5
      have ne5 : ge < g5_1 := Nat.lt_of_lt_of_le hge2 g5
      have hgh : w.heap.size ≤ g5_1 := Nat.le_trans L4_4.size g5
      have b0 := ((b0.le h5_0).le h5_1).ch h5_2 (by simp; omega)
      have hE := ((hE.le h5_0).le h5_1).ch h5_2 (fun q hq => by cases hq; simp [blkOf]; omega)
      refine W.nil ?_
      refine E.thenN ?_
      refine WC.seq ?_
      refine WC.block ?_
      refine WC.loop (ι := Option Addr × Nat × Nat × List Byte × List Word) (fun ⟨Ab, nb, cb, ys, hh⟩ => [(0, .slice Ab nb cb), (2, .pointer (some ⟨g0_0, 0, none⟩)), (3, .slice (some ⟨ge, 0, none⟩) (n % 64 + 1 + noughts n + 8) c4), (4, .pointer (some ⟨g5_1, 0, none⟩))]) (fun ⟨Ab, nb, cb, ys, hh⟩ wp => Sb w Ab nb ys ∧ nb ≤ cb ∧ hh.length = 8 ∧ mixAll hh ys = mixAll first xs ∧ Le w wp ∧ Blk wp g5_1 105 (hh.map u32v).toArray ∧ Blk wp g0_0 61 ((List.replicate 32 0#8).map u8v).toArray ∧ Sb wp (some ⟨ge, 0, none⟩) (n % 64 + 1 + noughts n + 8) (tail xs)) (fun ⟨Ab, nb, cb, ys, hh⟩ => nb) (A, n, c, xs, first) ?_ ?_ ?_
      · exact .cons rfl (.cons rfl (.cons rfl (.cons rfl (.nil _))))
      · exact ⟨hS, hc, rfl, rfl, L5_2, b5_2, b0, hE⟩
      · rintro ⟨Ab, nb, cb, ys, hh⟩ wp ⟨hb, hcb, hhl, hmx, Lp, bh, b0, hE⟩
        have hyl := hb.len
        refine WC.seq ?_
        refine WC.seq ?_
        refine WC.region ?_
        refine W.any (.move rfl) rfl rfl rfl ?_
        refine W.rd (.len Tryz.underlying99 rfl) rfl rfl rfl ?_
        refine W.any (.geq rfl rfl) rfl rfl rfl ?_
        refine W.nil ?_
        refine E.thenN ?_
        refine WC.cond rfl (fun c1 => ?_) (fun c1 => ?_)
        · refine WC.skip ?_
          refine E.thenN ?_
          refine WC.seq ?_
          refine WC.block ?_
          refine WC.draw [0, 1, 2, 3, 4] mixed (by kernel_rfl) ?_
          intro w8 d8
          have L8 := Lp.trans d8
          refine G.rd rfl rfl (.loadAll ag105 (by simp [hhl]) rfl (bh.le d8)) rfl rfl rfl ?_
          refine G.any rfl rfl (.move rfl) rfl rfl rfl ?_
          refine G.any rfl rfl (.cutH (64) Tryz.underlying99 sz5 rfl rfl (rfl) (by omega)) rfl rfl rfl ?_
          refine G.ef rfl rfl rfl rfl rfl ?_
          refine Ef.call go52 rfl rfl (mix_ok w8 hhl ((hb.le L8).cutH 64 (by omega)) rfl (by omega)) ?_
          rintro _ w8_3 ⟨rfl, h8_3⟩
          refine ⟨_, rfl, ?_⟩
          have L8_3 := L8.trans h8_3
          refine ⟨fun _ => h8_3, ?_⟩
          refine G.ef0 rfl rfl rfl rfl ?_
          refine Ef.storeAll sz105 (by simp [mix_length]) rfl rfl ((bh.le d8).le h8_3) (by simp [mix_length, hhl]) (fun v hv => all_u32v _ v (by simpa using hv)) ?_
          intro w8_4 b8_4 h8_4
          have L8_4 : Le w w8_4 := L8_3.then_ h8_4 (fun q hq => by cases hq; exact hgh)
          refine ⟨fun h => absurd h (ne_true_of_eq_false (by kernel_rfl)), ?_⟩
          refine G.nil ?_
          refine E.blkN ?_
          refine E.thenN ?_
          refine WC.region ?_
          refine W.any (.move rfl) rfl rfl rfl ?_
          refine W.any (.cutL (64) Tryz.underlying99 sz5 rfl rfl (rfl) (by omega) (by omega)) rfl rfl rfl ?_
          refine W.any (.assign rfl) rfl rfl rfl ?_
          refine W.nil ?_
          refine E.again (cutA Ab cb 64 1, nb - 64, cb - 64, ys.drop 64, mix hh (ys.take 64)) (.cons rfl (.cons rfl (.cons rfl (.cons rfl (.nil _))))) ?_ ?_
          · exact ⟨hb.cutL cb 64 (by omega) hcb, by omega, mix_length _ _, (mixAll_step _ _ (by omega)).symm.trans hmx, L8_4, b8_4, ((b0.le d8).le h8_3).ch h8_4 (by simp; omega), ((hE.le d8).le h8_3).ch h8_4 (fun q hq => by cases hq; simp [blkOf]; omega)⟩
          · first | omega | (simp only []; omega)
        · have hhe : hh = mixAll first xs := by rw [← hmx, mixAll_end _ _ (by omega)]
          refine WC.exit ?_
          refine E.thenX ?_
          refine E.thenX ?_
          refine E.blkH ?_
          refine E.thenN ?_
          refine WC.seq ?_
          refine WC.block ?_
          refine WC.loop (ι := Option Addr × Nat × Nat × List Byte × List Word) (fun ⟨Ab, nb, cb, ys, hh⟩ => [(2, .pointer (some ⟨g0_0, 0, none⟩)), (3, .slice Ab nb cb), (4, .pointer (some ⟨g5_1, 0, none⟩))]) (fun ⟨Ab, nb, cb, ys, hh⟩ wq => Sb wq Ab nb ys ∧ blkOf Ab = some ge ∧ nb ≤ cb ∧ nb % 64 = 0 ∧ hh.length = 8 ∧ mixAll hh ys = mixAll (mixAll first xs) (tail xs) ∧ Le w wq ∧ Blk wq g5_1 105 (hh.map u32v).toArray ∧ Blk wq g0_0 61 ((List.replicate 32 0#8).map u8v).toArray) (fun ⟨Ab, nb, cb, ys, hh⟩ => nb) (some ⟨ge, 0, none⟩, n % 64 + 1 + noughts n + 8, c4, tail xs, hh) ?_ ?_ ?_
          · exact .cons rfl (.cons rfl (.cons rfl (.nil _)))
          · exact ⟨hE, rfl, hce, htl, hhl, by rw [hhe], Lp, bh, b0⟩
          · rintro ⟨Ab, nb, cb, ys, hh⟩ wq ⟨hb, hbe, hcb, h64, hhl, hmx, Lq, bh, b0⟩
            have hyl := hb.len
            refine WC.seq ?_
            refine WC.seq ?_
            refine WC.region ?_
            refine W.any (.move rfl) rfl rfl rfl ?_
            refine W.rd (.len Tryz.underlying99 rfl) rfl rfl rfl ?_
            refine W.any (.gtr rfl rfl) rfl rfl rfl ?_
            refine W.nil ?_
            refine E.thenN ?_
            refine WC.cond rfl (fun c2 => ?_) (fun c2 => ?_)
            · refine WC.skip ?_
              refine E.thenN ?_
              refine WC.seq ?_
              refine WC.block ?_
              refine WC.draw [0, 1, 2, 3, 4] mixed (by kernel_rfl) ?_
              intro w11 d11
              have L11 := Lq.trans d11
              refine G.rd rfl rfl (.loadAll ag105 (by simp [hhl]) rfl (bh.le d11)) rfl rfl rfl ?_
              refine G.any rfl rfl (.move rfl) rfl rfl rfl ?_
              refine G.any rfl rfl (.cutH (64) Tryz.underlying99 sz5 rfl rfl (rfl) (by omega)) rfl rfl rfl ?_
              refine G.ef rfl rfl rfl rfl rfl ?_
              refine Ef.call go52 rfl rfl (mix_ok w11 hhl ((hb.le d11).cutH 64 (by omega)) rfl (by omega)) ?_
              rintro _ w11_3 ⟨rfl, h11_3⟩
              refine ⟨_, rfl, ?_⟩
              have L11_3 := L11.trans h11_3
              refine ⟨fun _ => h11_3, ?_⟩
              refine G.ef0 rfl rfl rfl rfl ?_
              refine Ef.storeAll sz105 (by simp [mix_length]) rfl rfl ((bh.le d11).le h11_3) (by simp [mix_length, hhl]) (fun v hv => all_u32v _ v (by simpa using hv)) ?_
              intro w11_4 b11_4 h11_4
              have L11_4 : Le w w11_4 := L11_3.then_ h11_4 (fun q hq => by cases hq; exact hgh)
              refine ⟨fun h => absurd h (ne_true_of_eq_false (by kernel_rfl)), ?_⟩
              refine G.nil ?_
              refine E.blkN ?_
              refine E.thenN ?_
              refine WC.region ?_
              refine W.any (.move rfl) rfl rfl rfl ?_
              refine W.any (.cutL (64) Tryz.underlying99 sz5 rfl rfl (rfl) (by omega) (by omega)) rfl rfl rfl ?_
              refine W.any (.assign rfl) rfl rfl rfl ?_
              refine W.nil ?_
              refine E.again (cutA Ab cb 64 1, nb - 64, cb - 64, ys.drop 64, mix hh (ys.take 64)) (.cons rfl (.cons rfl (.cons rfl (.nil _)))) ?_ ?_
              · exact ⟨(((hb.le d11).le h11_3).ch h11_4 (fun q hq => by cases hq; rw [hbe]; simp; omega)).cutL cb 64 (by omega) hcb, by rw [blkOf_cutA, hbe], by omega, by omega, mix_length _ _, (mixAll_step _ _ (by omega)).symm.trans hmx, L11_4, b11_4, ((b0.le d11).le h11_3).ch h11_4 (by simp; omega)⟩
              · first | omega | (simp only []; omega)
            · have hhe : hh = mixAll (mixAll first xs) (tail xs) := by rw [← hmx, mixAll_end _ _ (by omega)]
              refine WC.exit ?_
              refine E.thenX ?_
              refine E.thenX ?_
              refine E.blkH ?_
              refine E.thenN ?_
              refine WC.seq ?_
              refine WC.seq ?_
              refine WC.region ?_
              refine W.any (.move rfl) rfl rfl rfl ?_
              refine W.nil ?_
              refine E.thenN ?_
              refine WC.block ?_
              refine WC.loop (ι := Nat) (fun k => [(2, .pointer (some ⟨g0_0, 0, none⟩)), (4, .pointer (some ⟨g5_1, 0, none⟩)), (48, .int .i64 (k : Int))]) (fun k wr => k ≤ 32 ∧ Le w wr ∧ Blk wr g5_1 105 (hh.map u32v).toArray ∧ Blk wr g0_0 61 ((digestTo hh k).map u8v).toArray) (fun k => 32 - k) 0 ?_ ?_ ?_
              · exact .cons rfl (.cons rfl (.cons rfl (.nil _)))
              · exact ⟨by omega, Lq, bh, b0⟩
              · rintro k wr ⟨hk, Lr, bh, b0⟩
                have hdl := digestTo_length hh k hk
                refine WC.seq ?_
                refine WC.region ?_
                refine W.any (.lss rfl rfl) rfl rfl rfl ?_
                refine W.nil ?_
                refine E.thenN ?_
                refine WC.seq ?_
                refine WC.cond rfl (fun c3 => ?_) (fun c3 => ?_)
                · refine WC.skip ?_
                  refine E.thenN ?_
                  refine WC.seq ?_
                  refine WC.block ?_
                  refine WC.seq ?_
                  refine WC.region ?_
                  refine W.any (.move rfl) rfl rfl rfl ?_
                  refine W.any (.assign rfl) rfl rfl rfl ?_
                  refine W.nil ?_
                  refine E.thenN ?_
                  refine WC.region ?_
                  refine W.any (.move rfl) rfl rfl rfl ?_
                  refine W.any (.move rfl) rfl rfl rfl ?_
                  refine W.any (.quo rfl rfl (by omega)) rfl rfl rfl ?_
                  refine W.any (.idxA1 (k / 4) Tryz.underlying105 sz103 rfl rfl (by omega) (by omega)) rfl rfl rfl ?_
                  refine W.rd (.loadB na103 rfl (bh) (getwA _ (by omega))) rfl rfl rfl ?_
                  refine W.any (.move rfl) rfl rfl rfl ?_
                  refine W.any (.rem rfl rfl (by omega)) rfl rfl rfl ?_
                  refine W.any (.mul rfl rfl (by omega)) rfl rfl rfl ?_
                  refine W.any (.sub rfl rfl (by omega)) rfl rfl rfl ?_
                  refine W.any (.shr32 (24 - 8 * (k % 4)) rfl rfl (by omega) (by omega)) rfl rfl rfl ?_
                  refine W.rd (.u32to8 (isS Tryz.underlying103) Tryz.underlying5 rfl) rfl rfl rfl ?_
                  refine W.any (.idxA1 (k) Tryz.underlying61 sz5 rfl rfl (rfl) (by omega)) rfl rfl rfl ?_
                  refine W.ef0 rfl rfl ?_
                  refine Ef.store sz5 rfl rfl (b0) (by simp; omega) (rfl) ?_
                  intro w15_12 b15_12 h15_12
                  have L15_12 : Le w w15_12 := Lr.then_ h15_12 (fun q hq => by cases hq; exact hg0_0)
                  refine W.nil ?_
                  refine E.blkN ?_
                  refine E.thenN ?_
                  refine WC.region ?_
                  refine W.any (.add rfl rfl (by omega)) rfl rfl rfl ?_
                  refine W.any (.move rfl) rfl rfl rfl ?_
                  refine W.nil ?_
                  refine E.again (k + 1) (.cons rfl (.cons rfl (.cons rfl (.nil _)))) ?_ ?_
                  · exact ⟨by omega, L15_12, bh.ch h15_12 (by simp; omega), b15_12.cast (by rw [← digestTo_succ hh k (by omega)]; apply Array.ext'; simp)⟩
                  · first | omega | (simp only []; omega)
                · have hk32 : k = 32 := by omega
                  subst hk32
                  refine WC.exit ?_
                  refine E.thenX ?_
                  refine E.thenX ?_
                  refine E.blkH ?_
                  refine E.thenN ?_
                  refine WC.seq ?_
                  refine WC.region ?_
                  refine W.rd (.loadAll ag61 (by simp [hdl]) rfl (b0)) rfl rfl rfl ?_
                  refine W.ef0 rfl rfl ?_
                  refine Ef.storeAll sz61 (by simp [hdl]) rfl rfl (b0) (by simp) (all_u8v _) ?_
                  intro w17_1 b17_1 h17_1
                  have L17_1 : Le w w17_1 := Lr.then_ h17_1 (fun q hq => by cases hq; exact hg0_0)
                  refine W.nil ?_
                  refine E.thenN ?_
                  refine WC.ret ?_
                  refine E.retC rfl rfl b17_1 ag61 (by simp [hdl]) ?_
                  exact ⟨by rw [Hsp.sum, ← hhe]; simp [digestTo, List.take_of_length_le, digest_length], L17_1⟩

set_option maxHeartbeats 1000000 in
theorem tag_ok {A : Option Addr} {n c : Nat} {vs : List Value} {ps : List (List Byte)} (name : ByteArray) (nm : List Byte) (w : World) (hnm : byteCells name = nm.map u8v) (hV : Sl w 1 A n vs) (hP : Parts w vs ps) (hT : (tagBytes nm ps).length ≤ 1099511627776) : Calls Tryz.prog 61 #[.string name, .slice A n c] w fun e w' => e = .returned (.agg ((tag nm ps).map u8v).toArray) ∧ Le w w' := by
  have hns : name.size = nm.length := by have := congrArg List.length hnm; simpa [byteCells_length] using this
  have hnl : nm.length = name.size := hns.symm
  have hvl := hV.1
  have hpl := hP.1
  have hpn := tagBytes_parts nm ps
  have hle := tagTo_le nm ps 0
  rw [tagTo_zero] at hle
  simp [be8_length] at hle
  refine enter Tryz.func61 rfl rfl ?_
  have L0 := Le.refl w
  refine WC.seq ?_
  refine WC.region ?_
  refine W.ef rfl rfl rfl ?_
  refine Ef.allocA z61 ?_
  intro g0_0 w0_0 hg0_0 b0_0 h0_0
  have L0_0 := L0.trans h0_0
  have b0 : Blk w0_0 g0_0 61 ((List.replicate 32 0#8).map u8v).toArray := b0_0
  refine W.nil ?_
  refine E.thenN ?_
  refine WC.seq ?_
  refine WC.region ?_
  refine W.any (.move rfl) rfl rfl rfl ?_
  refine W.rd (.lenStr Tryz.underlying9 rfl) rfl rfl rfl ?_
  refine W.ef rfl rfl rfl ?_
  refine Ef.call go50 rfl rfl (long_ok (xs := []) name.size w0_0 (Own.empty w0_0 w.heap.size 5 1 none) (by omega) (by omega) L0_0.size) ?_
  rintro _ w1_2 ⟨A1, c1, rfl, o1, h1_2, at1⟩
  refine ⟨_, rfl, ?_⟩
  have L1_2 : Le w w1_2 := L0_0.then_ h1_2 (fun q hq => by rw [rowOf_zero] at hq; cases hq)
  have b0 := b0.ch h1_2 (by rw [rowOf_zero]; simp)
  have ne0 : rowOf A1 c1 ≠ some g0_0 := fun he => by have := at1.none he; have := b0_0.lt; omega
  refine W.any (.move rfl) rfl rfl rfl ?_
  refine W.ef rfl rfl rfl ?_
  refine Ef.append Tryz.underlying99 el5 rfl (o1) rfl (Src.ofString w1_2 Tryz.underlying9 name) (by omega) (by unfold maxLen; omega) (L1_2.size) ?_
  intro A1_4 c1_4 w1_4 o1_4 h1_4 at1_4
  have L1_4 : Le w w1_4 := L1_2.then_ h1_4 (fun q hq => (o1.row hq).1)
  have ne0 : rowOf A1_4 c1_4 ≠ some g0_0 := at1_4.off (by have := b0.lt; omega) ne0
  have b0 := b0.ch h1_4 (by assumption)
  refine W.any (.assign rfl) rfl rfl rfl ?_
  refine W.nil ?_
  refine E.thenN ?_
  refine WC.seq ?_
  refine WC.seq ?_
  refine WC.region ?_
  refine W.any (.move rfl) rfl rfl rfl ?_
  refine W.rd (.len Tryz.underlying134 rfl) rfl rfl rfl ?_
  refine W.any (.move rfl) rfl rfl rfl ?_
  refine W.nil ?_
  refine E.thenN ?_
  refine WC.block ?_
  refine WC.loop (ι := Nat × Option Addr × Nat) (fun ⟨k, A2, c2⟩ => [(4, .pointer (some ⟨g0_0, 0, none⟩)), (5, .slice A2 (tagTo nm ps k).length c2), (13, .slice A n c), (14, .int .i64 (n : Int)), (15, .int .i64 (k : Int))]) (fun ⟨k, A2, c2⟩ wl => k ≤ n ∧ Le w wl ∧ Own wl w.heap.size 5 1 A2 (tagTo nm ps k).length c2 ((tagTo nm ps k).map u8v) ∧ Blk wl g0_0 61 ((List.replicate 32 0#8).map u8v).toArray ∧ rowOf A2 c2 ≠ some g0_0) (fun ⟨k, A2, c2⟩ => n - k) (0, A1_4, c1_4) ?_ ?_ ?_
  · exact .cons rfl (.cons' rfl (slice_eq (by rw [tagTo_zero]; simp [be8_length, hnl])) (.cons rfl (.cons rfl (.cons rfl (.nil _)))))
  · exact ⟨Nat.zero_le _, L1_4, o1_4.cast (by rw [tagTo_zero]; simp [be8_length, hnl]) (by rw [tagTo_zero, hnm]; simp [hnl]), b0, ne0⟩
  · rintro ⟨k, A2, c2⟩ wl ⟨hk, Ll, ol, b0, ne0⟩
    have hTk : (tagTo nm ps k).length ≤ 1099511627776 := Nat.le_trans (tagTo_le nm ps k) hT
    refine WC.seq ?_
    refine WC.region ?_
    refine W.any (.lss rfl rfl) rfl rfl rfl ?_
    refine W.nil ?_
    refine E.thenN ?_
    refine WC.seq ?_
    refine WC.cond rfl (fun c0 => ?_) (fun c0 => ?_)
    · have hkn : k < n := by omega
      obtain ⟨q, hq⟩ : ∃ q, ps[k]? = some q := ⟨_, List.getElem?_eq_getElem (by omega)⟩
      obtain ⟨v, hv⟩ : ∃ v, vs[k]? = some v := ⟨_, List.getElem?_eq_getElem (by omega)⟩
      obtain ⟨Aq, cq, rfl, hq8⟩ := hP.2 k v q hv hq
      have hsucc := tagTo_succ nm ps k q hq
      have hTk1 : (tagTo nm ps (k + 1)).length ≤ 1099511627776 := Nat.le_trans (tagTo_le nm ps (k + 1)) hT
      have hsl : (tagTo nm ps (k + 1)).length = (tagTo nm ps k).length + 8 + q.length := by rw [hsucc]; simp [be8_length]; omega
      refine WC.skip ?_
      refine E.thenN ?_
      refine WC.seq ?_
      refine WC.block ?_
      refine WC.seq ?_
      refine WC.region ?_
      refine W.any (.idxS1 (k) Tryz.underlying134 sz99 rfl rfl (hV.isSome hkn (by decide)) (rfl) (by omega)) rfl rfl rfl ?_
      refine W.rd (.loadS na99 rfl (hV.le Ll) (hv)) rfl rfl rfl ?_
      refine W.any (.assign rfl) rfl rfl rfl ?_
      refine W.nil ?_
      refine E.thenN ?_
      refine WC.region ?_
      refine W.any (.move rfl) rfl rfl rfl ?_
      refine W.any (.move rfl) rfl rfl rfl ?_
      refine W.rd (.len Tryz.underlying99 rfl) rfl rfl rfl ?_
      refine W.ef rfl rfl rfl ?_
      refine Ef.call go50 rfl rfl (long_ok q.length wl ol (by omega) (by omega) Ll.size) ?_
      rintro _ w5_3 ⟨A3, c3, rfl, o3, h5_3, at3⟩
      refine ⟨_, rfl, ?_⟩
      have L5_3 : Le w w5_3 := Ll.then_ h5_3 (fun q hq => (ol.row hq).1)
      have ne0' : rowOf A3 c3 ≠ some g0_0 := at3.off (by have := b0.lt; omega) ne0
      have b0 := b0.ch h5_3 ne0
      refine W.any (.move rfl) rfl rfl rfl ?_
      refine W.ef rfl rfl rfl ?_
      refine Ef.append Tryz.underlying99 el5 rfl (o3) rfl ((hq8.le L5_3).src Tryz.underlying99 _) (by omega) (by unfold maxLen; omega) (L5_3.size) ?_
      intro A5_5 c5_5 w5_5 o5_5 h5_5 at5_5
      have L5_5 : Le w w5_5 := L5_3.then_ h5_5 (fun q hq => (o3.row hq).1)
      refine W.any (.assign rfl) rfl rfl rfl ?_
      refine W.nil ?_
      refine E.blkN ?_
      refine E.thenN ?_
      refine WC.region ?_
      refine W.any (.add rfl rfl (by omega)) rfl rfl rfl ?_
      refine W.any (.move rfl) rfl rfl rfl ?_
      refine W.nil ?_
      refine E.again (k + 1, A5_5, c5_5) (.cons rfl (.cons' rfl (slice_eq (by rw [hsucc]; simp [be8_length]; omega)) (.cons rfl (.cons rfl (.cons rfl (.nil _)))))) ?_ ?_
      · exact ⟨by omega, L5_5, o5_5.cast (by rw [hsucc]; simp [be8_length]; omega) (by rw [hsucc]; simp), b0.ch h5_5 ne0', at5_5.off (by have := b0.lt; omega) ne0'⟩
      · first | omega | (simp only []; omega)
    · have hkn : k = n := by omega
      refine WC.exit ?_
      refine E.thenX ?_
      refine E.thenX ?_
      refine E.blkH ?_
      refine E.thenN ?_
      refine WC.seq ?_
      refine WC.region ?_
      refine W.any (.move rfl) rfl rfl rfl ?_
      refine W.ef rfl rfl rfl ?_
      refine Ef.call go18 rfl rfl (sum_ok wl ol.sb (by omega) ol.cap.1) ?_
      rintro _ w7_1 ⟨rfl, h7_1⟩
      refine ⟨_, rfl, ?_⟩
      have L7_1 := Ll.trans h7_1
      refine W.ef0 rfl rfl ?_
      refine Ef.storeAll sz61 (by simp [sum_length]) rfl rfl (b0.le h7_1) (by simp [sum_length]) (all_u8v _) ?_
      intro w7_2 b7_2 h7_2
      have L7_2 : Le w w7_2 := L7_1.then_ h7_2 (fun q hq => by cases hq; exact hg0_0)
      refine W.nil ?_
      refine E.thenN ?_
      refine WC.ret ?_
      refine E.retC rfl rfl b7_2 ag61 (by simp [sum_length]) ?_
      exact ⟨by rw [tag, tagTo_all nm ps k (by omega)], L7_2⟩
end Go.Proofs.YtgpdfkplkaojcaaGreat

namespace Go.Proofs.YtgpdfkplkaojcaaGreat
open Go Go.Sx Go.Hsp
set_option maxRecDepth 20000
theorem tagLen1 (nm p : List Byte) : (tagBytes nm [p]).length = 16 + nm.length + p.length := by simp [tagBytes, be8_length]; omega
theorem tagLen2 (nm p q : List Byte) : (tagBytes nm [p, q]).length = 24 + nm.length + p.length + q.length := by simp [tagBytes, be8_length]; omega
















end Go.Proofs.YtgpdfkplkaojcaaGreat

namespace Go.Proofs.YtgpdfkplkaojcaaGreat
open Go Go.Sx
theorem fa34_0 : Fat Tryz.prog 34 0 0 := ⟨_, _, _, Tryz.underlying34, rfl, rfl, sz3, by decide⟩
theorem fa34_1 : Fat Tryz.prog 34 1 1 := ⟨_, _, _, Tryz.underlying34, rfl, rfl, sz3, by decide⟩
theorem fa34_2 : Fat Tryz.prog 34 2 2 := ⟨_, _, _, Tryz.underlying34, rfl, rfl, sz3, by decide⟩
theorem fa34_3 : Fat Tryz.prog 34 3 3 := ⟨_, _, _, Tryz.underlying34, rfl, rfl, sz3, by decide⟩
theorem fa34_4 : Fat Tryz.prog 34 4 4 := ⟨_, _, _, Tryz.underlying34, rfl, rfl, sz3, by decide⟩
theorem pl34 : Pls Tryz.prog 34 [(0, 1), (1, 1), (2, 1), (3, 1), (4, 1)] := ⟨_, Tryz.underlying34, fun w => by simp [sz3.run]⟩
theorem fa36_0 : Fat Tryz.prog 36 0 0 := ⟨_, _, _, Tryz.underlying36, rfl, rfl, sz3, by decide⟩
theorem fa36_1 : Fat Tryz.prog 36 1 1 := ⟨_, _, _, Tryz.underlying36, rfl, rfl, sz3, by decide⟩
theorem fa36_2 : Fat Tryz.prog 36 2 2 := ⟨_, _, _, Tryz.underlying36, rfl, rfl, sz3, by decide⟩
theorem fa36_3 : Fat Tryz.prog 36 3 3 := ⟨_, _, _, Tryz.underlying36, rfl, rfl, sz3, by decide⟩
theorem fa36_4 : Fat Tryz.prog 36 4 4 := ⟨_, _, _, Tryz.underlying36, rfl, rfl, sz34, by decide⟩
theorem pl36 : Pls Tryz.prog 36 [(0, 1), (1, 1), (2, 1), (3, 1), (4, 5)] := ⟨_, Tryz.underlying36, fun w => by simp [sz3.run, sz34.run]⟩
theorem fa38_0 : Fat Tryz.prog 38 0 0 := ⟨_, _, _, Tryz.underlying38, rfl, rfl, sz28, by decide⟩
theorem fa38_1 : Fat Tryz.prog 38 1 1 := ⟨_, _, _, Tryz.underlying38, rfl, rfl, sz30, by decide⟩
theorem pl38 : Pls Tryz.prog 38 [(0, 1), (1, 1)] := ⟨_, Tryz.underlying38, fun w => by simp [sz28.run, sz30.run]⟩
theorem fa40_0 : Fat Tryz.prog 40 0 0 := ⟨_, _, _, Tryz.underlying40, rfl, rfl, sz36, by decide⟩
theorem fa40_1 : Fat Tryz.prog 40 1 9 := ⟨_, _, _, Tryz.underlying40, rfl, rfl, sz3, by decide⟩
theorem fa40_2 : Fat Tryz.prog 40 2 10 := ⟨_, _, _, Tryz.underlying40, rfl, rfl, sz4, by decide⟩
theorem fa40_3 : Fat Tryz.prog 40 3 11 := ⟨_, _, _, Tryz.underlying40, rfl, rfl, sz38, by decide⟩
theorem pl40 : Pls Tryz.prog 40 [(0, 9), (9, 1), (10, 1), (11, 2)] := ⟨_, Tryz.underlying40, fun w => by simp [sz3.run, sz4.run, sz36.run, sz38.run]⟩
theorem fa57_0 : Fat Tryz.prog 57 0 0 := ⟨_, _, _, Tryz.underlying57, rfl, rfl, sz26, by decide⟩
theorem fa57_1 : Fat Tryz.prog 57 1 1 := ⟨_, _, _, Tryz.underlying57, rfl, rfl, sz24, by decide⟩
theorem pl68 : Pls Tryz.prog 68 [(0, 1), (1, 1), (2, 1), (3, 1), (4, 1), (5, 1)] := ⟨_, Tryz.underlying68, fun w => by simp [sz3.run, sz28.run, sz30.run]⟩
theorem fa75_0 : Fat Tryz.prog 75 0 0 := ⟨_, _, _, Tryz.underlying75, rfl, rfl, sz26, by decide⟩
theorem fa75_1 : Fat Tryz.prog 75 1 1 := ⟨_, _, _, Tryz.underlying75, rfl, rfl, sz72, by decide⟩
theorem fa75_2 : Fat Tryz.prog 75 2 2 := ⟨_, _, _, Tryz.underlying75, rfl, rfl, sz73, by decide⟩
theorem fa75_3 : Fat Tryz.prog 75 3 3 := ⟨_, _, _, Tryz.underlying75, rfl, rfl, sz3, by decide⟩
theorem pl75 : Pls Tryz.prog 75 [(0, 1), (1, 1), (2, 1), (3, 1)] := ⟨_, Tryz.underlying75, fun w => by simp [sz3.run, sz26.run, sz72.run, sz73.run]⟩
end Go.Proofs.YtgpdfkplkaojcaaGreat

