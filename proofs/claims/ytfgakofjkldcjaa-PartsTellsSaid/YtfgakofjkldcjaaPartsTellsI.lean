/- PartsTells: for every input the law answers true and leaves its arguments as they were. -/
import Derived.Test.YtfgakofjkldcjaaPartsTellsH
import Derived.OrdersHeld
import Derived.WalkKit
import Derived.Deep.AppendSrc
import Derived.Deep.MidRow
import Derived.Laws.OwnMore
import Derived.WalkSpells
import Derived.Lib.ConvBytes
import Derived.Lib.AppendZerosOnto
import Derived.Laws.StructEq
import Derived.Maps.RangeRun
import Derived.Laws.Pointers
import Derived.Test.YtfgakofjkldcjaaProg
import Derived.KernelRfl
namespace Go.Proofs.Ytfgakofjkldcjaa
open Go Go.Sx
theorem mixed : Try.prog.follows .mixedOrders = true := by kernel_rfl
theorem el2 : El Try.prog 2 1 8 (.int .i64 0) := El.mk (by kernel_rfl) (by first | rfl | simp [Value.cells]) (by decide)
theorem sz2 : Sz Try.prog 2 1 := el2.sz
theorem el3 : El Try.prog 3 1 8 (.int .i64 0) := El.mk (by kernel_rfl) (by first | rfl | simp [Value.cells]) (by decide)
theorem sz3 : Sz Try.prog 3 1 := el3.sz
theorem z3 : Zr Try.prog 3 (.int .i64 0) := el3.zr
theorem na3 : NotAgg Try.prog 3 := ⟨_, Try.underlying3, rfl⟩
theorem el4 : El Try.prog 4 1 1 (.bool false) := El.mk (by kernel_rfl) (by first | rfl | simp [Value.cells]) (by decide)
theorem sz4 : Sz Try.prog 4 1 := el4.sz
theorem z4 : Zr Try.prog 4 (.bool false) := el4.zr
theorem na4 : NotAgg Try.prog 4 := ⟨_, Try.underlying4, rfl⟩
theorem el5 : El Try.prog 5 1 1 (.int .u8 0) := El.mk (by kernel_rfl) (by first | rfl | simp [Value.cells]) (by decide)
theorem z5 : Zr Try.prog 5 (.int .u8 0) := el5.zr
theorem el9 : El Try.prog 9 1 16 (.string ⟨#[]⟩) := El.mk (by kernel_rfl) (by first | rfl | simp [Value.cells]) (by decide)
theorem z9 : Zr Try.prog 9 (.string ⟨#[]⟩) := el9.zr
theorem el11 : El Try.prog 11 1 16 (.string ⟨#[]⟩) := El.mk (by kernel_rfl) (by first | rfl | simp [Value.cells]) (by decide)
theorem z11 : Zr Try.prog 11 (.string ⟨#[]⟩) := el11.zr
theorem el14 : El Try.prog 14 2 24 (.agg #[.string ⟨#[]⟩, .int .u64 0]) := El.mk (by kernel_rfl) (by first | rfl | simp [Value.cells]) (by decide)
theorem z14 : Zr Try.prog 14 (.agg #[.string ⟨#[]⟩, .int .u64 0]) := el14.zr
theorem el15 : El Try.prog 15 1 8 (.pointer none) := El.mk (by kernel_rfl) (by first | rfl | simp [Value.cells]) (by decide)
theorem z15 : Zr Try.prog 15 (.pointer none) := el15.zr
theorem el17 : El Try.prog 17 1 8 (.pointer none) := El.mk (by kernel_rfl) (by first | rfl | simp [Value.cells]) (by decide)
theorem z17 : Zr Try.prog 17 (.pointer none) := el17.zr
theorem el18 : El Try.prog 18 1 8 (.agg #[.pointer none]) := El.mk (by kernel_rfl) (by first | rfl | simp [Value.cells]) (by decide)
theorem z18 : Zr Try.prog 18 (.agg #[.pointer none]) := el18.zr
theorem el22 : El Try.prog 22 1 24 (.slice none 0 0) := El.mk (by kernel_rfl) (by first | rfl | simp [Value.cells]) (by decide)
theorem z22 : Zr Try.prog 22 (.slice none 0 0) := el22.zr
theorem el23 : El Try.prog 23 1 8 (.nilFunc) := El.mk (by kernel_rfl) (by first | rfl | simp [Value.cells]) (by decide)
theorem z23 : Zr Try.prog 23 (.nilFunc) := el23.zr
theorem el24 : El Try.prog 24 1 8 (.nilFunc) := El.mk (by kernel_rfl) (by first | rfl | simp [Value.cells]) (by decide)
theorem z24 : Zr Try.prog 24 (.nilFunc) := el24.zr
theorem el25 : El Try.prog 25 1 8 (.pointer none) := El.mk (by kernel_rfl) (by first | rfl | simp [Value.cells]) (by decide)
theorem z25 : Zr Try.prog 25 (.pointer none) := el25.zr
theorem el26 : El Try.prog 26 1 8 (.nilFunc) := El.mk (by kernel_rfl) (by first | rfl | simp [Value.cells]) (by decide)
theorem z26 : Zr Try.prog 26 (.nilFunc) := el26.zr
theorem el27 : El Try.prog 27 1 8 (.pointer none) := El.mk (by kernel_rfl) (by first | rfl | simp [Value.cells]) (by decide)
theorem z27 : Zr Try.prog 27 (.pointer none) := el27.zr
theorem el28 : El Try.prog 28 1 8 (.nilFunc) := El.mk (by kernel_rfl) (by first | rfl | simp [Value.cells]) (by decide)
theorem z28 : Zr Try.prog 28 (.nilFunc) := el28.zr
theorem el30 : El Try.prog 30 1 8 (.int .u64 0) := El.mk (by kernel_rfl) (by first | rfl | simp [Value.cells]) (by decide)
theorem sz30 : Sz Try.prog 30 1 := el30.sz
theorem na30 : NotAgg Try.prog 30 := ⟨_, Try.underlying30, rfl⟩
theorem el31 : El Try.prog 31 1 8 (.int .u64 0) := El.mk (by kernel_rfl) (by first | rfl | simp [Value.cells]) (by decide)
theorem sz31 : Sz Try.prog 31 1 := el31.sz
theorem na31 : NotAgg Try.prog 31 := ⟨_, Try.underlying31, rfl⟩
theorem el32 : El Try.prog 32 6 48 (.agg #[.int .i64 0, .int .i64 0, .int .i64 0, .int .i64 0, .int .u64 0, .int .u64 0]) := El.mk (by kernel_rfl) (by first | rfl | simp [Value.cells]) (by decide)
theorem z32 : Zr Try.prog 32 (.agg #[.int .i64 0, .int .i64 0, .int .i64 0, .int .i64 0, .int .u64 0, .int .u64 0]) := el32.zr
theorem el33 : El Try.prog 33 6 48 (.agg #[.int .i64 0, .int .i64 0, .int .i64 0, .int .i64 0, .int .u64 0, .int .u64 0]) := El.mk (by kernel_rfl) (by first | rfl | simp [Value.cells]) (by decide)
theorem sz33 : Sz Try.prog 33 6 := el33.sz
theorem z33 : Zr Try.prog 33 (.agg #[.int .i64 0, .int .i64 0, .int .i64 0, .int .i64 0, .int .u64 0, .int .u64 0]) := el33.zr
theorem ag33 : IsAgg Try.prog 33 6 := ⟨_, Try.underlying33, rfl, sz33⟩
theorem el35 : El Try.prog 35 13 104 (.agg #[.int .i64 0, .int .i64 0, .int .u64 0, .int .i64 0, .int .i64 0, .int .i64 0, .int .i64 0, .int .i64 0, .int .i64 0, .int .i64 0, .int .u64 0, .int .u64 0, .int .i64 0]) := El.mk (by kernel_rfl) (by first | rfl | simp [Value.cells]) (by decide)
theorem sz35 : Sz Try.prog 35 13 := el35.sz
theorem z35 : Zr Try.prog 35 (.agg #[.int .i64 0, .int .i64 0, .int .u64 0, .int .i64 0, .int .i64 0, .int .i64 0, .int .i64 0, .int .i64 0, .int .i64 0, .int .i64 0, .int .u64 0, .int .u64 0, .int .i64 0]) := el35.zr
theorem ag35 : IsAgg Try.prog 35 13 := ⟨_, Try.underlying35, rfl, sz35⟩
theorem el36 : El Try.prog 36 1 8 (.int .i64 0) := El.mk (by kernel_rfl) (by first | rfl | simp [Value.cells]) (by decide)
theorem z36 : Zr Try.prog 36 (.int .i64 0) := el36.zr
theorem el37 : El Try.prog 37 1 8 (.nilFunc) := El.mk (by kernel_rfl) (by first | rfl | simp [Value.cells]) (by decide)
theorem z37 : Zr Try.prog 37 (.nilFunc) := el37.zr
theorem el38 : El Try.prog 38 1 24 (.slice none 0 0) := El.mk (by kernel_rfl) (by first | rfl | simp [Value.cells]) (by decide)
theorem z38 : Zr Try.prog 38 (.slice none 0 0) := el38.zr
theorem el40 : El Try.prog 40 1 8 (.nilFunc) := El.mk (by kernel_rfl) (by first | rfl | simp [Value.cells]) (by decide)
theorem z40 : Zr Try.prog 40 (.nilFunc) := el40.zr
theorem el41 : El Try.prog 41 1 24 (.slice none 0 0) := El.mk (by kernel_rfl) (by first | rfl | simp [Value.cells]) (by decide)
theorem z41 : Zr Try.prog 41 (.slice none 0 0) := el41.zr
theorem el44 : El Try.prog 44 6 48 (.agg #[.int .i64 0, .int .i64 0, .int .i64 0, .int .i64 0, .int .u64 0, .int .u64 0]) := El.mk (by kernel_rfl) (by first | rfl | simp [Value.cells]) (by decide)
theorem sz44 : Sz Try.prog 44 6 := el44.sz
theorem z44 : Zr Try.prog 44 (.agg #[.int .i64 0, .int .i64 0, .int .i64 0, .int .i64 0, .int .u64 0, .int .u64 0]) := el44.zr
theorem eg44 : Try.prog.eqGuardType Try.prog.depth 44 = false := by kernel_rfl
theorem ag44 : IsAgg Try.prog 44 6 := ⟨_, Try.underlying44, rfl, sz44⟩
theorem el46 : El Try.prog 46 1 24 (.slice none 0 0) := El.mk (by kernel_rfl) (by first | rfl | simp [Value.cells]) (by decide)
theorem sz46 : Sz Try.prog 46 1 := el46.sz
theorem z46 : Zr Try.prog 46 (.slice none 0 0) := el46.zr
theorem na46 : NotAgg Try.prog 46 := ⟨_, Try.underlying46, rfl⟩
theorem el49 : El Try.prog 49 1 24 (.slice none 0 0) := El.mk (by kernel_rfl) (by first | rfl | simp [Value.cells]) (by decide)
theorem sz49 : Sz Try.prog 49 1 := el49.sz
theorem na49 : NotAgg Try.prog 49 := ⟨_, Try.underlying49, rfl⟩
theorem el52 : El Try.prog 52 1 8 (.nilFunc) := El.mk (by kernel_rfl) (by first | rfl | simp [Value.cells]) (by decide)
theorem z52 : Zr Try.prog 52 (.nilFunc) := el52.zr
theorem el53 : El Try.prog 53 1 24 (.slice none 0 0) := El.mk (by kernel_rfl) (by first | rfl | simp [Value.cells]) (by decide)
theorem z53 : Zr Try.prog 53 (.slice none 0 0) := el53.zr
theorem el54 : El Try.prog 54 1 8 (.nilFunc) := El.mk (by kernel_rfl) (by first | rfl | simp [Value.cells]) (by decide)
theorem z54 : Zr Try.prog 54 (.nilFunc) := el54.zr
theorem el55 : El Try.prog 55 1 8 (.nilFunc) := El.mk (by kernel_rfl) (by first | rfl | simp [Value.cells]) (by decide)
theorem z55 : Zr Try.prog 55 (.nilFunc) := el55.zr
theorem el56 : El Try.prog 56 3 24 (.agg #[.int .i64 0, .int .i64 0, .int .u64 0]) := El.mk (by kernel_rfl) (by first | rfl | simp [Value.cells]) (by decide)
theorem z56 : Zr Try.prog 56 (.agg #[.int .i64 0, .int .i64 0, .int .u64 0]) := el56.zr
theorem el57 : El Try.prog 57 3 24 (.agg #[.int .i64 0, .int .i64 0, .int .u64 0]) := El.mk (by kernel_rfl) (by first | rfl | simp [Value.cells]) (by decide)
theorem sz57 : Sz Try.prog 57 3 := el57.sz
theorem z57 : Zr Try.prog 57 (.agg #[.int .i64 0, .int .i64 0, .int .u64 0]) := el57.zr
theorem eg57 : Try.prog.eqGuardType Try.prog.depth 57 = false := by kernel_rfl
theorem ag57 : IsAgg Try.prog 57 3 := ⟨_, Try.underlying57, rfl, sz57⟩
theorem el63 : El Try.prog 63 2 48 (.agg #[.slice none 0 0, .slice none 0 0]) := El.mk (by kernel_rfl) (by first | rfl | simp [Value.cells]) (by decide)
theorem z63 : Zr Try.prog 63 (.agg #[.slice none 0 0, .slice none 0 0]) := el63.zr
theorem el68 : El Try.prog 68 1 8 (.nilFunc) := El.mk (by kernel_rfl) (by first | rfl | simp [Value.cells]) (by decide)
theorem z68 : Zr Try.prog 68 (.nilFunc) := el68.zr
theorem el69 : El Try.prog 69 1 8 (.nilFunc) := El.mk (by kernel_rfl) (by first | rfl | simp [Value.cells]) (by decide)
theorem z69 : Zr Try.prog 69 (.nilFunc) := el69.zr
theorem el70 : El Try.prog 70 1 8 (.nilFunc) := El.mk (by kernel_rfl) (by first | rfl | simp [Value.cells]) (by decide)
theorem z70 : Zr Try.prog 70 (.nilFunc) := el70.zr
theorem el71 : El Try.prog 71 1 8 (.nilFunc) := El.mk (by kernel_rfl) (by first | rfl | simp [Value.cells]) (by decide)
theorem z71 : Zr Try.prog 71 (.nilFunc) := el71.zr
theorem el72 : El Try.prog 72 1 8 (.nilFunc) := El.mk (by kernel_rfl) (by first | rfl | simp [Value.cells]) (by decide)
theorem z72 : Zr Try.prog 72 (.nilFunc) := el72.zr
theorem el73 : El Try.prog 73 5 40 (.agg #[.int .i64 0, .int .i64 0, .int .i64 0, .int .i64 0, .int .i64 0]) := El.mk (by kernel_rfl) (by first | rfl | simp [Value.cells]) (by decide)
theorem z73 : Zr Try.prog 73 (.agg #[.int .i64 0, .int .i64 0, .int .i64 0, .int .i64 0, .int .i64 0]) := el73.zr
theorem el84 : El Try.prog 84 1 8 (.nilFunc) := El.mk (by kernel_rfl) (by first | rfl | simp [Value.cells]) (by decide)
theorem z84 : Zr Try.prog 84 (.nilFunc) := el84.zr
theorem el86 : El Try.prog 86 1 8 (.nilFunc) := El.mk (by kernel_rfl) (by first | rfl | simp [Value.cells]) (by decide)
theorem z86 : Zr Try.prog 86 (.nilFunc) := el86.zr
theorem el87 : El Try.prog 87 1 8 (.nilFunc) := El.mk (by kernel_rfl) (by first | rfl | simp [Value.cells]) (by decide)
theorem z87 : Zr Try.prog 87 (.nilFunc) := el87.zr
theorem el88 : El Try.prog 88 32 32 (.agg (List.replicate 32 (.int .u8 0)).toArray) := El.mk (by kernel_rfl) (by first | rfl | simp [Value.cells]) (by decide)
theorem z88 : Zr Try.prog 88 (.agg (List.replicate 32 (.int .u8 0)).toArray) := el88.zr
theorem el89 : El Try.prog 89 32 32 (.agg (List.replicate 32 (.int .u8 0)).toArray) := El.mk (by kernel_rfl) (by first | rfl | simp [Value.cells]) (by decide)
theorem z89 : Zr Try.prog 89 (.agg (List.replicate 32 (.int .u8 0)).toArray) := el89.zr
theorem el92 : El Try.prog 92 1 8 (.nilFunc) := El.mk (by kernel_rfl) (by first | rfl | simp [Value.cells]) (by decide)
theorem z92 : Zr Try.prog 92 (.nilFunc) := el92.zr
theorem el93 : El Try.prog 93 1 8 (.nilFunc) := El.mk (by kernel_rfl) (by first | rfl | simp [Value.cells]) (by decide)
theorem z93 : Zr Try.prog 93 (.nilFunc) := el93.zr
theorem el94 : El Try.prog 94 6 48 (.agg #[.int .i64 0, .int .i64 0, .int .i64 0, .int .i64 0, .int .u64 0, .int .u64 0]) := El.mk (by kernel_rfl) (by first | rfl | simp [Value.cells]) (by decide)
theorem z94 : Zr Try.prog 94 (.agg #[.int .i64 0, .int .i64 0, .int .i64 0, .int .i64 0, .int .u64 0, .int .u64 0]) := el94.zr
theorem el95 : El Try.prog 95 6 48 (.agg #[.int .i64 0, .int .i64 0, .int .i64 0, .int .i64 0, .int .u64 0, .int .u64 0]) := El.mk (by kernel_rfl) (by first | rfl | simp [Value.cells]) (by decide)
theorem z95 : Zr Try.prog 95 (.agg #[.int .i64 0, .int .i64 0, .int .i64 0, .int .i64 0, .int .u64 0, .int .u64 0]) := el95.zr
theorem el96 : El Try.prog 96 1 8 (.nilFunc) := El.mk (by kernel_rfl) (by first | rfl | simp [Value.cells]) (by decide)
theorem z96 : Zr Try.prog 96 (.nilFunc) := el96.zr
theorem el97 : El Try.prog 97 1 8 (.nilFunc) := El.mk (by kernel_rfl) (by first | rfl | simp [Value.cells]) (by decide)
theorem z97 : Zr Try.prog 97 (.nilFunc) := el97.zr
theorem el98 : El Try.prog 98 1 8 (.nilFunc) := El.mk (by kernel_rfl) (by first | rfl | simp [Value.cells]) (by decide)
theorem z98 : Zr Try.prog 98 (.nilFunc) := el98.zr
theorem el99 : El Try.prog 99 3 24 (.agg #[.int .i64 0, .int .i64 0, .int .i64 0]) := El.mk (by kernel_rfl) (by first | rfl | simp [Value.cells]) (by decide)
theorem z99 : Zr Try.prog 99 (.agg #[.int .i64 0, .int .i64 0, .int .i64 0]) := el99.zr
theorem el101 : El Try.prog 101 5 40 (.agg #[.int .i64 0, .int .i64 0, .int .i64 0, .int .u64 0, .int .i64 0]) := El.mk (by kernel_rfl) (by first | rfl | simp [Value.cells]) (by decide)
theorem z101 : Zr Try.prog 101 (.agg #[.int .i64 0, .int .i64 0, .int .i64 0, .int .u64 0, .int .i64 0]) := el101.zr
theorem el102 : El Try.prog 102 5 40 (.agg #[.int .i64 0, .int .i64 0, .int .i64 0, .int .u64 0, .int .i64 0]) := El.mk (by kernel_rfl) (by first | rfl | simp [Value.cells]) (by decide)
theorem z102 : Zr Try.prog 102 (.agg #[.int .i64 0, .int .i64 0, .int .i64 0, .int .u64 0, .int .i64 0]) := el102.zr
theorem el104 : El Try.prog 104 1 8 (.nilFunc) := El.mk (by kernel_rfl) (by first | rfl | simp [Value.cells]) (by decide)
theorem z104 : Zr Try.prog 104 (.nilFunc) := el104.zr
theorem el105 : El Try.prog 105 1 8 (.nilFunc) := El.mk (by kernel_rfl) (by first | rfl | simp [Value.cells]) (by decide)
theorem z105 : Zr Try.prog 105 (.nilFunc) := el105.zr
theorem el106 : El Try.prog 106 1 8 (.nilFunc) := El.mk (by kernel_rfl) (by first | rfl | simp [Value.cells]) (by decide)
theorem z106 : Zr Try.prog 106 (.nilFunc) := el106.zr
theorem el107 : El Try.prog 107 1 24 (.slice none 0 0) := El.mk (by kernel_rfl) (by first | rfl | simp [Value.cells]) (by decide)
theorem z107 : Zr Try.prog 107 (.slice none 0 0) := el107.zr
theorem el109 : El Try.prog 109 1 8 (.nilFunc) := El.mk (by kernel_rfl) (by first | rfl | simp [Value.cells]) (by decide)
theorem z109 : Zr Try.prog 109 (.nilFunc) := el109.zr
theorem el114 : El Try.prog 114 1 8 (.map none) := El.mk (by kernel_rfl) (by first | rfl | simp [Value.cells]) (by decide)
theorem sz114 : Sz Try.prog 114 1 := el114.sz
theorem na114 : NotAgg Try.prog 114 := ⟨_, Try.underlying114, rfl⟩
theorem el115 : El Try.prog 115 1 8 (.map none) := El.mk (by kernel_rfl) (by first | rfl | simp [Value.cells]) (by decide)
theorem sz115 : Sz Try.prog 115 1 := el115.sz
theorem na115 : NotAgg Try.prog 115 := ⟨_, Try.underlying115, rfl⟩
theorem el117 : El Try.prog 117 2 16 (.agg #[.map none, .map none]) := El.mk (by kernel_rfl) (by first | rfl | simp [Value.cells]) (by decide)
theorem z117 : Zr Try.prog 117 (.agg #[.map none, .map none]) := el117.zr
theorem el118 : El Try.prog 118 1 24 (.slice none 0 0) := El.mk (by kernel_rfl) (by first | rfl | simp [Value.cells]) (by decide)
theorem sz118 : Sz Try.prog 118 1 := el118.sz
theorem na118 : NotAgg Try.prog 118 := ⟨_, Try.underlying118, rfl⟩
theorem el120 : El Try.prog 120 1 24 (.agg #[.slice none 0 0]) := El.mk (by kernel_rfl) (by first | rfl | simp [Value.cells]) (by decide)
theorem z120 : Zr Try.prog 120 (.agg #[.slice none 0 0]) := el120.zr
theorem el123 : El Try.prog 123 1 8 (.pointer none) := El.mk (by kernel_rfl) (by first | rfl | simp [Value.cells]) (by decide)
theorem z123 : Zr Try.prog 123 (.pointer none) := el123.zr
theorem el126 : El Try.prog 126 8 72 (.agg #[.int .u64 0, .int .i64 0, .int .i64 0, .int .i64 0, .slice none 0 0, .int .i64 0, .bool false, .bool false]) := El.mk (by kernel_rfl) (by first | rfl | simp [Value.cells]) (by decide)
theorem z126 : Zr Try.prog 126 (.agg #[.int .u64 0, .int .i64 0, .int .i64 0, .int .i64 0, .slice none 0 0, .int .i64 0, .bool false, .bool false]) := el126.zr
theorem el130 : El Try.prog 130 8 72 (.agg #[.int .i64 0, .int .u64 0, .int .i64 0, .int .i64 0, .int .i64 0, .slice none 0 0, .bool false, .bool false]) := El.mk (by kernel_rfl) (by first | rfl | simp [Value.cells]) (by decide)
theorem z130 : Zr Try.prog 130 (.agg #[.int .i64 0, .int .u64 0, .int .i64 0, .int .i64 0, .int .i64 0, .slice none 0 0, .bool false, .bool false]) := el130.zr
theorem el131 : El Try.prog 131 1 8 (.pointer none) := El.mk (by kernel_rfl) (by first | rfl | simp [Value.cells]) (by decide)
theorem sz131 : Sz Try.prog 131 1 := el131.sz
theorem na131 : NotAgg Try.prog 131 := ⟨_, Try.underlying131, rfl⟩
theorem el135 : El Try.prog 135 2 16 (.agg #[.int .i64 0, .int .i64 0]) := El.mk (by kernel_rfl) (by first | rfl | simp [Value.cells]) (by decide)
theorem z135 : Zr Try.prog 135 (.agg #[.int .i64 0, .int .i64 0]) := el135.zr
theorem el139 : El Try.prog 139 3 24 (.agg #[.int .i64 0, .int .i64 0, .int .u64 0]) := El.mk (by kernel_rfl) (by first | rfl | simp [Value.cells]) (by decide)
theorem sz139 : Sz Try.prog 139 3 := el139.sz
theorem z139 : Zr Try.prog 139 (.agg #[.int .i64 0, .int .i64 0, .int .u64 0]) := el139.zr
theorem eg139 : Try.prog.eqGuardType Try.prog.depth 139 = false := by kernel_rfl
theorem ag139 : IsAgg Try.prog 139 3 := ⟨_, Try.underlying139, rfl, sz139⟩
theorem go13 : IsGo Try.prog 13 := ⟨_, Try.func13, rfl, by decide⟩
theorem go14 : IsGo Try.prog 14 := ⟨_, Try.func14, rfl, by decide⟩
theorem go15 : IsGo Try.prog 15 := ⟨_, Try.func15, rfl, by decide⟩
theorem go16 : IsGo Try.prog 16 := ⟨_, Try.func16, rfl, by decide⟩
theorem go17 : IsGo Try.prog 17 := ⟨_, Try.func17, rfl, by decide⟩
theorem go18 : IsGo Try.prog 18 := ⟨_, Try.func18, rfl, by decide⟩
theorem go19 : IsGo Try.prog 19 := ⟨_, Try.func19, rfl, by decide⟩
theorem go20 : IsGo Try.prog 20 := ⟨_, Try.func20, rfl, by decide⟩
theorem go21 : IsGo Try.prog 21 := ⟨_, Try.func21, rfl, by decide⟩
theorem go22 : IsGo Try.prog 22 := ⟨_, Try.func22, rfl, by decide⟩
theorem go23 : IsGo Try.prog 23 := ⟨_, Try.func23, rfl, by decide⟩
theorem go24 : IsGo Try.prog 24 := ⟨_, Try.func24, rfl, by decide⟩
theorem go25 : IsGo Try.prog 25 := ⟨_, Try.func25, rfl, by decide⟩
theorem go26 : IsGo Try.prog 26 := ⟨_, Try.func26, rfl, by decide⟩
theorem go27 : IsGo Try.prog 27 := ⟨_, Try.func27, rfl, by decide⟩
theorem go28 : IsGo Try.prog 28 := ⟨_, Try.func28, rfl, by decide⟩
theorem go29 : IsGo Try.prog 29 := ⟨_, Try.func29, rfl, by decide⟩
theorem go30 : IsGo Try.prog 30 := ⟨_, Try.func30, rfl, by decide⟩
theorem go49 : IsGo Try.prog 49 := ⟨_, Try.func49, rfl, by decide⟩
theorem go55 : IsGo Try.prog 55 := ⟨_, Try.func55, rfl, by decide⟩
theorem go58 : IsGo Try.prog 58 := ⟨_, Try.func58, rfl, by decide⟩
theorem go59 : IsGo Try.prog 59 := ⟨_, Try.func59, rfl, by decide⟩
theorem go60 : IsGo Try.prog 60 := ⟨_, Try.func60, rfl, by decide⟩
theorem go61 : IsGo Try.prog 61 := ⟨_, Try.func61, rfl, by decide⟩
theorem go62 : IsGo Try.prog 62 := ⟨_, Try.func62, rfl, by decide⟩
theorem go63 : IsGo Try.prog 63 := ⟨_, Try.func63, rfl, by decide⟩
theorem go64 : IsGo Try.prog 64 := ⟨_, Try.func64, rfl, by decide⟩
theorem go65 : IsGo Try.prog 65 := ⟨_, Try.func65, rfl, by decide⟩
theorem go66 : IsGo Try.prog 66 := ⟨_, Try.func66, rfl, by decide⟩
theorem go67 : IsGo Try.prog 67 := ⟨_, Try.func67, rfl, by decide⟩
theorem go68 : IsGo Try.prog 68 := ⟨_, Try.func68, rfl, by decide⟩
theorem go69 : IsGo Try.prog 69 := ⟨_, Try.func69, rfl, by decide⟩
theorem go70 : IsGo Try.prog 70 := ⟨_, Try.func70, rfl, by decide⟩
theorem go71 : IsGo Try.prog 71 := ⟨_, Try.func71, rfl, by decide⟩
theorem go75 : IsGo Try.prog 75 := ⟨_, Try.func75, rfl, by decide⟩
theorem go90 : IsGo Try.prog 90 := ⟨_, Try.func90, rfl, by decide⟩
theorem go93 : IsGo Try.prog 93 := ⟨_, Try.func93, rfl, by decide⟩
theorem go102 : IsGo Try.prog 102 := ⟨_, Try.func102, rfl, by decide⟩
theorem go103 : IsGo Try.prog 103 := ⟨_, Try.func103, rfl, by decide⟩
theorem go120 : IsGo Try.prog 120 := ⟨_, Try.func120, rfl, by decide⟩
theorem go121 : IsGo Try.prog 121 := ⟨_, Try.func121, rfl, by decide⟩
theorem go129 : IsGo Try.prog 129 := ⟨_, Try.func129, rfl, by decide⟩
theorem go138 : IsGo Try.prog 138 := ⟨_, Try.func138, rfl, by decide⟩
theorem go141 : IsGo Try.prog 141 := ⟨_, Try.func141, rfl, by decide⟩
theorem go148 : IsGo Try.prog 148 := ⟨_, Try.func148, rfl, by decide⟩
theorem go157 : IsGo Try.prog 157 := ⟨_, Try.func157, rfl, by decide⟩
theorem go158 : IsGo Try.prog 158 := ⟨_, Try.func158, rfl, by decide⟩
theorem go162 : IsGo Try.prog 162 := ⟨_, Try.func162, rfl, by decide⟩
theorem go163 : IsGo Try.prog 163 := ⟨_, Try.func163, rfl, by decide⟩
theorem go167 : IsGo Try.prog 167 := ⟨_, Try.func167, rfl, by decide⟩
theorem go168 : IsGo Try.prog 168 := ⟨_, Try.func168, rfl, by decide⟩
theorem go179 : IsGo Try.prog 179 := ⟨_, Try.func179, rfl, by decide⟩
theorem go181 : IsGo Try.prog 181 := ⟨_, Try.func181, rfl, by decide⟩
theorem go183 : IsGo Try.prog 183 := ⟨_, Try.func183, rfl, by decide⟩
theorem go184 : IsGo Try.prog 184 := ⟨_, Try.func184, rfl, by decide⟩
end Go.Proofs.Ytfgakofjkldcjaa

namespace Go.Proofs.Ytfgakofjkldcjaa
open Go Go.Sx
theorem fa33_0 : Fat Try.prog 33 0 0 := ⟨_, _, _, Try.underlying33, rfl, rfl, sz3, by decide⟩
theorem fa33_1 : Fat Try.prog 33 1 1 := ⟨_, _, _, Try.underlying33, rfl, rfl, sz3, by decide⟩
theorem fa33_2 : Fat Try.prog 33 2 2 := ⟨_, _, _, Try.underlying33, rfl, rfl, sz3, by decide⟩
theorem fa33_3 : Fat Try.prog 33 3 3 := ⟨_, _, _, Try.underlying33, rfl, rfl, sz3, by decide⟩
theorem fa33_4 : Fat Try.prog 33 4 4 := ⟨_, _, _, Try.underlying33, rfl, rfl, sz31, by decide⟩
theorem fa33_5 : Fat Try.prog 33 5 5 := ⟨_, _, _, Try.underlying33, rfl, rfl, sz30, by decide⟩
theorem pl33 : Pls Try.prog 33 [(0, 1), (1, 1), (2, 1), (3, 1), (4, 1), (5, 1)] := ⟨_, Try.underlying33, fun w => by simp [sz3.run, sz30.run, sz31.run]⟩
theorem fa35_0 : Fat Try.prog 35 0 0 := ⟨_, _, _, Try.underlying35, rfl, rfl, sz3, by decide⟩
theorem fa35_1 : Fat Try.prog 35 1 1 := ⟨_, _, _, Try.underlying35, rfl, rfl, sz3, by decide⟩
theorem fa35_2 : Fat Try.prog 35 2 2 := ⟨_, _, _, Try.underlying35, rfl, rfl, sz30, by decide⟩
theorem fa35_3 : Fat Try.prog 35 3 3 := ⟨_, _, _, Try.underlying35, rfl, rfl, sz3, by decide⟩
theorem fa35_4 : Fat Try.prog 35 4 4 := ⟨_, _, _, Try.underlying35, rfl, rfl, sz3, by decide⟩
theorem fa35_5 : Fat Try.prog 35 5 5 := ⟨_, _, _, Try.underlying35, rfl, rfl, sz3, by decide⟩
theorem fa35_6 : Fat Try.prog 35 6 6 := ⟨_, _, _, Try.underlying35, rfl, rfl, sz33, by decide⟩
theorem fa35_7 : Fat Try.prog 35 7 12 := ⟨_, _, _, Try.underlying35, rfl, rfl, sz3, by decide⟩
theorem fa44_0 : Fat Try.prog 44 0 0 := ⟨_, _, _, Try.underlying44, rfl, rfl, sz3, by decide⟩
theorem fa44_1 : Fat Try.prog 44 1 1 := ⟨_, _, _, Try.underlying44, rfl, rfl, sz3, by decide⟩
theorem fa44_2 : Fat Try.prog 44 2 2 := ⟨_, _, _, Try.underlying44, rfl, rfl, sz3, by decide⟩
theorem fa44_3 : Fat Try.prog 44 3 3 := ⟨_, _, _, Try.underlying44, rfl, rfl, sz3, by decide⟩
theorem fa44_4 : Fat Try.prog 44 4 4 := ⟨_, _, _, Try.underlying44, rfl, rfl, sz31, by decide⟩
theorem fa44_5 : Fat Try.prog 44 5 5 := ⟨_, _, _, Try.underlying44, rfl, rfl, sz30, by decide⟩
theorem fa57_2 : Fat Try.prog 57 2 2 := ⟨_, _, _, Try.underlying57, rfl, rfl, sz30, by decide⟩
theorem pl57 : Pls Try.prog 57 [(0, 1), (1, 1), (2, 1)] := ⟨_, Try.underlying57, fun w => by simp [sz3.run, sz30.run]⟩
theorem fa117_0 : Fat Try.prog 117 0 0 := ⟨_, _, _, Try.underlying117, rfl, rfl, sz114, by decide⟩
theorem fa117_1 : Fat Try.prog 117 1 1 := ⟨_, _, _, Try.underlying117, rfl, rfl, sz115, by decide⟩
theorem pl117 : Pls Try.prog 117 [(0, 1), (1, 1)] := ⟨_, Try.underlying117, fun w => by simp [sz114.run, sz115.run]⟩
theorem fa120_0 : Fat Try.prog 120 0 0 := ⟨_, _, _, Try.underlying120, rfl, rfl, sz118, by decide⟩
theorem pl120 : Pls Try.prog 120 [(0, 1)] := ⟨_, Try.underlying120, fun w => by simp [sz118.run]⟩
theorem fa126_0 : Fat Try.prog 126 0 0 := ⟨_, _, _, Try.underlying126, rfl, rfl, sz30, by decide⟩
theorem fa126_1 : Fat Try.prog 126 1 1 := ⟨_, _, _, Try.underlying126, rfl, rfl, sz3, by decide⟩
theorem fa126_2 : Fat Try.prog 126 2 2 := ⟨_, _, _, Try.underlying126, rfl, rfl, sz3, by decide⟩
theorem fa126_3 : Fat Try.prog 126 3 3 := ⟨_, _, _, Try.underlying126, rfl, rfl, sz3, by decide⟩
theorem fa126_4 : Fat Try.prog 126 4 4 := ⟨_, _, _, Try.underlying126, rfl, rfl, sz46, by decide⟩
theorem fa126_5 : Fat Try.prog 126 5 5 := ⟨_, _, _, Try.underlying126, rfl, rfl, sz3, by decide⟩
theorem fa126_6 : Fat Try.prog 126 6 6 := ⟨_, _, _, Try.underlying126, rfl, rfl, sz4, by decide⟩
theorem fa126_7 : Fat Try.prog 126 7 7 := ⟨_, _, _, Try.underlying126, rfl, rfl, sz4, by decide⟩
theorem pl126 : Pls Try.prog 126 [(0, 1), (1, 1), (2, 1), (3, 1), (4, 1), (5, 1), (6, 1), (7, 1)] := ⟨_, Try.underlying126, fun w => by simp [sz3.run, sz4.run, sz30.run, sz46.run]⟩
theorem fa130_0 : Fat Try.prog 130 0 0 := ⟨_, _, _, Try.underlying130, rfl, rfl, sz3, by decide⟩
theorem fa130_1 : Fat Try.prog 130 1 1 := ⟨_, _, _, Try.underlying130, rfl, rfl, sz30, by decide⟩
theorem fa130_2 : Fat Try.prog 130 2 2 := ⟨_, _, _, Try.underlying130, rfl, rfl, sz3, by decide⟩
theorem fa130_3 : Fat Try.prog 130 3 3 := ⟨_, _, _, Try.underlying130, rfl, rfl, sz3, by decide⟩
theorem fa130_4 : Fat Try.prog 130 4 4 := ⟨_, _, _, Try.underlying130, rfl, rfl, sz3, by decide⟩
theorem fa130_5 : Fat Try.prog 130 5 5 := ⟨_, _, _, Try.underlying130, rfl, rfl, sz49, by decide⟩
theorem fa130_6 : Fat Try.prog 130 6 6 := ⟨_, _, _, Try.underlying130, rfl, rfl, sz4, by decide⟩
theorem fa130_7 : Fat Try.prog 130 7 7 := ⟨_, _, _, Try.underlying130, rfl, rfl, sz4, by decide⟩
theorem pl130 : Pls Try.prog 130 [(0, 1), (1, 1), (2, 1), (3, 1), (4, 1), (5, 1), (6, 1), (7, 1)] := ⟨_, Try.underlying130, fun w => by simp [sz3.run, sz4.run, sz30.run, sz49.run]⟩
theorem pl135 : Pls Try.prog 135 [(0, 1), (1, 1)] := ⟨_, Try.underlying135, fun w => by simp [sz3.run]⟩
theorem pl139 : Pls Try.prog 139 [(0, 1), (1, 1), (2, 1)] := ⟨_, Try.underlying139, fun w => by simp [sz3.run, sz30.run]⟩
end Go.Proofs.Ytfgakofjkldcjaa

