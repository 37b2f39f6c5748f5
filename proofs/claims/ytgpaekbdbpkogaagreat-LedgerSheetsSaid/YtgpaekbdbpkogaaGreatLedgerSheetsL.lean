/- LedgerSheets: for every input the law answers true and leaves its arguments as they were. -/
import Derived.Test.YtgpaekbdbpkogaaGreatLedgerSheetsK
import Derived.Test.YtgpaekbdbpkogaaGreatProg
import Derived.KernelRfl
set_option linter.unusedVariables false
set_option linter.unusedSimpArgs false
namespace Go.Proofs.YtgpaekbdbpkogaaGreat
open Tryz
open Go Go.Sx
theorem mixed : prog.follows .mixedOrders = true := by kernel_rfl
theorem el2 : El prog 2 1 8 (.int .i64 0) := El.mk (by kernel_rfl) (by first | rfl | simp [Value.cells]) (by decide)
theorem z2 : Zr prog 2 (.int .i64 0) := el2.zr
theorem el3 : El prog 3 1 8 (.int .i64 0) := El.mk (by kernel_rfl) (by first | rfl | simp [Value.cells]) (by decide)
theorem sz3 : Sz prog 3 1 := el3.sz
theorem z3 : Zr prog 3 (.int .i64 0) := el3.zr
theorem na3 : NotAgg prog 3 := ⟨_, underlying3, rfl⟩
theorem el4 : El prog 4 1 1 (.bool false) := El.mk (by kernel_rfl) (by first | rfl | simp [Value.cells]) (by decide)
theorem z4 : Zr prog 4 (.bool false) := el4.zr
theorem el5 : El prog 5 1 1 (.int .u8 0) := El.mk (by kernel_rfl) (by first | rfl | simp [Value.cells]) (by decide)
theorem sz5 : Sz prog 5 1 := el5.sz
theorem z5 : Zr prog 5 (.int .u8 0) := el5.zr
theorem na5 : NotAgg prog 5 := ⟨_, underlying5, rfl⟩
theorem el9 : El prog 9 1 16 (.string ⟨#[]⟩) := El.mk (by kernel_rfl) (by first | rfl | simp [Value.cells]) (by decide)
theorem z9 : Zr prog 9 (.string ⟨#[]⟩) := el9.zr
theorem el22 : El prog 22 32 32 (.agg (List.replicate 32 (.int .u8 0)).toArray) := El.mk (by kernel_rfl) (by first | rfl | simp [Value.cells]) (by decide)
theorem z22 : Zr prog 22 (.agg (List.replicate 32 (.int .u8 0)).toArray) := el22.zr
theorem el23 : El prog 23 32 32 (.agg (List.replicate 32 (.int .u8 0)).toArray) := El.mk (by kernel_rfl) (by first | rfl | simp [Value.cells]) (by decide)
theorem sz23 : Sz prog 23 32 := el23.sz
theorem z23 : Zr prog 23 (.agg (List.replicate 32 (.int .u8 0)).toArray) := el23.zr
theorem ag23 : IsAgg prog 23 32 := ⟨_, underlying23, rfl, sz23⟩
theorem el24 : El prog 24 64 64 (.agg (List.replicate 64 (.int .u8 0)).toArray) := El.mk (by kernel_rfl) (by first | rfl | simp [Value.cells]) (by decide)
theorem sz24 : Sz prog 24 64 := el24.sz
theorem z24 : Zr prog 24 (.agg (List.replicate 64 (.int .u8 0)).toArray) := el24.zr
theorem el25 : El prog 25 1 4 (.int .u32 0) := El.mk (by kernel_rfl) (by first | rfl | simp [Value.cells]) (by decide)
theorem sz25 : Sz prog 25 1 := el25.sz
theorem z25 : Zr prog 25 (.int .u32 0) := el25.zr
theorem na25 : NotAgg prog 25 := ⟨_, underlying25, rfl⟩
theorem el26 : El prog 26 1 24 (.slice none 0 0) := El.mk (by kernel_rfl) (by first | rfl | simp [Value.cells]) (by decide)
theorem sz26 : Sz prog 26 1 := el26.sz
theorem z26 : Zr prog 26 (.slice none 0 0) := el26.zr
theorem na26 : NotAgg prog 26 := ⟨_, underlying26, rfl⟩
theorem el27 : El prog 27 1 2 (.int .u16 0) := El.mk (by kernel_rfl) (by first | rfl | simp [Value.cells]) (by decide)
theorem sz27 : Sz prog 27 1 := el27.sz
theorem z27 : Zr prog 27 (.int .u16 0) := el27.zr
theorem na27 : NotAgg prog 27 := ⟨_, underlying27, rfl⟩
theorem el28 : El prog 28 102 144 (.agg #[.int .u8 0, .int .u8 0, .int .u8 0, .int .u8 0, .int .u8 0, .int .u8 0, .int .u8 0, .int .u8 0, .int .u8 0, .int .u8 0, .int .u8 0, .int .u8 0, .int .u8 0, .int .u8 0, .int .u8 0, .int .u8 0, .int .u8 0, .int .u8 0, .int .u8 0, .int .u8 0, .int .u8 0, .int .u8 0, .int .u8 0, .int .u8 0, .int .u8 0, .int .u8 0, .int .u8 0, .int .u8 0, .int .u8 0, .int .u8 0, .int .u8 0, .int .u8 0, .int .u8 0, .int .u8 0, .int .u8 0, .int .u8 0, .int .u8 0, .int .u8 0, .int .u8 0, .int .u8 0, .int .u8 0, .int .u8 0, .int .u8 0, .int .u8 0, .int .u8 0, .int .u8 0, .int .u8 0, .int .u8 0, .int .u8 0, .int .u8 0, .int .u8 0, .int .u8 0, .int .u8 0, .int .u8 0, .int .u8 0, .int .u8 0, .int .u8 0, .int .u8 0, .int .u8 0, .int .u8 0, .int .u8 0, .int .u8 0, .int .u8 0, .int .u8 0, .int .u32 0, .int .u32 0, .int .u8 0, .int .u8 0, .slice none 0 0, .int .u16 0, .int .u8 0, .int .u8 0, .int .u8 0, .int .u8 0, .int .u8 0, .int .u8 0, .int .u8 0, .int .u8 0, .int .u8 0, .int .u8 0, .int .u8 0, .int .u8 0, .int .u8 0, .int .u8 0, .int .u8 0, .int .u8 0, .int .u8 0, .int .u8 0, .int .u8 0, .int .u8 0, .int .u8 0, .int .u8 0, .int .u8 0, .int .u8 0, .int .u8 0, .int .u8 0, .int .u8 0, .int .u8 0, .int .u8 0, .int .u8 0, .int .u8 0, .int .u8 0]) := El.mk (by kernel_rfl) (by first | rfl | simp [Value.cells]) (by decide)
theorem z28 : Zr prog 28 (.agg #[.int .u8 0, .int .u8 0, .int .u8 0, .int .u8 0, .int .u8 0, .int .u8 0, .int .u8 0, .int .u8 0, .int .u8 0, .int .u8 0, .int .u8 0, .int .u8 0, .int .u8 0, .int .u8 0, .int .u8 0, .int .u8 0, .int .u8 0, .int .u8 0, .int .u8 0, .int .u8 0, .int .u8 0, .int .u8 0, .int .u8 0, .int .u8 0, .int .u8 0, .int .u8 0, .int .u8 0, .int .u8 0, .int .u8 0, .int .u8 0, .int .u8 0, .int .u8 0, .int .u8 0, .int .u8 0, .int .u8 0, .int .u8 0, .int .u8 0, .int .u8 0, .int .u8 0, .int .u8 0, .int .u8 0, .int .u8 0, .int .u8 0, .int .u8 0, .int .u8 0, .int .u8 0, .int .u8 0, .int .u8 0, .int .u8 0, .int .u8 0, .int .u8 0, .int .u8 0, .int .u8 0, .int .u8 0, .int .u8 0, .int .u8 0, .int .u8 0, .int .u8 0, .int .u8 0, .int .u8 0, .int .u8 0, .int .u8 0, .int .u8 0, .int .u8 0, .int .u32 0, .int .u32 0, .int .u8 0, .int .u8 0, .slice none 0 0, .int .u16 0, .int .u8 0, .int .u8 0, .int .u8 0, .int .u8 0, .int .u8 0, .int .u8 0, .int .u8 0, .int .u8 0, .int .u8 0, .int .u8 0, .int .u8 0, .int .u8 0, .int .u8 0, .int .u8 0, .int .u8 0, .int .u8 0, .int .u8 0, .int .u8 0, .int .u8 0, .int .u8 0, .int .u8 0, .int .u8 0, .int .u8 0, .int .u8 0, .int .u8 0, .int .u8 0, .int .u8 0, .int .u8 0, .int .u8 0, .int .u8 0, .int .u8 0, .int .u8 0]) := el28.zr
theorem el29 : El prog 29 102 144 (.agg #[.int .u8 0, .int .u8 0, .int .u8 0, .int .u8 0, .int .u8 0, .int .u8 0, .int .u8 0, .int .u8 0, .int .u8 0, .int .u8 0, .int .u8 0, .int .u8 0, .int .u8 0, .int .u8 0, .int .u8 0, .int .u8 0, .int .u8 0, .int .u8 0, .int .u8 0, .int .u8 0, .int .u8 0, .int .u8 0, .int .u8 0, .int .u8 0, .int .u8 0, .int .u8 0, .int .u8 0, .int .u8 0, .int .u8 0, .int .u8 0, .int .u8 0, .int .u8 0, .int .u8 0, .int .u8 0, .int .u8 0, .int .u8 0, .int .u8 0, .int .u8 0, .int .u8 0, .int .u8 0, .int .u8 0, .int .u8 0, .int .u8 0, .int .u8 0, .int .u8 0, .int .u8 0, .int .u8 0, .int .u8 0, .int .u8 0, .int .u8 0, .int .u8 0, .int .u8 0, .int .u8 0, .int .u8 0, .int .u8 0, .int .u8 0, .int .u8 0, .int .u8 0, .int .u8 0, .int .u8 0, .int .u8 0, .int .u8 0, .int .u8 0, .int .u8 0, .int .u32 0, .int .u32 0, .int .u8 0, .int .u8 0, .slice none 0 0, .int .u16 0, .int .u8 0, .int .u8 0, .int .u8 0, .int .u8 0, .int .u8 0, .int .u8 0, .int .u8 0, .int .u8 0, .int .u8 0, .int .u8 0, .int .u8 0, .int .u8 0, .int .u8 0, .int .u8 0, .int .u8 0, .int .u8 0, .int .u8 0, .int .u8 0, .int .u8 0, .int .u8 0, .int .u8 0, .int .u8 0, .int .u8 0, .int .u8 0, .int .u8 0, .int .u8 0, .int .u8 0, .int .u8 0, .int .u8 0, .int .u8 0, .int .u8 0, .int .u8 0]) := El.mk (by kernel_rfl) (by first | rfl | simp [Value.cells]) (by decide)
theorem sz29 : Sz prog 29 102 := el29.sz
theorem ag29 : IsAgg prog 29 102 := ⟨_, underlying29, rfl, sz29⟩
theorem el30 : El prog 30 1 24 (.slice none 0 0) := El.mk (by kernel_rfl) (by first | rfl | simp [Value.cells]) (by decide)
theorem sz30 : Sz prog 30 1 := el30.sz
theorem na30 : NotAgg prog 30 := ⟨_, underlying30, rfl⟩
theorem el32 : El prog 32 33 40 (.agg #[.int .u8 0, .int .u8 0, .int .u8 0, .int .u8 0, .int .u8 0, .int .u8 0, .int .u8 0, .int .u8 0, .int .u8 0, .int .u8 0, .int .u8 0, .int .u8 0, .int .u8 0, .int .u8 0, .int .u8 0, .int .u8 0, .int .u8 0, .int .u8 0, .int .u8 0, .int .u8 0, .int .u8 0, .int .u8 0, .int .u8 0, .int .u8 0, .int .u8 0, .int .u8 0, .int .u8 0, .int .u8 0, .int .u8 0, .int .u8 0, .int .u8 0, .int .u8 0, .int .i64 0]) := El.mk (by kernel_rfl) (by first | rfl | simp [Value.cells]) (by decide)
theorem z32 : Zr prog 32 (.agg #[.int .u8 0, .int .u8 0, .int .u8 0, .int .u8 0, .int .u8 0, .int .u8 0, .int .u8 0, .int .u8 0, .int .u8 0, .int .u8 0, .int .u8 0, .int .u8 0, .int .u8 0, .int .u8 0, .int .u8 0, .int .u8 0, .int .u8 0, .int .u8 0, .int .u8 0, .int .u8 0, .int .u8 0, .int .u8 0, .int .u8 0, .int .u8 0, .int .u8 0, .int .u8 0, .int .u8 0, .int .u8 0, .int .u8 0, .int .u8 0, .int .u8 0, .int .u8 0, .int .i64 0]) := el32.zr
theorem el33 : El prog 33 33 40 (.agg #[.int .u8 0, .int .u8 0, .int .u8 0, .int .u8 0, .int .u8 0, .int .u8 0, .int .u8 0, .int .u8 0, .int .u8 0, .int .u8 0, .int .u8 0, .int .u8 0, .int .u8 0, .int .u8 0, .int .u8 0, .int .u8 0, .int .u8 0, .int .u8 0, .int .u8 0, .int .u8 0, .int .u8 0, .int .u8 0, .int .u8 0, .int .u8 0, .int .u8 0, .int .u8 0, .int .u8 0, .int .u8 0, .int .u8 0, .int .u8 0, .int .u8 0, .int .u8 0, .int .i64 0]) := El.mk (by kernel_rfl) (by first | rfl | simp [Value.cells]) (by decide)
theorem sz33 : Sz prog 33 33 := el33.sz
theorem z33 : Zr prog 33 (.agg #[.int .u8 0, .int .u8 0, .int .u8 0, .int .u8 0, .int .u8 0, .int .u8 0, .int .u8 0, .int .u8 0, .int .u8 0, .int .u8 0, .int .u8 0, .int .u8 0, .int .u8 0, .int .u8 0, .int .u8 0, .int .u8 0, .int .u8 0, .int .u8 0, .int .u8 0, .int .u8 0, .int .u8 0, .int .u8 0, .int .u8 0, .int .u8 0, .int .u8 0, .int .u8 0, .int .u8 0, .int .u8 0, .int .u8 0, .int .u8 0, .int .u8 0, .int .u8 0, .int .i64 0]) := el33.zr
theorem el35 : El prog 35 1 8 (.int .u64 0) := El.mk (by kernel_rfl) (by first | rfl | simp [Value.cells]) (by decide)
theorem sz35 : Sz prog 35 1 := el35.sz
theorem z35 : Zr prog 35 (.int .u64 0) := el35.zr
theorem na35 : NotAgg prog 35 := ⟨_, underlying35, rfl⟩
theorem el36 : El prog 36 5 40 (.agg #[.int .u64 0, .int .u64 0, .int .u64 0, .int .u64 0, .int .u64 0]) := El.mk (by kernel_rfl) (by first | rfl | simp [Value.cells]) (by decide)
theorem z36 : Zr prog 36 (.agg #[.int .u64 0, .int .u64 0, .int .u64 0, .int .u64 0, .int .u64 0]) := el36.zr
theorem el37 : El prog 37 5 40 (.agg #[.int .u64 0, .int .u64 0, .int .u64 0, .int .u64 0, .int .u64 0]) := El.mk (by kernel_rfl) (by first | rfl | simp [Value.cells]) (by decide)
theorem sz37 : Sz prog 37 5 := el37.sz
theorem z37 : Zr prog 37 (.agg #[.int .u64 0, .int .u64 0, .int .u64 0, .int .u64 0, .int .u64 0]) := el37.zr
theorem ag37 : IsAgg prog 37 5 := ⟨_, underlying37, rfl, sz37⟩
theorem el38 : El prog 38 10 80 (.agg (List.replicate 10 (.int .u64 0)).toArray) := El.mk (by kernel_rfl) (by first | rfl | simp [Value.cells]) (by decide)
theorem sz38 : Sz prog 38 10 := el38.sz
theorem el40 : El prog 40 6 48 (.agg #[.int .i64 0, .int .i64 0, .int .i64 0, .int .i64 0, .int .i64 0, .int .i64 0]) := El.mk (by kernel_rfl) (by first | rfl | simp [Value.cells]) (by decide)
theorem sz40 : Sz prog 40 6 := el40.sz
theorem z40 : Zr prog 40 (.agg #[.int .i64 0, .int .i64 0, .int .i64 0, .int .i64 0, .int .i64 0, .int .i64 0]) := el40.zr
theorem ag40 : IsAgg prog 40 6 := ⟨_, underlying40, rfl, sz40⟩
theorem el41 : El prog 41 12 96 (.agg (List.replicate 12 (.int .i64 0)).toArray) := El.mk (by kernel_rfl) (by first | rfl | simp [Value.cells]) (by decide)
theorem sz41 : Sz prog 41 12 := el41.sz
theorem z41 : Zr prog 41 (.agg (List.replicate 12 (.int .i64 0)).toArray) := el41.zr
theorem ag41 : IsAgg prog 41 12 := ⟨_, underlying41, rfl, sz41⟩
theorem el43 : El prog 43 57 232 (.agg #[.int .u8 0, .int .u8 0, .int .u8 0, .int .u8 0, .int .u8 0, .int .u8 0, .int .u8 0, .int .u8 0, .int .u8 0, .int .u8 0, .int .u8 0, .int .u8 0, .int .u8 0, .int .u8 0, .int .u8 0, .int .u8 0, .int .u8 0, .int .u8 0, .int .u8 0, .int .u8 0, .int .u8 0, .int .u8 0, .int .u8 0, .int .u8 0, .int .u8 0, .int .u8 0, .int .u8 0, .int .u8 0, .int .u8 0, .int .u8 0, .int .u8 0, .int .u8 0, .int .i64 0, .int .i64 0, .int .u64 0, .int .u64 0, .int .u64 0, .int .u64 0, .int .u64 0, .int .u64 0, .int .u64 0, .int .u64 0, .int .u64 0, .int .u64 0, .int .i64 0, .int .i64 0, .int .i64 0, .int .i64 0, .int .i64 0, .int .i64 0, .int .i64 0, .int .i64 0, .int .i64 0, .int .i64 0, .int .i64 0, .int .i64 0, .int .i64 0]) := El.mk (by kernel_rfl) (by first | rfl | simp [Value.cells]) (by decide)
theorem sz43 : Sz prog 43 57 := el43.sz
theorem z43 : Zr prog 43 (.agg #[.int .u8 0, .int .u8 0, .int .u8 0, .int .u8 0, .int .u8 0, .int .u8 0, .int .u8 0, .int .u8 0, .int .u8 0, .int .u8 0, .int .u8 0, .int .u8 0, .int .u8 0, .int .u8 0, .int .u8 0, .int .u8 0, .int .u8 0, .int .u8 0, .int .u8 0, .int .u8 0, .int .u8 0, .int .u8 0, .int .u8 0, .int .u8 0, .int .u8 0, .int .u8 0, .int .u8 0, .int .u8 0, .int .u8 0, .int .u8 0, .int .u8 0, .int .u8 0, .int .i64 0, .int .i64 0, .int .u64 0, .int .u64 0, .int .u64 0, .int .u64 0, .int .u64 0, .int .u64 0, .int .u64 0, .int .u64 0, .int .u64 0, .int .u64 0, .int .i64 0, .int .i64 0, .int .i64 0, .int .i64 0, .int .i64 0, .int .i64 0, .int .i64 0, .int .i64 0, .int .i64 0, .int .i64 0, .int .i64 0, .int .i64 0, .int .i64 0]) := el43.zr
theorem ag43 : IsAgg prog 43 57 := ⟨_, underlying43, rfl, sz43⟩
theorem el44 : El prog 44 1 8 (.int .u64 0) := El.mk (by kernel_rfl) (by first | rfl | simp [Value.cells]) (by decide)
theorem sz44 : Sz prog 44 1 := el44.sz
theorem z44 : Zr prog 44 (.int .u64 0) := el44.zr
theorem na44 : NotAgg prog 44 := ⟨_, underlying44, rfl⟩
theorem el46 : El prog 46 37 72 (.agg #[.int .u64 0, .int .u64 0, .int .u64 0, .int .u64 0, .int .u64 0, .int .u8 0, .int .u8 0, .int .u8 0, .int .u8 0, .int .u8 0, .int .u8 0, .int .u8 0, .int .u8 0, .int .u8 0, .int .u8 0, .int .u8 0, .int .u8 0, .int .u8 0, .int .u8 0, .int .u8 0, .int .u8 0, .int .u8 0, .int .u8 0, .int .u8 0, .int .u8 0, .int .u8 0, .int .u8 0, .int .u8 0, .int .u8 0, .int .u8 0, .int .u8 0, .int .u8 0, .int .u8 0, .int .u8 0, .int .u8 0, .int .u8 0, .int .u8 0]) := El.mk (by kernel_rfl) (by first | rfl | simp [Value.cells]) (by decide)
theorem sz46 : Sz prog 46 37 := el46.sz
theorem z46 : Zr prog 46 (.agg #[.int .u64 0, .int .u64 0, .int .u64 0, .int .u64 0, .int .u64 0, .int .u8 0, .int .u8 0, .int .u8 0, .int .u8 0, .int .u8 0, .int .u8 0, .int .u8 0, .int .u8 0, .int .u8 0, .int .u8 0, .int .u8 0, .int .u8 0, .int .u8 0, .int .u8 0, .int .u8 0, .int .u8 0, .int .u8 0, .int .u8 0, .int .u8 0, .int .u8 0, .int .u8 0, .int .u8 0, .int .u8 0, .int .u8 0, .int .u8 0, .int .u8 0, .int .u8 0, .int .u8 0, .int .u8 0, .int .u8 0, .int .u8 0, .int .u8 0]) := el46.zr
theorem ag46 : IsAgg prog 46 37 := ⟨_, underlying46, rfl, sz46⟩
theorem el47 : El prog 47 74 144 (.agg #[.int .u64 0, .int .u64 0, .int .u64 0, .int .u64 0, .int .u64 0, .int .u8 0, .int .u8 0, .int .u8 0, .int .u8 0, .int .u8 0, .int .u8 0, .int .u8 0, .int .u8 0, .int .u8 0, .int .u8 0, .int .u8 0, .int .u8 0, .int .u8 0, .int .u8 0, .int .u8 0, .int .u8 0, .int .u8 0, .int .u8 0, .int .u8 0, .int .u8 0, .int .u8 0, .int .u8 0, .int .u8 0, .int .u8 0, .int .u8 0, .int .u8 0, .int .u8 0, .int .u8 0, .int .u8 0, .int .u8 0, .int .u8 0, .int .u8 0, .int .u64 0, .int .u64 0, .int .u64 0, .int .u64 0, .int .u64 0, .int .u8 0, .int .u8 0, .int .u8 0, .int .u8 0, .int .u8 0, .int .u8 0, .int .u8 0, .int .u8 0, .int .u8 0, .int .u8 0, .int .u8 0, .int .u8 0, .int .u8 0, .int .u8 0, .int .u8 0, .int .u8 0, .int .u8 0, .int .u8 0, .int .u8 0, .int .u8 0, .int .u8 0, .int .u8 0, .int .u8 0, .int .u8 0, .int .u8 0, .int .u8 0, .int .u8 0, .int .u8 0, .int .u8 0, .int .u8 0, .int .u8 0, .int .u8 0]) := El.mk (by kernel_rfl) (by first | rfl | simp [Value.cells]) (by decide)
theorem sz47 : Sz prog 47 74 := el47.sz
theorem z47 : Zr prog 47 (.agg #[.int .u64 0, .int .u64 0, .int .u64 0, .int .u64 0, .int .u64 0, .int .u8 0, .int .u8 0, .int .u8 0, .int .u8 0, .int .u8 0, .int .u8 0, .int .u8 0, .int .u8 0, .int .u8 0, .int .u8 0, .int .u8 0, .int .u8 0, .int .u8 0, .int .u8 0, .int .u8 0, .int .u8 0, .int .u8 0, .int .u8 0, .int .u8 0, .int .u8 0, .int .u8 0, .int .u8 0, .int .u8 0, .int .u8 0, .int .u8 0, .int .u8 0, .int .u8 0, .int .u8 0, .int .u8 0, .int .u8 0, .int .u8 0, .int .u8 0, .int .u64 0, .int .u64 0, .int .u64 0, .int .u64 0, .int .u64 0, .int .u8 0, .int .u8 0, .int .u8 0, .int .u8 0, .int .u8 0, .int .u8 0, .int .u8 0, .int .u8 0, .int .u8 0, .int .u8 0, .int .u8 0, .int .u8 0, .int .u8 0, .int .u8 0, .int .u8 0, .int .u8 0, .int .u8 0, .int .u8 0, .int .u8 0, .int .u8 0, .int .u8 0, .int .u8 0, .int .u8 0, .int .u8 0, .int .u8 0, .int .u8 0, .int .u8 0, .int .u8 0, .int .u8 0, .int .u8 0, .int .u8 0, .int .u8 0]) := el47.zr
theorem ag47 : IsAgg prog 47 74 := ⟨_, underlying47, rfl, sz47⟩
theorem el48 : El prog 48 2 16 (.agg #[.int .i64 0, .int .i64 0]) := El.mk (by kernel_rfl) (by first | rfl | simp [Value.cells]) (by decide)
theorem sz48 : Sz prog 48 2 := el48.sz
theorem z48 : Zr prog 48 (.agg #[.int .i64 0, .int .i64 0]) := el48.zr
theorem eg48 : prog.eqGuardType prog.depth 48 = false := by kernel_rfl
theorem ag48 : IsAgg prog 48 2 := ⟨_, underlying48, rfl, sz48⟩
theorem el49 : El prog 49 1 24 (.slice none 0 0) := El.mk (by kernel_rfl) (by first | rfl | simp [Value.cells]) (by decide)
theorem sz49 : Sz prog 49 1 := el49.sz
theorem na49 : NotAgg prog 49 := ⟨_, underlying49, rfl⟩
theorem el51 : El prog 51 5 56 (.agg #[.int .i64 0, .int .i64 0, .int .i64 0, .slice none 0 0, .int .i64 0]) := El.mk (by kernel_rfl) (by first | rfl | simp [Value.cells]) (by decide)
theorem sz51 : Sz prog 51 5 := el51.sz
theorem z51 : Zr prog 51 (.agg #[.int .i64 0, .int .i64 0, .int .i64 0, .slice none 0 0, .int .i64 0]) := el51.zr
theorem ag51 : IsAgg prog 51 5 := ⟨_, underlying51, rfl, sz51⟩
theorem el53 : El prog 53 1 8 (.nilFunc) := El.mk (by kernel_rfl) (by first | rfl | simp [Value.cells]) (by decide)
theorem z53 : Zr prog 53 (.nilFunc) := el53.zr
theorem el56 : El prog 56 1 24 (.slice none 0 0) := El.mk (by kernel_rfl) (by first | rfl | simp [Value.cells]) (by decide)
theorem sz56 : Sz prog 56 1 := el56.sz
theorem na56 : NotAgg prog 56 := ⟨_, underlying56, rfl⟩
theorem el57 : El prog 57 1 8 (.int .i64 0) := El.mk (by kernel_rfl) (by first | rfl | simp [Value.cells]) (by decide)
theorem z57 : Zr prog 57 (.int .i64 0) := el57.zr
theorem el60 : El prog 60 5 40 (.agg #[.int .i64 0, .int .i64 0, .int .i64 0, .int .i64 0, .int .i64 0]) := El.mk (by kernel_rfl) (by first | rfl | simp [Value.cells]) (by decide)
theorem sz60 : Sz prog 60 5 := el60.sz
theorem z60 : Zr prog 60 (.agg #[.int .i64 0, .int .i64 0, .int .i64 0, .int .i64 0, .int .i64 0]) := el60.zr
theorem ag60 : IsAgg prog 60 5 := ⟨_, underlying60, rfl, sz60⟩
theorem el62 : El prog 62 4 16 (.agg #[.int .u8 0, .int .u16 0, .int .u16 0, .int .u64 0]) := El.mk (by kernel_rfl) (by first | rfl | simp [Value.cells]) (by decide)
theorem sz62 : Sz prog 62 4 := el62.sz
theorem z62 : Zr prog 62 (.agg #[.int .u8 0, .int .u16 0, .int .u16 0, .int .u64 0]) := el62.zr
theorem ag62 : IsAgg prog 62 4 := ⟨_, underlying62, rfl, sz62⟩
theorem el63 : El prog 63 1 8 (.nilFunc) := El.mk (by kernel_rfl) (by first | rfl | simp [Value.cells]) (by decide)
theorem z63 : Zr prog 63 (.nilFunc) := el63.zr
theorem el64 : El prog 64 1 8 (.nilFunc) := El.mk (by kernel_rfl) (by first | rfl | simp [Value.cells]) (by decide)
theorem z64 : Zr prog 64 (.nilFunc) := el64.zr
theorem el66 : El prog 66 5 40 (.agg #[.int .i64 0, .int .i64 0, .int .i64 0, .int .u64 0, .int .i64 0]) := El.mk (by kernel_rfl) (by first | rfl | simp [Value.cells]) (by decide)
theorem sz66 : Sz prog 66 5 := el66.sz
theorem z66 : Zr prog 66 (.agg #[.int .i64 0, .int .i64 0, .int .i64 0, .int .u64 0, .int .i64 0]) := el66.zr
theorem ag66 : IsAgg prog 66 5 := ⟨_, underlying66, rfl, sz66⟩
theorem el85 : El prog 85 3 24 (.agg #[.int .i64 0, .int .i64 0, .int .i64 0]) := El.mk (by kernel_rfl) (by first | rfl | simp [Value.cells]) (by decide)
theorem sz85 : Sz prog 85 3 := el85.sz
theorem z85 : Zr prog 85 (.agg #[.int .i64 0, .int .i64 0, .int .i64 0]) := el85.zr
theorem ag85 : IsAgg prog 85 3 := ⟨_, underlying85, rfl, sz85⟩
theorem el97 : El prog 97 1 8 (.map none) := El.mk (by kernel_rfl) (by first | rfl | simp [Value.cells]) (by decide)
theorem sz97 : Sz prog 97 1 := el97.sz
theorem na97 : NotAgg prog 97 := ⟨_, underlying97, rfl⟩
theorem el98 : El prog 98 1 8 (.map none) := El.mk (by kernel_rfl) (by first | rfl | simp [Value.cells]) (by decide)
theorem sz98 : Sz prog 98 1 := el98.sz
theorem na98 : NotAgg prog 98 := ⟨_, underlying98, rfl⟩
theorem el100 : El prog 100 4 48 (.agg #[.slice none 0 0, .map none, .map none, .int .i64 0]) := El.mk (by kernel_rfl) (by first | rfl | simp [Value.cells]) (by decide)
theorem z100 : Zr prog 100 (.agg #[.slice none 0 0, .map none, .map none, .int .i64 0]) := el100.zr
theorem el114 : El prog 114 3 24 (.agg #[.int .i64 0, .int .i64 0, .int .i64 0]) := El.mk (by kernel_rfl) (by first | rfl | simp [Value.cells]) (by decide)
theorem sz114 : Sz prog 114 3 := el114.sz
theorem z114 : Zr prog 114 (.agg #[.int .i64 0, .int .i64 0, .int .i64 0]) := el114.zr
theorem ag114 : IsAgg prog 114 3 := ⟨_, underlying114, rfl, sz114⟩
theorem el116 : El prog 116 2 16 (.agg #[.int .i64 0, .int .u64 0]) := El.mk (by kernel_rfl) (by first | rfl | simp [Value.cells]) (by decide)
theorem sz116 : Sz prog 116 2 := el116.sz
theorem z116 : Zr prog 116 (.agg #[.int .i64 0, .int .u64 0]) := el116.zr
theorem go4 : IsGo prog 4 := ⟨_, func4, rfl, by decide⟩
theorem go5 : IsGo prog 5 := ⟨_, func5, rfl, by decide⟩
theorem go6 : IsGo prog 6 := ⟨_, func6, rfl, by decide⟩
theorem go7 : IsGo prog 7 := ⟨_, func7, rfl, by decide⟩
theorem go8 : IsGo prog 8 := ⟨_, func8, rfl, by decide⟩
theorem go9 : IsGo prog 9 := ⟨_, func9, rfl, by decide⟩
theorem go10 : IsGo prog 10 := ⟨_, func10, rfl, by decide⟩
theorem go11 : IsGo prog 11 := ⟨_, func11, rfl, by decide⟩
theorem go12 : IsGo prog 12 := ⟨_, func12, rfl, by decide⟩
theorem go13 : IsGo prog 13 := ⟨_, func13, rfl, by decide⟩
theorem go14 : IsGo prog 14 := ⟨_, func14, rfl, by decide⟩
theorem go15 : IsGo prog 15 := ⟨_, func15, rfl, by decide⟩
theorem go16 : IsGo prog 16 := ⟨_, func16, rfl, by decide⟩
theorem go17 : IsGo prog 17 := ⟨_, func17, rfl, by decide⟩
theorem go18 : IsGo prog 18 := ⟨_, func18, rfl, by decide⟩
theorem go19 : IsGo prog 19 := ⟨_, func19, rfl, by decide⟩
theorem go20 : IsGo prog 20 := ⟨_, func20, rfl, by decide⟩
theorem go21 : IsGo prog 21 := ⟨_, func21, rfl, by decide⟩
theorem go22 : IsGo prog 22 := ⟨_, func22, rfl, by decide⟩
theorem go23 : IsGo prog 23 := ⟨_, func23, rfl, by decide⟩
theorem go24 : IsGo prog 24 := ⟨_, func24, rfl, by decide⟩
theorem go25 : IsGo prog 25 := ⟨_, func25, rfl, by decide⟩
theorem go26 : IsGo prog 26 := ⟨_, func26, rfl, by decide⟩
theorem go27 : IsGo prog 27 := ⟨_, func27, rfl, by decide⟩
theorem go28 : IsGo prog 28 := ⟨_, func28, rfl, by decide⟩
theorem go29 : IsGo prog 29 := ⟨_, func29, rfl, by decide⟩
theorem go30 : IsGo prog 30 := ⟨_, func30, rfl, by decide⟩
theorem go31 : IsGo prog 31 := ⟨_, func31, rfl, by decide⟩
theorem go33 : IsGo prog 33 := ⟨_, func33, rfl, by decide⟩
theorem go34 : IsGo prog 34 := ⟨_, func34, rfl, by decide⟩
theorem go35 : IsGo prog 35 := ⟨_, func35, rfl, by decide⟩
theorem go36 : IsGo prog 36 := ⟨_, func36, rfl, by decide⟩
theorem go37 : IsGo prog 37 := ⟨_, func37, rfl, by decide⟩
theorem go38 : IsGo prog 38 := ⟨_, func38, rfl, by decide⟩
theorem go39 : IsGo prog 39 := ⟨_, func39, rfl, by decide⟩
theorem go40 : IsGo prog 40 := ⟨_, func40, rfl, by decide⟩
theorem go41 : IsGo prog 41 := ⟨_, func41, rfl, by decide⟩
theorem go42 : IsGo prog 42 := ⟨_, func42, rfl, by decide⟩
theorem go43 : IsGo prog 43 := ⟨_, func43, rfl, by decide⟩
theorem go44 : IsGo prog 44 := ⟨_, func44, rfl, by decide⟩
theorem go45 : IsGo prog 45 := ⟨_, func45, rfl, by decide⟩
theorem go46 : IsGo prog 46 := ⟨_, func46, rfl, by decide⟩
theorem go47 : IsGo prog 47 := ⟨_, func47, rfl, by decide⟩
theorem go48 : IsGo prog 48 := ⟨_, func48, rfl, by decide⟩
theorem go49 : IsGo prog 49 := ⟨_, func49, rfl, by decide⟩
theorem go50 : IsGo prog 50 := ⟨_, func50, rfl, by decide⟩
theorem go51 : IsGo prog 51 := ⟨_, func51, rfl, by decide⟩
theorem go52 : IsGo prog 52 := ⟨_, func52, rfl, by decide⟩
theorem go53 : IsGo prog 53 := ⟨_, func53, rfl, by decide⟩
theorem go54 : IsGo prog 54 := ⟨_, func54, rfl, by decide⟩
theorem go55 : IsGo prog 55 := ⟨_, func55, rfl, by decide⟩
theorem go56 : IsGo prog 56 := ⟨_, func56, rfl, by decide⟩
theorem go57 : IsGo prog 57 := ⟨_, func57, rfl, by decide⟩
theorem go58 : IsGo prog 58 := ⟨_, func58, rfl, by decide⟩
theorem go59 : IsGo prog 59 := ⟨_, func59, rfl, by decide⟩
theorem go60 : IsGo prog 60 := ⟨_, func60, rfl, by decide⟩
theorem go63 : IsGo prog 63 := ⟨_, func63, rfl, by decide⟩
theorem go64 : IsGo prog 64 := ⟨_, func64, rfl, by decide⟩
theorem go65 : IsGo prog 65 := ⟨_, func65, rfl, by decide⟩
theorem go68 : IsGo prog 68 := ⟨_, func68, rfl, by decide⟩
theorem go69 : IsGo prog 69 := ⟨_, func69, rfl, by decide⟩
theorem go70 : IsGo prog 70 := ⟨_, func70, rfl, by decide⟩
theorem go71 : IsGo prog 71 := ⟨_, func71, rfl, by decide⟩
theorem go72 : IsGo prog 72 := ⟨_, func72, rfl, by decide⟩
theorem go73 : IsGo prog 73 := ⟨_, func73, rfl, by decide⟩
theorem go74 : IsGo prog 74 := ⟨_, func74, rfl, by decide⟩
theorem go75 : IsGo prog 75 := ⟨_, func75, rfl, by decide⟩
theorem go76 : IsGo prog 76 := ⟨_, func76, rfl, by decide⟩
theorem go77 : IsGo prog 77 := ⟨_, func77, rfl, by decide⟩
theorem go78 : IsGo prog 78 := ⟨_, func78, rfl, by decide⟩
theorem go79 : IsGo prog 79 := ⟨_, func79, rfl, by decide⟩
theorem go80 : IsGo prog 80 := ⟨_, func80, rfl, by decide⟩
theorem go81 : IsGo prog 81 := ⟨_, func81, rfl, by decide⟩
theorem go83 : IsGo prog 83 := ⟨_, func83, rfl, by decide⟩
theorem go87 : IsGo prog 87 := ⟨_, func87, rfl, by decide⟩
theorem go88 : IsGo prog 88 := ⟨_, func88, rfl, by decide⟩
theorem go89 : IsGo prog 89 := ⟨_, func89, rfl, by decide⟩
theorem go90 : IsGo prog 90 := ⟨_, func90, rfl, by decide⟩
theorem go91 : IsGo prog 91 := ⟨_, func91, rfl, by decide⟩
theorem go92 : IsGo prog 92 := ⟨_, func92, rfl, by decide⟩
theorem go93 : IsGo prog 93 := ⟨_, func93, rfl, by decide⟩
theorem go94 : IsGo prog 94 := ⟨_, func94, rfl, by decide⟩
theorem go95 : IsGo prog 95 := ⟨_, func95, rfl, by decide⟩
theorem go96 : IsGo prog 96 := ⟨_, func96, rfl, by decide⟩
theorem go97 : IsGo prog 97 := ⟨_, func97, rfl, by decide⟩
theorem go98 : IsGo prog 98 := ⟨_, func98, rfl, by decide⟩
theorem go99 : IsGo prog 99 := ⟨_, func99, rfl, by decide⟩
theorem go100 : IsGo prog 100 := ⟨_, func100, rfl, by decide⟩
theorem go106 : IsGo prog 106 := ⟨_, func106, rfl, by decide⟩
theorem go107 : IsGo prog 107 := ⟨_, func107, rfl, by decide⟩
theorem go108 : IsGo prog 108 := ⟨_, func108, rfl, by decide⟩
theorem go109 : IsGo prog 109 := ⟨_, func109, rfl, by decide⟩
theorem go110 : IsGo prog 110 := ⟨_, func110, rfl, by decide⟩
theorem go111 : IsGo prog 111 := ⟨_, func111, rfl, by decide⟩
theorem go112 : IsGo prog 112 := ⟨_, func112, rfl, by decide⟩
theorem go113 : IsGo prog 113 := ⟨_, func113, rfl, by decide⟩
theorem go114 : IsGo prog 114 := ⟨_, func114, rfl, by decide⟩
theorem go115 : IsGo prog 115 := ⟨_, func115, rfl, by decide⟩
theorem go116 : IsGo prog 116 := ⟨_, func116, rfl, by decide⟩
theorem go117 : IsGo prog 117 := ⟨_, func117, rfl, by decide⟩
theorem go129 : IsGo prog 129 := ⟨_, func129, rfl, by decide⟩
theorem go130 : IsGo prog 130 := ⟨_, func130, rfl, by decide⟩
theorem go131 : IsGo prog 131 := ⟨_, func131, rfl, by decide⟩
theorem go132 : IsGo prog 132 := ⟨_, func132, rfl, by decide⟩
theorem go133 : IsGo prog 133 := ⟨_, func133, rfl, by decide⟩
theorem go134 : IsGo prog 134 := ⟨_, func134, rfl, by decide⟩
theorem go135 : IsGo prog 135 := ⟨_, func135, rfl, by decide⟩
theorem go142 : IsGo prog 142 := ⟨_, func142, rfl, by decide⟩
theorem go143 : IsGo prog 143 := ⟨_, func143, rfl, by decide⟩
theorem go144 : IsGo prog 144 := ⟨_, func144, rfl, by decide⟩
theorem go145 : IsGo prog 145 := ⟨_, func145, rfl, by decide⟩
end Go.Proofs.YtgpaekbdbpkogaaGreat

namespace Go.Proofs.YtgpaekbdbpkogaaGreat
open Tryz
open Go Go.Sx
theorem fa29_0 : Fat prog 29 0 0 := ⟨_, _, _, underlying29, rfl, rfl, sz24, by decide⟩
theorem fa29_1 : Fat prog 29 1 64 := ⟨_, _, _, underlying29, rfl, rfl, sz25, by decide⟩
theorem fa29_2 : Fat prog 29 2 65 := ⟨_, _, _, underlying29, rfl, rfl, sz25, by decide⟩
theorem fa29_3 : Fat prog 29 3 66 := ⟨_, _, _, underlying29, rfl, rfl, sz5, by decide⟩
theorem fa29_4 : Fat prog 29 4 67 := ⟨_, _, _, underlying29, rfl, rfl, sz5, by decide⟩
theorem fa29_5 : Fat prog 29 5 68 := ⟨_, _, _, underlying29, rfl, rfl, sz26, by decide⟩
theorem fa29_6 : Fat prog 29 6 69 := ⟨_, _, _, underlying29, rfl, rfl, sz27, by decide⟩
theorem fa33_1 : Fat prog 33 1 32 := ⟨_, _, _, underlying33, rfl, rfl, sz3, by decide⟩
theorem fa37_0 : Fat prog 37 0 0 := ⟨_, _, _, underlying37, rfl, rfl, sz35, by decide⟩
theorem fa37_1 : Fat prog 37 1 1 := ⟨_, _, _, underlying37, rfl, rfl, sz35, by decide⟩
theorem fa37_2 : Fat prog 37 2 2 := ⟨_, _, _, underlying37, rfl, rfl, sz35, by decide⟩
theorem fa37_3 : Fat prog 37 3 3 := ⟨_, _, _, underlying37, rfl, rfl, sz35, by decide⟩
theorem fa37_4 : Fat prog 37 4 4 := ⟨_, _, _, underlying37, rfl, rfl, sz35, by decide⟩
theorem pl37 : Pls prog 37 [(0, 1), (1, 1), (2, 1), (3, 1), (4, 1)] := ⟨_, underlying37, fun w => by simp [sz35.run]⟩
theorem fa40_0 : Fat prog 40 0 0 := ⟨_, _, _, underlying40, rfl, rfl, sz3, by decide⟩
theorem fa40_1 : Fat prog 40 1 1 := ⟨_, _, _, underlying40, rfl, rfl, sz3, by decide⟩
theorem fa40_2 : Fat prog 40 2 2 := ⟨_, _, _, underlying40, rfl, rfl, sz3, by decide⟩
theorem fa40_3 : Fat prog 40 3 3 := ⟨_, _, _, underlying40, rfl, rfl, sz3, by decide⟩
theorem fa40_4 : Fat prog 40 4 4 := ⟨_, _, _, underlying40, rfl, rfl, sz3, by decide⟩
theorem fa40_5 : Fat prog 40 5 5 := ⟨_, _, _, underlying40, rfl, rfl, sz3, by decide⟩
theorem pl40 : Pls prog 40 [(0, 1), (1, 1), (2, 1), (3, 1), (4, 1), (5, 1)] := ⟨_, underlying40, fun w => by simp [sz3.run]⟩
theorem fa43_0 : Fat prog 43 0 0 := ⟨_, _, _, underlying43, rfl, rfl, sz33, by decide⟩
theorem fa43_1 : Fat prog 43 1 33 := ⟨_, _, _, underlying43, rfl, rfl, sz3, by decide⟩
theorem fa43_2 : Fat prog 43 2 34 := ⟨_, _, _, underlying43, rfl, rfl, sz38, by decide⟩
theorem fa43_3 : Fat prog 43 3 44 := ⟨_, _, _, underlying43, rfl, rfl, sz41, by decide⟩
theorem fa43_4 : Fat prog 43 4 56 := ⟨_, _, _, underlying43, rfl, rfl, sz3, by decide⟩
theorem pl43 : Pls prog 43 [(0, 33), (33, 1), (34, 10), (44, 12), (56, 1)] := ⟨_, underlying43, fun w => by simp [sz3.run, sz33.run, sz38.run, sz41.run]⟩
theorem fa46_0 : Fat prog 46 0 0 := ⟨_, _, _, underlying46, rfl, rfl, sz44, by decide⟩
theorem fa46_1 : Fat prog 46 1 1 := ⟨_, _, _, underlying46, rfl, rfl, sz44, by decide⟩
theorem fa46_2 : Fat prog 46 2 2 := ⟨_, _, _, underlying46, rfl, rfl, sz44, by decide⟩
theorem fa46_3 : Fat prog 46 3 3 := ⟨_, _, _, underlying46, rfl, rfl, sz44, by decide⟩
theorem fa46_4 : Fat prog 46 4 4 := ⟨_, _, _, underlying46, rfl, rfl, sz44, by decide⟩
theorem pl46 : Pls prog 46 [(0, 1), (1, 1), (2, 1), (3, 1), (4, 1), (5, 32)] := ⟨_, underlying46, fun w => by simp [sz23.run, sz44.run]⟩
theorem fa51_0 : Fat prog 51 0 0 := ⟨_, _, _, underlying51, rfl, rfl, sz3, by decide⟩
theorem fa51_1 : Fat prog 51 1 1 := ⟨_, _, _, underlying51, rfl, rfl, sz48, by decide⟩
theorem fa51_2 : Fat prog 51 2 3 := ⟨_, _, _, underlying51, rfl, rfl, sz49, by decide⟩
theorem fa51_3 : Fat prog 51 3 4 := ⟨_, _, _, underlying51, rfl, rfl, sz3, by decide⟩
theorem pl51 : Pls prog 51 [(0, 1), (1, 2), (3, 1), (4, 1)] := ⟨_, underlying51, fun w => by simp [sz3.run, sz48.run, sz49.run]⟩
theorem fa60_0 : Fat prog 60 0 0 := ⟨_, _, _, underlying60, rfl, rfl, sz3, by decide⟩
theorem fa60_1 : Fat prog 60 1 1 := ⟨_, _, _, underlying60, rfl, rfl, sz48, by decide⟩
theorem fa60_2 : Fat prog 60 2 3 := ⟨_, _, _, underlying60, rfl, rfl, sz48, by decide⟩
theorem pl60 : Pls prog 60 [(0, 1), (1, 2), (3, 2)] := ⟨_, underlying60, fun w => by simp [sz3.run, sz48.run]⟩
theorem fa62_0 : Fat prog 62 0 0 := ⟨_, _, _, underlying62, rfl, rfl, sz5, by decide⟩
theorem fa62_1 : Fat prog 62 1 1 := ⟨_, _, _, underlying62, rfl, rfl, sz27, by decide⟩
theorem fa62_2 : Fat prog 62 2 2 := ⟨_, _, _, underlying62, rfl, rfl, sz27, by decide⟩
theorem fa62_3 : Fat prog 62 3 3 := ⟨_, _, _, underlying62, rfl, rfl, sz44, by decide⟩
theorem fa66_0 : Fat prog 66 0 0 := ⟨_, _, _, underlying66, rfl, rfl, sz3, by decide⟩
theorem fa66_1 : Fat prog 66 1 1 := ⟨_, _, _, underlying66, rfl, rfl, sz3, by decide⟩
theorem fa66_2 : Fat prog 66 2 2 := ⟨_, _, _, underlying66, rfl, rfl, sz3, by decide⟩
theorem fa66_3 : Fat prog 66 3 3 := ⟨_, _, _, underlying66, rfl, rfl, sz35, by decide⟩
theorem fa66_4 : Fat prog 66 4 4 := ⟨_, _, _, underlying66, rfl, rfl, sz3, by decide⟩
theorem pl66 : Pls prog 66 [(0, 1), (1, 1), (2, 1), (3, 1), (4, 1)] := ⟨_, underlying66, fun w => by simp [sz3.run, sz35.run]⟩
theorem fa85_0 : Fat prog 85 0 0 := ⟨_, _, _, underlying85, rfl, rfl, sz3, by decide⟩
theorem fa85_1 : Fat prog 85 1 1 := ⟨_, _, _, underlying85, rfl, rfl, sz3, by decide⟩
theorem fa85_2 : Fat prog 85 2 2 := ⟨_, _, _, underlying85, rfl, rfl, sz3, by decide⟩
theorem pl85 : Pls prog 85 [(0, 1), (1, 1), (2, 1)] := ⟨_, underlying85, fun w => by simp [sz3.run]⟩
theorem fa100_0 : Fat prog 100 0 0 := ⟨_, _, _, underlying100, rfl, rfl, sz56, by decide⟩
theorem fa100_1 : Fat prog 100 1 1 := ⟨_, _, _, underlying100, rfl, rfl, sz97, by decide⟩
theorem fa100_2 : Fat prog 100 2 2 := ⟨_, _, _, underlying100, rfl, rfl, sz98, by decide⟩
theorem fa100_3 : Fat prog 100 3 3 := ⟨_, _, _, underlying100, rfl, rfl, sz3, by decide⟩
theorem pl100 : Pls prog 100 [(0, 1), (1, 1), (2, 1), (3, 1)] := ⟨_, underlying100, fun w => by simp [sz3.run, sz56.run, sz97.run, sz98.run]⟩
theorem fa114_0 : Fat prog 114 0 0 := ⟨_, _, _, underlying114, rfl, rfl, sz3, by decide⟩
theorem fa114_1 : Fat prog 114 1 1 := ⟨_, _, _, underlying114, rfl, rfl, sz3, by decide⟩
theorem pl114 : Pls prog 114 [(0, 1), (1, 1), (2, 1)] := ⟨_, underlying114, fun w => by simp [sz3.run]⟩
theorem fa116_0 : Fat prog 116 0 0 := ⟨_, _, _, underlying116, rfl, rfl, sz3, by decide⟩
theorem fa116_1 : Fat prog 116 1 1 := ⟨_, _, _, underlying116, rfl, rfl, sz35, by decide⟩
theorem pl116 : Pls prog 116 [(0, 1), (1, 1)] := ⟨_, underlying116, fun w => by simp [sz3.run, sz35.run]⟩
end Go.Proofs.YtgpaekbdbpkogaaGreat

namespace Go.Proofs.YtgpaekbdbpkogaaGreat
open Tryz
open Go Go.Sx Go.Num Go.Gsp
set_option maxRecDepth 20000
theorem coins_ok (a : Int) (w : World) : Calls prog 68 #[.int .i64 (a)] w fun r w' => r = .returned (.bool (coinB a)) /\ Le w w' := by
 refine enter func68 rfl rfl ?_
 have L0 := Le.refl w
 refine WC.sr (W.run 1 rfl (W.nx (WC.sr (W.run 2 rfl ?_))))
 by_cases q1_2 : 0 <= a
 ·refine W.dt q1_2 rfl rfl (W.run 4 rfl (W.nx (WC.ret ?_)))
  refine E.retG1 rfl rfl ?_
  exact ⟨rB (by simp [coinB, inB, q1_2]), L0⟩
 refine W.df q1_2 rfl rfl (W.run 4 rfl (W.nx (WC.ret ?_)))
 refine E.retG1 rfl rfl ?_
 exact ⟨rB (by simp [coinB, inB, q1_2]), L0⟩

theorem nadd_ok (a b : Int) (w : World) : Calls prog 33 #[.int .i64 (a), .int .i64 (b)] w fun r w' => r = .returned (.tuple #[.int .i64 (addC a b).1, .bool (addC a b).2]) /\ Le w w' := by
 refine enter func33 rfl rfl ?_
 have L0 := Le.refl w
 refine WC.sr (W.run 2 rfl (W.nx (WC.seq (WC.sr (W.run 1 rfl ?_)))))
 refine W.cl go68 rfl rfl (coins_ok a w) ?_
 rintro _ w1_1 ⟨rfl, h1_1⟩
 have L1 := L0.trans h1_1
 refine W.run 1 rfl ?_
 by_cases q1_3 : (coinB a) = true
 ·refine W.a (.dec (.move rfl) (congrArg not (q1_3))) ?_
  refine W.run 1 rfl ?_
  refine W.efg rfl rfl rfl (rfl) rfl rfl ?_
  refine Ef.call go68 rfl rfl (coins_ok b w1_1) ?_
  rintro _ w1_5 ⟨rfl, h1_5⟩
  refine ⟨_, rfl, ?_⟩
  have L2 := L1.trans h1_5
  refine W.run 2 rfl ?_
  by_cases q1_8 : (coinB b) = true
  ·refine W.a (.dec (.move rfl) (congrArg not (q1_8))) ?_
   refine W.run 2 rfl ?_
   have hb1 := inB_T (show inB b 0 1125899906842624 = true by assumption)
   refine W.g (Any.rd (.sub rfl rfl (by omega)) _) ?_
   refine W.run 2 rfl (W.nx ?_)
   by_cases c0 : (1125899906842624 - b) < a
   ·refine WC.condY rfl (decide_eq_true c0) ?_
    refine WC.sr (W.run 2 rfl (W.nx (WC.ret (E.thenR ?_))))
    refine E.retG2 rfl rfl rfl ?_
    exact ⟨(by first | rfl | (simp [addC, q1_3, q1_8, c0]; done) | (simp [addC, q1_3, q1_8, c0]; omega) | (simp [addC, q1_3, q1_8, c0]; split <;> first | (exfalso; omega) | (simp; done) | (simp; omega))), L2⟩
   refine WC.condN rfl (decide_eq_false c0) ?_
   refine WC.sn (WC.sr (W.run 2 rfl ?_))
   refine W.a (.add rfl rfl (by have := inB_T (show inB a 0 1125899906842624 = true by assumption); have := inB_T (show inB b 0 1125899906842624 = true by assumption); omega)) ?_
   refine W.run 2 rfl (W.nx (WC.ret ?_))
   refine E.retG2 rfl rfl rfl ?_
   exact ⟨(by first | rfl | (simp [addC, q1_3, q1_8, c0]; done) | (simp [addC, q1_3, q1_8, c0]; omega) | (simp [addC, q1_3, q1_8, c0]; split <;> first | (exfalso; omega) | (simp; done) | (simp; omega))), L2⟩
  refine W.a (.dec (.move rfl) (congrArg not ((Bool.eq_false_iff.2 q1_8)))) ?_
  refine W.run 5 rfl (W.nx (WC.condT rfl (WC.sr (W.run 2 rfl (W.nx (WC.ret (E.thenR ?_)))))))
  refine E.retG2 rfl rfl rfl ?_
  exact ⟨(by first | rfl | (simp [addC, q1_3, q1_8]; done) | (simp [addC, q1_3, q1_8]; omega) | (simp [addC, q1_3, q1_8]; split <;> first | (exfalso; omega) | (simp; done) | (simp; omega))), L2⟩
 refine W.a (.dec (.move rfl) (congrArg not ((Bool.eq_false_iff.2 q1_3)))) ?_
 refine W.run 10 rfl (W.nx (WC.condT rfl (WC.sr (W.run 2 rfl (W.nx (WC.ret (E.thenR ?_)))))))
 refine E.retG2 rfl rfl rfl ?_
 exact ⟨(by first | rfl | (simp [addC, q1_3]; done) | (simp [addC, q1_3]; omega) | (simp [addC, q1_3]; split <;> first | (exfalso; omega) | (simp; done) | (simp; omega))), L1⟩
end Go.Proofs.YtgpaekbdbpkogaaGreat

namespace Go.Proofs.YtgpaekbdbpkogaaGreat
open Go Go.Sx Go.Hsp
set_option maxRecDepth 20000
theorem one8 (a b c d e f g h : BitVec 32) : ∀ v ∈ [u32v a, u32v b, u32v c, u32v d, u32v e, u32v f, u32v g, u32v h], v.oneCell' = true := fun v hv => by
  simp at hv; rcases hv with rfl | rfl | rfl | rfl | rfl | rfl | rfl | rfl <;> rfl

end Go.Proofs.YtgpaekbdbpkogaaGreat

namespace Go.Proofs.YtgpaekbdbpkogaaGreat
open Tryz
open Go Go.Sx Go.Hsp
set_option maxRecDepth 20000
theorem rturn_ok (x : BitVec 32) (k : Nat) (w : World) (hk : 1 <= k /\ k <= 31) : Calls prog 144 #[u32v x, .int .i64 (k : Int)] w fun e w' => e = .returned (u32v (rot x k)) /\ Le w w' := by
 refine enter func144 rfl rfl ?_
 have L0 := Le.refl w
 refine WC.sr (W.run 1 rfl (W.nx (WC.seq ?_)))
 refine WC.draw [0, 1, 2, 3, 4, 5, 6, 7, 8] mixed (by kernel_rfl) ?_
 intro w1 d1
 have L1 := L0.trans d1
 refine G.run 2 rfl ?_
 refine G.a rfl (.shr32 k rfl rfl rfl (by omega)) ?_
 refine G.run 2 rfl ?_
 refine G.a rfl (.sub rfl rfl (by omega)) ?_
 refine G.a rfl (.shl32 (32 - k) rfl rfl (by omega) (by omega)) ?_
 refine G.a rfl (.or32 rfl rfl) ?_
 refine G.run 1 rfl (G.nil (E.thenN (WC.ret ?_)))
 refine E.ret1 rfl rfl ?_
 exact ⟨by rw [rot_comm], L1⟩

theorem rfirsts_ok (w : World) : Calls prog 131 #[] w fun e w' => ∃ A' c', e = .returned (.slice A' (8) c') /\ Own w' w.heap.size 25 1 A' (8) c' (first.map u32v) /\ Le w w' := by
 refine enter func131 rfl rfl ?_
 have L0 := Le.refl w
 refine WC.sr (W.run 1 rfl (W.nx (WC.sr (W.ef rfl rfl rfl ?_))))
 refine Ef.buildSliceN (first.map u32v) underlying177 el25 (by kernel_rfl) (all_u32v _) rfl (by decide) (by decide) ?_
 intro g1_0 w1_0 hg1_0 b1_0 h1_0
 have L1_0 := L0.trans h1_0
 refine W.run 1 rfl (W.nx (WC.ret ?_))
 refine E.ret1 rfl rfl ?_
 exact ⟨_, _, rfl, b1_0.own (s := 1) (n := 8) hg1_0 rfl (by unfold maxLen; omega), L1_0⟩

theorem radds_ok (w : World) : Calls prog 143 #[] w fun e w' => ∃ A' c', e = .returned (.slice A' (64) c') /\ Own w' w.heap.size 25 1 A' (64) c' (table.map u32v) /\ Le w w' := by
 refine enter func143 rfl rfl ?_
 have L0 := Le.refl w
 refine WC.sr (W.run 1 rfl (W.nx (WC.sr (W.ef rfl rfl rfl ?_))))
 refine Ef.buildSliceN (table.map u32v) underlying177 el25 (by kernel_rfl) (all_u32v _) rfl (by decide) (by decide) ?_
 intro g1_0 w1_0 hg1_0 b1_0 h1_0
 have L1_0 := L0.trans h1_0
 refine W.run 1 rfl (W.nx (WC.ret ?_))
 refine E.ret1 rfl rfl ?_
 exact ⟨_, _, rfl, b1_0.own (s := 1) (n := 64) hg1_0 rfl (by unfold maxLen; omega), L1_0⟩

theorem rwords_ok {A : Option Addr} {n c : Nat} {b : List Byte} (w : World) (hS : Sb w A n b) (hn : n = 64) : Calls prog 142 #[.slice A n c] w fun e w' => ∃ A' c', e = .returned (.slice A' (64) c') /\ Own w' w.heap.size 25 1 A' (64) c' ((sched b).map u32v) /\ Le w w' := by
 have hbl := hS.len
 refine enter func142 rfl rfl ?_
 have L0 := Le.refl w
 refine WC.sr (W.run 1 rfl (W.nx (WC.sr (W.run 1 rfl (W.nx (WC.seq (WC.sr (W.run 1 rfl (W.nx (WC.block ?_))))))))))
 refine WC.loop (ι := Nat × Option Addr × Nat) (fun ⟨k, A1, c1⟩ => [(0, .slice A n c), (3, .slice A1 k c1), (4, .int .i64 (k : Int))]) (fun ⟨k, A1, c1⟩ wl => k <= 16 /\ Le w wl /\ Own wl w.heap.size 25 1 A1 k c1 ((schedTo b k).map u32v)) (fun ⟨k, A1, c1⟩ => 16 - k) (0, none, 0) ?_ ?_ ?_
 ·exact .cons rfl (.cons rfl (.cons rfl (.nil _)))
 ·exact ⟨by omega, L0, Own.empty _ _ _ _ _⟩
 rintro ⟨k, A1, c1⟩ wl ⟨hk, Ll, ol⟩
 refine WC.seq (WC.sr (W.run 2 rfl (W.nx ?_)))
 refine WC.cond rfl (fun c0 => ?_) (fun c0 => ?_)
 ·refine WC.sn (WC.seq (WC.block ?_))
  refine WC.draw [0, 1, 2, 3, 4, 5, 6, 7, 8, 9, 10, 11, 12, 13, 14, 15, 16, 17, 18, 19, 20, 21, 22, 23, 24, 25, 26, 27, 28, 29, 30, 31, 32, 33, 34, 35, 36] mixed (by kernel_rfl) ?_
  intro w5 d5
  have L5 := Ll.trans d5
  refine G.run 3 rfl ?_
  refine G.a rfl (.mul rfl rfl (by omega)) ?_
  refine G.a rfl (.idxS1 (4 * k) underlying30 sz5 rfl rfl (hS.isSome (by omega)) (by omega) (by omega)) ?_
  refine G.r rfl (.loadS na5 rfl (hS.le L5) (getb b (by omega))) ?_
  refine G.r rfl (.u8to32 (isS underlying5) underlying25 rfl) ?_
  refine G.a rfl (.shl32 24 rfl rfl rfl (by decide)) ?_
  refine G.run 2 rfl ?_
  refine G.a rfl (.mul rfl rfl (by omega)) ?_
  refine G.a rfl (.add rfl rfl (by omega)) ?_
  refine G.a rfl (.idxS1 (4 * k + 1) underlying30 sz5 rfl rfl (hS.isSome (by omega)) (by omega) (by omega)) ?_
  refine G.r rfl (.loadS na5 rfl (hS.le L5) (getb b (by omega))) ?_
  refine G.r rfl (.u8to32 (isS underlying5) underlying25 rfl) ?_
  refine G.a rfl (.shl32 16 rfl rfl rfl (by decide)) ?_
  refine G.a rfl (.or32 rfl rfl) ?_
  refine G.run 2 rfl ?_
  refine G.a rfl (.mul rfl rfl (by omega)) ?_
  refine G.a rfl (.add rfl rfl (by omega)) ?_
  refine G.a rfl (.idxS1 (4 * k + 2) underlying30 sz5 rfl rfl (hS.isSome (by omega)) (by omega) (by omega)) ?_
  refine G.r rfl (.loadS na5 rfl (hS.le L5) (getb b (by omega))) ?_
  refine G.r rfl (.u8to32 (isS underlying5) underlying25 rfl) ?_
  refine G.a rfl (.shl32 8 rfl rfl rfl (by decide)) ?_
  refine G.a rfl (.or32 rfl rfl) ?_
  refine G.run 2 rfl ?_
  refine G.a rfl (.mul rfl rfl (by omega)) ?_
  refine G.a rfl (.add rfl rfl (by omega)) ?_
  refine G.a rfl (.idxS1 (4 * k + 3) underlying30 sz5 rfl rfl (hS.isSome (by omega)) (by omega) (by omega)) ?_
  refine G.r rfl (.loadS na5 rfl (hS.le L5) (getb b (by omega))) ?_
  refine G.r rfl (.u8to32 (isS underlying5) underlying25 rfl) ?_
  refine G.a rfl (.or32 rfl rfl) ?_
  refine G.ef rfl rfl rfl rfl rfl ?_
  refine Ef.buildSlice1 underlying177 el25 rfl rfl ?_
  intro g5_34 w5_34 hg5_34 b5_34 h5_34
  have L5_34 := L5.trans h5_34
  refine ⟨fun _ => h5_34, ?_⟩
  refine G.ef rfl rfl rfl rfl rfl ?_
  refine Ef.append underlying177 el25 rfl ((ol.le d5).le h5_34) rfl (b5_34.src1 underlying177 rfl) (by omega) (by unfold maxLen; omega) (L5_34.size) ?_
  intro A5_35 c5_35 w5_35 o5_35 h5_35 at5_35
  have L5_35 : Le w w5_35 := L5_34.then_ h5_35 (fun q hq => (ol.row hq).1)
  refine noT (by kernel_rfl) ?_
  refine G.run 1 rfl (G.nil (E.blkN (E.thenN (WC.region (W.run 1 rfl ?_)))))
  refine W.a (.add rfl rfl (by omega)) ?_
  refine W.run 1 rfl (W.nil ?_)
  refine E.again (k + 1, A5_35, c5_35) (.cons rfl (.cons rfl (.cons rfl (.nil _)))) ?_ ?_
  ·exact ⟨by omega, L5_35, o5_35.cast rfl (by rw [schedTo, if_pos (by omega), be32_drop]; simp)⟩
  first | omega | (simp only []; omega)
 have hk16 : k = 16 := by omega
 subst hk16
 refine WC.exit (E.thenX (E.thenX (E.blkH (E.thenN (WC.seq (WC.sr (W.run 1 rfl (W.nx (WC.block ?_)))))))))
 refine WC.loop (ι := Nat × Option Addr × Nat) (fun ⟨k, A1, c1⟩ => [(3, .slice A1 k c1), (5, .int .i64 (k : Int))]) (fun ⟨k, A1, c1⟩ wm => 16 <= k /\ k <= 64 /\ Le w wm /\ Own wm w.heap.size 25 1 A1 k c1 ((schedTo b k).map u32v)) (fun ⟨k, A1, c1⟩ => 64 - k) (16, A1, c1) ?_ ?_ ?_
 ·exact .cons rfl (.cons rfl (.nil _))
 ·exact ⟨by omega, by omega, Ll, ol⟩
 rintro ⟨k, A1, c1⟩ wm ⟨hk0, hk, Lm, ol⟩
 have hsl := schedTo_length b k
 refine WC.seq (WC.sr (W.run 2 rfl (W.nx ?_)))
 refine WC.cond rfl (fun c1 => ?_) (fun c1 => ?_)
 ·refine WC.sn (WC.seq (WC.block (WC.sr (W.run 2 rfl ?_))))
  refine W.a (.sub rfl rfl (by omega)) ?_
  refine W.a (.idxS1 (k - 15) underlying177 sz25 rfl rfl (ol.sl.isSome (j := 0) (by omega) (by decide)) (by omega) (by omega)) ?_
  refine W.r (.loadS na25 rfl (ol.sl) (getw _ (by omega))) ?_
  refine W.run 1 rfl (W.nx (WC.sr (W.run 2 rfl ?_)))
  refine W.a (.sub rfl rfl (by omega)) ?_
  refine W.a (.idxS1 (k - 2) underlying177 sz25 rfl rfl (ol.sl.isSome (j := 0) (by omega) (by decide)) (by omega) (by omega)) ?_
  refine W.r (.loadS na25 rfl (ol.sl) (getw _ (by omega))) ?_
  refine W.run 1 rfl (W.nx (WC.sr (W.run 1 rfl ?_)))
  refine W.cl go144 rfl rfl (rturn_ok _ 7 wm (by omega)) ?_
  rintro _ w11_1 ⟨rfl, h11_1⟩
  have L11_1 := Lm.trans h11_1
  refine W.run 1 rfl ?_
  refine W.cl go144 rfl rfl (rturn_ok _ 18 w11_1 (by omega)) ?_
  rintro _ w11_3 ⟨rfl, h11_3⟩
  have L11_3 := L11_1.trans h11_3
  refine W.a (.xor32 rfl rfl) ?_
  refine W.run 1 rfl ?_
  refine W.a (.shr32 3 rfl rfl rfl (by decide)) ?_
  refine W.a (.xor32 rfl rfl) ?_
  refine W.run 1 rfl (W.nx (WC.sr (W.run 1 rfl ?_)))
  refine W.cl go144 rfl rfl (rturn_ok _ 17 w11_3 (by omega)) ?_
  rintro _ w12_1 ⟨rfl, h12_1⟩
  have L12_1 := L11_3.trans h12_1
  refine W.run 1 rfl ?_
  refine W.cl go144 rfl rfl (rturn_ok _ 19 w12_1 (by omega)) ?_
  rintro _ w12_3 ⟨rfl, h12_3⟩
  have L12_3 := L12_1.trans h12_3
  refine W.a (.xor32 rfl rfl) ?_
  refine W.run 1 rfl ?_
  refine W.a (.shr32 10 rfl rfl rfl (by decide)) ?_
  refine W.a (.xor32 rfl rfl) ?_
  refine W.run 1 rfl (W.nx ?_)
  refine WC.draw [0, 1, 2, 3, 4, 5, 6, 7, 8, 9, 10, 11, 12, 13, 14, 15, 16, 17, 18] mixed (by kernel_rfl) ?_
  intro w13 d13
  have L13 := L12_3.trans d13
  have o13 := ol.le (h11_1.trans (h11_3.trans (h12_1.trans (h12_3.trans d13))))
  refine G.run 3 rfl ?_
  refine G.a rfl (.sub rfl rfl (by omega)) ?_
  refine G.a rfl (.idxS1 (k - 16) underlying177 sz25 rfl rfl (ol.sl.isSome (j := 0) (by omega) (by decide)) (by omega) (by omega)) ?_
  refine G.r rfl (.loadS na25 rfl (o13.sl) (getw _ (by omega))) ?_
  refine G.run 1 rfl ?_
  refine G.a rfl (.add32 rfl rfl) ?_
  refine G.run 2 rfl ?_
  refine G.a rfl (.sub rfl rfl (by omega)) ?_
  refine G.a rfl (.idxS1 (k - 7) underlying177 sz25 rfl rfl (ol.sl.isSome (j := 0) (by omega) (by decide)) (by omega) (by omega)) ?_
  refine G.r rfl (.loadS na25 rfl (o13.sl) (getw _ (by omega))) ?_
  refine G.a rfl (.add32 rfl rfl) ?_
  refine G.run 1 rfl ?_
  refine G.a rfl (.add32 rfl rfl) ?_
  refine G.ef rfl rfl rfl rfl rfl ?_
  refine Ef.buildSlice1 underlying177 el25 rfl rfl ?_
  intro g13_16 w13_16 hg13_16 b13_16 h13_16
  have L13_16 := L13.trans h13_16
  refine ⟨fun _ => h13_16, ?_⟩
  refine G.ef rfl rfl rfl rfl rfl ?_
  refine Ef.append underlying177 el25 rfl (o13.le h13_16) rfl (b13_16.src1 underlying177 rfl) (by omega) (by unfold maxLen; omega) (L13_16.size) ?_
  intro A13_17 c13_17 w13_17 o13_17 h13_17 at13_17
  have L13_17 : Le w w13_17 := L13_16.then_ h13_17 (fun q hq => (ol.row hq).1)
  refine noT (by kernel_rfl) ?_
  refine G.run 1 rfl (G.nil (E.blkN (E.thenN (WC.region (W.run 1 rfl ?_)))))
  refine W.a (.add rfl rfl (by omega)) ?_
  refine W.run 1 rfl (W.nil ?_)
  refine E.again (k + 1, A13_17, c13_17) (.cons rfl (.cons rfl (.nil _))) ?_ ?_
  ·exact ⟨by omega, by omega, L13_17, o13_17.cast rfl (by rw [schedTo, if_neg (by omega), nextWord]; simp)⟩
  first | omega | (simp only []; omega)
 have hk64 : k = 64 := by omega
 subst hk64
 refine WC.exit (E.thenX (E.thenX (E.blkH (E.thenN (WC.sr (W.run 2 rfl (W.nx (WC.ret ?_))))))))
 refine E.ret1 rfl rfl ?_
 exact ⟨_, _, rfl, ol, Lm⟩

set_option maxHeartbeats 1000000 in
theorem rblock_ok {A Ab : Option Addr} {c nb cb : Nat} {b : List Byte} {h : List Word} (w : World) (hl : h.length = 8) (hH : Sl w 1 A 8 (h.map u32v)) (hS : Sb w Ab nb b) (hn : nb = 64) : Calls prog 132 #[.slice A 8 c, .slice Ab nb cb] w fun e w' => ∃ A' c', e = .returned (.slice A' (8) c') /\ Own w' w.heap.size 25 1 A' (8) c' ((mix h b).map u32v) /\ Le w w' := by
 have hsl : (sched b).length = 64 := schedTo_length b 64
 unfold mix
 refine enter func132 rfl rfl ?_
 have L0 := Le.refl w
 refine WC.sr (W.run 1 rfl (W.nx (WC.sr (W.run 1 rfl ?_))))
 refine W.cl go142 rfl rfl (rwords_ok w (hS.le L0) hn) ?_
 rintro _ w1_1 ⟨A5, c5, rfl, o5, h1_1⟩
 have L1_1 := L0.trans h1_1
 refine W.run 1 rfl (W.nx (WC.sr ?_))
 refine W.cl go143 rfl rfl (radds_ok w1_1) ?_
 rintro _ w2_0 ⟨A6, c6, rfl, o6, h2_0⟩
 have L2_0 := L1_1.trans h2_0
 refine W.run 1 rfl (W.nx (WC.sr (W.ef rfl rfl rfl ?_)))
 refine Ef.buildSlice0 underlying177 el25 ?_
 intro g3_0 w3_0 hg3_0 b3_0 h3_0
 have L3_0 := L2_0.trans h3_0
 refine W.run 1 rfl (W.ef rfl rfl rfl ?_)
 refine Ef.append underlying177 el25 rfl (Own.empty w3_0 w.heap.size 25 1 _) rfl ((hH.le L3_0).src underlying177 (by decide) _ (all_u32v _)) (by omega) (by unfold maxLen; omega) (L3_0.size) ?_
 intro A3_2 c3_2 w3_2 o3_2 h3_2 at3_2
 have L3_2 : Le w w3_2 := L3_0.then_ h3_2 (fun q hq => by rw [rowOf_zero] at hq; cases hq)
 have s5 := ((o5.le (h2_0.trans h3_0)).ch h3_2 (fun q hq => by rw [rowOf_zero] at hq; cases hq)).sl
 have s6 := ((o6.le h3_0).ch h3_2 (fun q hq => by rw [rowOf_zero] at hq; cases hq)).sl
 refine W.run 1 rfl (W.nx (WC.seq (WC.sr (W.run 1 rfl (W.nx (WC.block ?_))))))
 refine WC.loop (ι := Nat × Option Addr × Nat) (fun ⟨i, A7, c7⟩ => [(0, .slice A 8 c), (5, .slice A5 64 c5), (6, .slice A6 64 c6), (7, .slice A7 8 c7), (8, .int .i64 (i : Int))]) (fun ⟨i, A7, c7⟩ wl => i <= 64 /\ Le w3_2 wl /\ Own wl w.heap.size 25 1 A7 8 c7 ((roundsTo h (sched b) i).map u32v)) (fun ⟨i, A7, c7⟩ => 64 - i) (0, A3_2, c3_2) ?_ ?_ ?_
 ·exact .cons rfl (.cons rfl (.cons rfl (.cons rfl (.cons rfl (.nil _)))))
 ·exact ⟨by omega, Le.refl _, o3_2.cast rfl (List.nil_append _)⟩
 rintro ⟨i, A7, c7⟩ wl ⟨hi, Ll, ov⟩
 have hvl := roundsTo_length h (sched b) hl i
 obtain ⟨v, hv⟩ : ∃ v, v = roundsTo h (sched b) i := ⟨_, rfl⟩
 rw [<- hv] at ov hvl
 have hv0 : A7.isSome = true := ov.sl.isSome (j := 0) (by omega) (by decide)
 refine WC.seq (WC.sr (W.run 2 rfl (W.nx ?_)))
 refine WC.cond rfl (fun c0 => ?_) (fun c0 => ?_)
 ·refine WC.sn (WC.seq (WC.block (WC.seq ?_)))
  refine WC.draw [0, 1, 2, 4, 5, 6, 9, 10, 11, 3, 7, 8, 12, 13, 14] mixed (by kernel_rfl) ?_
  intro w7 d7
  have L7 := (L3_2.trans Ll).trans d7
  have v7 := (ov.le d7).sl
  refine G.run 1 rfl ?_
  refine G.a rfl (.idxS1 (4) underlying177 sz25 rfl rfl (hv0) (rfl) (by decide)) ?_
  refine G.r rfl (.loadS na25 rfl (v7) (getw _ (by omega))) ?_
  refine G.run 1 rfl ?_
  refine G.a rfl (.idxS1 (4) underlying177 sz25 rfl rfl (hv0) (rfl) (by decide)) ?_
  refine G.r rfl (.loadS na25 rfl (v7) (getw _ (by omega))) ?_
  refine G.run 1 rfl ?_
  refine G.a rfl (.idxS1 (4) underlying177 sz25 rfl rfl (hv0) (rfl) (by decide)) ?_
  refine G.r rfl (.loadS na25 rfl (v7) (getw _ (by omega))) ?_
  refine G.ef rfl rfl rfl rfl rfl ?_
  refine Ef.call go144 rfl rfl (rturn_ok _ 6 w7 (by omega)) ?_
  rintro _ w7_3 ⟨rfl, h7_3⟩
  refine ⟨_, rfl, ?_⟩
  have L7_3 := L7.trans h7_3
  refine ⟨fun _ => h7_3, ?_⟩
  refine G.ef rfl rfl rfl rfl rfl ?_
  refine Ef.call go144 rfl rfl (rturn_ok _ 11 w7_3 (by omega)) ?_
  rintro _ w7_7 ⟨rfl, h7_7⟩
  refine ⟨_, rfl, ?_⟩
  have L7_7 := L7_3.trans h7_7
  refine ⟨fun _ => h7_7, ?_⟩
  refine G.a rfl (.xor32 rfl rfl) ?_
  refine G.ef rfl rfl rfl rfl rfl ?_
  refine Ef.call go144 rfl rfl (rturn_ok _ 25 w7_7 (by omega)) ?_
  rintro _ w7_12 ⟨rfl, h7_12⟩
  refine ⟨_, rfl, ?_⟩
  have L7_12 := L7_7.trans h7_12
  refine ⟨fun _ => h7_12, ?_⟩
  refine G.a rfl (.xor32 rfl rfl) ?_
  refine G.run 1 rfl (G.nil (E.thenN (WC.seq ?_)))
  refine WC.draw [0, 1, 2, 3, 4, 5, 6, 7, 8, 9, 10, 11, 12, 13, 14, 15, 16] mixed (by kernel_rfl) ?_
  intro w8 d8
  have L8 := L7_12.trans d8
  have LL := d7.trans (h7_3.trans (h7_7.trans (h7_12.trans d8)))
  have v8 := (ov.le LL).sl
  refine G.run 1 rfl ?_
  refine G.a rfl (.idxS1 (4) underlying177 sz25 rfl rfl (hv0) (rfl) (by decide)) ?_
  refine G.r rfl (.loadS na25 rfl (v8) (getw _ (by omega))) ?_
  refine G.run 1 rfl ?_
  refine G.a rfl (.idxS1 (5) underlying177 sz25 rfl rfl (hv0) (rfl) (by decide)) ?_
  refine G.r rfl (.loadS na25 rfl (v8) (getw _ (by omega))) ?_
  refine G.a rfl (.and32 rfl rfl) ?_
  refine G.run 1 rfl ?_
  refine G.a rfl (.idxS1 (4) underlying177 sz25 rfl rfl (hv0) (rfl) (by decide)) ?_
  refine G.r rfl (.loadS na25 rfl (v8) (getw _ (by omega))) ?_
  refine G.a rfl (.com32 rfl) ?_
  refine G.run 1 rfl ?_
  refine G.a rfl (.idxS1 (6) underlying177 sz25 rfl rfl (hv0) (rfl) (by decide)) ?_
  refine G.r rfl (.loadS na25 rfl (v8) (getw _ (by omega))) ?_
  refine G.a rfl (.and32 rfl rfl) ?_
  refine G.a rfl (.xor32 rfl rfl) ?_
  refine G.run 1 rfl (G.nil (E.thenN (WC.seq ?_)))
  refine WC.draw [0, 1, 2, 3, 4, 5, 6, 7, 8, 9, 10, 11, 12, 13, 14, 15, 16, 17] mixed (by kernel_rfl) ?_
  intro w9 d9
  have L9 := L8.trans d9
  have LL := LL.trans d9
  have v9 := (ov.le LL).sl
  refine G.run 1 rfl ?_
  refine G.a rfl (.idxS1 (7) underlying177 sz25 rfl rfl (hv0) (rfl) (by decide)) ?_
  refine G.r rfl (.loadS na25 rfl (v9) (getw _ (by omega))) ?_
  refine G.run 1 rfl ?_
  refine G.a rfl (.add32 rfl rfl) ?_
  refine G.run 1 rfl ?_
  refine G.a rfl (.add32 rfl rfl) ?_
  refine G.run 2 rfl ?_
  refine G.a rfl (.idxS1 (i) underlying177 sz25 rfl rfl (s6.isSome (j := 0) (by omega) (by decide)) (rfl) (by omega)) ?_
  refine G.r rfl (.loadS na25 rfl (s6.le (Ll.trans LL)) (getw _ (by show i < 64; omega))) ?_
  refine G.a rfl (.add32 rfl rfl) ?_
  refine G.run 2 rfl ?_
  refine G.a rfl (.idxS1 (i) underlying177 sz25 rfl rfl (s5.isSome (j := 0) (by omega) (by decide)) (rfl) (by omega)) ?_
  refine G.r rfl (.loadS na25 rfl (s5.le (Ll.trans LL)) (getw _ (by rw [hsl]; omega))) ?_
  refine G.a rfl (.add32 rfl rfl) ?_
  refine G.run 1 rfl (G.nil (E.thenN (WC.seq ?_)))
  refine WC.draw [0, 1, 2, 4, 5, 6, 9, 10, 11, 3, 7, 8, 12, 13, 14] mixed (by kernel_rfl) ?_
  intro w10 d10
  have L10 := L9.trans d10
  have LL := LL.trans d10
  have v10 := (ov.le LL).sl
  refine G.run 1 rfl ?_
  refine G.a rfl (.idxS1 (0) underlying177 sz25 rfl rfl (hv0) (rfl) (by decide)) ?_
  refine G.r rfl (.loadS na25 rfl (v10) (getw _ (by omega))) ?_
  refine G.run 1 rfl ?_
  refine G.a rfl (.idxS1 (0) underlying177 sz25 rfl rfl (hv0) (rfl) (by decide)) ?_
  refine G.r rfl (.loadS na25 rfl (v10) (getw _ (by omega))) ?_
  refine G.run 1 rfl ?_
  refine G.a rfl (.idxS1 (0) underlying177 sz25 rfl rfl (hv0) (rfl) (by decide)) ?_
  refine G.r rfl (.loadS na25 rfl (v10) (getw _ (by omega))) ?_
  refine G.ef rfl rfl rfl rfl rfl ?_
  refine Ef.call go144 rfl rfl (rturn_ok _ 2 w10 (by omega)) ?_
  rintro _ w10_3 ⟨rfl, h10_3⟩
  refine ⟨_, rfl, ?_⟩
  have L10_3 := L10.trans h10_3
  refine ⟨fun _ => h10_3, ?_⟩
  refine G.ef rfl rfl rfl rfl rfl ?_
  refine Ef.call go144 rfl rfl (rturn_ok _ 13 w10_3 (by omega)) ?_
  rintro _ w10_7 ⟨rfl, h10_7⟩
  refine ⟨_, rfl, ?_⟩
  have L10_7 := L10_3.trans h10_7
  refine ⟨fun _ => h10_7, ?_⟩
  refine G.a rfl (.xor32 rfl rfl) ?_
  refine G.ef rfl rfl rfl rfl rfl ?_
  refine Ef.call go144 rfl rfl (rturn_ok _ 22 w10_7 (by omega)) ?_
  rintro _ w10_12 ⟨rfl, h10_12⟩
  refine ⟨_, rfl, ?_⟩
  have L10_12 := L10_7.trans h10_12
  refine ⟨fun _ => h10_12, ?_⟩
  refine G.a rfl (.xor32 rfl rfl) ?_
  refine G.run 1 rfl (G.nil (E.thenN (WC.seq ?_)))
  refine WC.draw [0, 1, 2, 3, 4, 5, 6, 7, 8, 9, 10, 11, 12, 13, 14, 15, 16, 17, 18, 19, 20, 21, 22, 23] mixed (by kernel_rfl) ?_
  intro w11 d11
  have L11 := L10_12.trans d11
  have LL := LL.trans (h10_3.trans (h10_7.trans (h10_12.trans d11)))
  have v11 := (ov.le LL).sl
  refine G.run 1 rfl ?_
  refine G.a rfl (.idxS1 (0) underlying177 sz25 rfl rfl (hv0) (rfl) (by decide)) ?_
  refine G.r rfl (.loadS na25 rfl (v11) (getw _ (by omega))) ?_
  refine G.run 1 rfl ?_
  refine G.a rfl (.idxS1 (1) underlying177 sz25 rfl rfl (hv0) (rfl) (by decide)) ?_
  refine G.r rfl (.loadS na25 rfl (v11) (getw _ (by omega))) ?_
  refine G.a rfl (.and32 rfl rfl) ?_
  refine G.run 1 rfl ?_
  refine G.a rfl (.idxS1 (0) underlying177 sz25 rfl rfl (hv0) (rfl) (by decide)) ?_
  refine G.r rfl (.loadS na25 rfl (v11) (getw _ (by omega))) ?_
  refine G.run 1 rfl ?_
  refine G.a rfl (.idxS1 (2) underlying177 sz25 rfl rfl (hv0) (rfl) (by decide)) ?_
  refine G.r rfl (.loadS na25 rfl (v11) (getw _ (by omega))) ?_
  refine G.a rfl (.and32 rfl rfl) ?_
  refine G.a rfl (.xor32 rfl rfl) ?_
  refine G.run 1 rfl ?_
  refine G.a rfl (.idxS1 (1) underlying177 sz25 rfl rfl (hv0) (rfl) (by decide)) ?_
  refine G.r rfl (.loadS na25 rfl (v11) (getw _ (by omega))) ?_
  refine G.run 1 rfl ?_
  refine G.a rfl (.idxS1 (2) underlying177 sz25 rfl rfl (hv0) (rfl) (by decide)) ?_
  refine G.r rfl (.loadS na25 rfl (v11) (getw _ (by omega))) ?_
  refine G.a rfl (.and32 rfl rfl) ?_
  refine G.a rfl (.xor32 rfl rfl) ?_
  refine G.run 1 rfl (G.nil (E.thenN ?_))
  refine WC.draw [0, 1, 2, 3, 4, 5, 6, 7, 8, 9, 10, 11, 12, 13, 14, 15, 16, 17, 18, 19, 20, 21, 22, 23, 24, 25, 26, 27, 28, 29] mixed (by kernel_rfl) ?_
  intro w12 d12
  have L12 := L11.trans d12
  have v12 := (ov.le (LL.trans d12)).sl
  refine G.run 2 rfl ?_
  refine G.a rfl (.add32 rfl rfl) ?_
  refine G.run 1 rfl ?_
  refine G.a rfl (.add32 rfl rfl) ?_
  refine G.run 1 rfl ?_
  refine G.a rfl (.idxS1 (0) underlying177 sz25 rfl rfl (hv0) (rfl) (by decide)) ?_
  refine G.r rfl (.loadS na25 rfl (v12) (getw _ (by omega))) ?_
  refine G.run 1 rfl ?_
  refine G.a rfl (.idxS1 (1) underlying177 sz25 rfl rfl (hv0) (rfl) (by decide)) ?_
  refine G.r rfl (.loadS na25 rfl (v12) (getw _ (by omega))) ?_
  refine G.run 1 rfl ?_
  refine G.a rfl (.idxS1 (2) underlying177 sz25 rfl rfl (hv0) (rfl) (by decide)) ?_
  refine G.r rfl (.loadS na25 rfl (v12) (getw _ (by omega))) ?_
  refine G.run 1 rfl ?_
  refine G.a rfl (.idxS1 (3) underlying177 sz25 rfl rfl (hv0) (rfl) (by decide)) ?_
  refine G.r rfl (.loadS na25 rfl (v12) (getw _ (by omega))) ?_
  refine G.run 1 rfl ?_
  refine G.a rfl (.add32 rfl rfl) ?_
  refine G.run 1 rfl ?_
  refine G.a rfl (.idxS1 (4) underlying177 sz25 rfl rfl (hv0) (rfl) (by decide)) ?_
  refine G.r rfl (.loadS na25 rfl (v12) (getw _ (by omega))) ?_
  refine G.run 1 rfl ?_
  refine G.a rfl (.idxS1 (5) underlying177 sz25 rfl rfl (hv0) (rfl) (by decide)) ?_
  refine G.r rfl (.loadS na25 rfl (v12) (getw _ (by omega))) ?_
  refine G.run 1 rfl ?_
  refine G.a rfl (.idxS1 (6) underlying177 sz25 rfl rfl (hv0) (rfl) (by decide)) ?_
  refine G.r rfl (.loadS na25 rfl (v12) (getw _ (by omega))) ?_
  refine G.ef rfl rfl rfl rfl rfl ?_
  refine Ef.buildSliceN [_, _, _, _, _, _, _, _] underlying177 el25 rfl (one8 _ _ _ _ _ _ _ _) rfl (by decide) (by decide) ?_
  intro g12_28 w12_28 hg12_28 b12_28 h12_28
  have L12_28 := L12.trans h12_28
  refine ⟨fun _ => h12_28, ?_⟩
  refine G.run 1 rfl (G.nil (E.blkN (E.thenN (WC.region (W.run 1 rfl ?_)))))
  refine W.a (.add rfl rfl (by omega)) ?_
  refine W.run 1 rfl (W.nil ?_)
  refine E.again (i + 1, _, _) (.cons rfl (.cons rfl (.cons rfl (.cons rfl (.cons rfl (.nil _)))))) ?_ ?_
  ·exact ⟨by omega, Ll.trans (LL.trans (d12.trans h12_28)), (b12_28.own (s := 1) (n := 8) (Nat.le_trans L12.size hg12_28) rfl (by unfold maxLen; omega)).cast rfl (by rw [roundsTo, <- hv, stepW]; simp [choice_eq, most_eq])⟩
  first | omega | (simp only []; omega)
 rw [hv] at ov hvl
 have hi64 : i = 64 := by omega
 subst hi64
 obtain ⟨g7, rfl, hg7, _, _⟩ := ov.lit (by omega)
 refine WC.exit (E.thenX (E.thenX (E.blkH (E.thenN (WC.seq (WC.sr (W.run 1 rfl (W.nx (WC.block ?_)))))))))
 refine WC.loop (ι := Nat) (fun j => [(0, .slice A 8 c), (7, .slice (some ⟨g7, 0, none⟩) 8 c7), (14, .int .i64 (j : Int))]) (fun j wm => j <= 8 /\ Le w wm /\ Own wm w.heap.size 25 1 (some ⟨g7, 0, none⟩) 8 c7 ((addTo (roundsTo h (sched b) 64) h j).map u32v)) (fun j => 8 - j) 0 ?_ ?_ ?_
 ·exact .cons rfl (.cons rfl (.cons rfl (.nil _)))
 ·exact ⟨by omega, (L3_2.trans Ll), ov.cast rfl (by rw [addTo_zero _ _ hvl])⟩
 rintro j wm ⟨hj, Lm, ov⟩
 have hal := addTo_length (roundsTo h (sched b) 64) h j
 refine WC.seq (WC.sr (W.run 2 rfl (W.nx ?_)))
 refine WC.cond rfl (fun c1 => ?_) (fun c1 => ?_)
 ·refine WC.sn (WC.seq (WC.block ?_))
  refine WC.draw [0, 1, 2, 3, 4, 5, 6, 7, 8, 9, 10, 11, 12] mixed (by kernel_rfl) ?_
  intro w16 d16
  have L16 := Lm.trans d16
  refine G.run 4 rfl ?_
  refine G.a rfl (.idxS1 (j) underlying177 sz25 rfl rfl (rfl) (rfl) (by omega)) ?_
  refine G.r rfl (.loadS na25 rfl ((ov.le d16).sl) ((getw (addTo (roundsTo h (sched b) 64) h j) (k := j) (by omega)).trans (by rw [addTo_at _ _ _ _ (by omega), if_neg (by omega)]))) ?_
  refine G.run 2 rfl ?_
  refine G.a rfl (.idxS1 (j) underlying177 sz25 rfl rfl (hH.isSome (j := 0) (by omega) (by decide)) (rfl) (by omega)) ?_
  refine G.r rfl (.loadS na25 rfl (hH.le L16) (getw _ (by omega))) ?_
  refine G.a rfl (.add32 rfl rfl) ?_
  refine G.a rfl (.idxB1 (j) underlying177 sz25 rfl rfl (rfl) (by omega)) ?_
  refine G.ef0 rfl rfl rfl rfl ?_
  refine Ef.storeO sz25 rfl rfl (ov.le d16) (by omega) (rfl) ?_
  intro w16_12 o16_12 h16_12
  have L16_12 : Le w w16_12 := L16.then_ h16_12 (fun q hq => by cases hq; exact hg7)
  refine noT (by kernel_rfl) ?_
  refine G.nil (E.blkN (E.thenN (WC.region (W.run 1 rfl ?_))))
  refine W.a (.add rfl rfl (by omega)) ?_
  refine W.run 1 rfl (W.nil ?_)
  refine E.again (j + 1) (.cons rfl (.cons rfl (.cons rfl (.nil _)))) ?_ ?_
  ·exact ⟨by omega, L16_12, o16_12.cast rfl (by rw [<- addTo_succ _ _ j (by omega)]; simp)⟩
  first | omega | (simp only []; omega)
 have hj8 : j = 8 := by omega
 subst hj8
 refine WC.exit (E.thenX (E.thenX (E.blkH (E.thenN (WC.sr (W.run 2 rfl (W.nx (WC.ret ?_))))))))
 refine E.ret1 rfl rfl ?_
 exact ⟨_, _, rfl, ov, Lm⟩

theorem rlong_ok (m : Nat) (w : World) (_hm : m < 18446744073709551616) : Calls prog 106 #[.int .u64 (m : Int)] w fun e w' => ∃ A' c', e = .returned (.slice A' (8) c') /\ Own w' w.heap.size 5 1 A' (8) c' ((be8 m).map u8v) /\ Le w w' := by
 refine enter func106 rfl rfl ?_
 have L0 := Le.refl w
 refine WC.sr (W.run 1 rfl (W.nx (WC.sr (W.run 1 rfl (W.nx (WC.seq (WC.sr (W.run 1 rfl (W.nx (WC.block ?_))))))))))
 refine WC.loop (ι := Nat × Option Addr × Nat) (fun ⟨k, A1, c1⟩ => [(0, .int .u64 (m : Int)), (3, .slice A1 k c1), (4, .int .i64 (56 - 8 * (k : Int)))]) (fun ⟨k, A1, c1⟩ wl => k <= 8 /\ Le w wl /\ Own wl w.heap.size 5 1 A1 k c1 ((be8To m k).map u8v)) (fun ⟨k, A1, c1⟩ => 8 - k) (0, none, 0) ?_ ?_ ?_
 ·exact .cons rfl (.cons rfl (.cons rfl (.nil _)))
 ·exact ⟨by omega, L0, Own.empty _ _ _ _ _⟩
 rintro ⟨k, A1, c1⟩ wl ⟨hk, Ll, ol⟩
 refine WC.seq (WC.sr (W.run 2 rfl (W.nx ?_)))
 refine WC.cond rfl (fun c0 => ?_) (fun c0 => ?_)
 ·refine WC.sn (WC.seq (WC.block (WC.region (W.run 3 rfl ?_))))
  refine W.a (.shrN m (56 - 8 * k) rfl rfl rfl (by omega) (by show 56 - 8 * k <= 64; omega)) ?_
  refine W.r (.toU8 (m >>> (56 - 8 * k)) (isS underlying34) underlying5 rfl rfl) ?_
  refine W.ef rfl rfl rfl ?_
  refine Ef.buildSlice1 underlying30 el5 rfl rfl ?_
  intro g5_5 w5_5 hg5_5 b5_5 h5_5
  have L5_5 := Ll.trans h5_5
  refine W.ef rfl rfl rfl ?_
  refine Ef.append underlying30 el5 rfl (ol.le h5_5) rfl (b5_5.src1 underlying30 rfl) (by omega) (by unfold maxLen; omega) (L5_5.size) ?_
  intro A5_6 c5_6 w5_6 o5_6 h5_6 at5_6
  have L5_6 : Le w w5_6 := L5_5.then_ h5_6 (fun q hq => (ol.row hq).1)
  refine W.run 1 rfl (W.nil (E.blkN (E.thenN (WC.region (W.run 1 rfl ?_)))))
  refine W.a (.sub rfl rfl (by omega)) ?_
  refine W.run 1 rfl (W.nil ?_)
  refine E.again (k + 1, A5_6, c5_6) (.cons rfl (.cons rfl (.cons' rfl (int_eq (by omega)) (.nil _)))) ?_ ?_
  ·exact ⟨by omega, L5_6, o5_6.cast rfl (by rw [be8To_succ m k (by omega)]; simp)⟩
  first | omega | (simp only []; omega)
 have hk8 : k = 8 := by omega
 subst hk8
 refine WC.exit (E.thenX (E.thenX (E.blkH (E.thenN (WC.sr (W.run 2 rfl (W.nx (WC.ret ?_))))))))
 refine E.ret1 rfl rfl ?_
 exact ⟨_, _, rfl, ol, Ll⟩

theorem rpadded_ok {A : Option Addr} {n c : Nat} {xs : List Byte} (w : World) (hS : Sb w A n xs) (hn : n <= 35184372088832) : Calls prog 130 #[.slice A n c] w fun e w' => ∃ A' c', e = .returned (.slice A' (n + 1 + noughts n + 8) c') /\ Own w' w.heap.size 5 1 A' (n + 1 + noughts n + 8) c' ((padB xs).map u8v) /\ Le w w' := by
 have hl := hS.len
 have hk63 : noughts n <= 63 := by unfold noughts; omega
 refine enter func130 rfl rfl ?_
 have L0 := Le.refl w
 refine WC.sr (W.run 1 rfl (W.nx (WC.sr (W.ef rfl rfl rfl ?_))))
 refine Ef.buildSlice0 underlying30 el5 ?_
 intro g1_0 w1_0 hg1_0 b1_0 h1_0
 have L1_0 := L0.trans h1_0
 refine W.run 1 rfl (W.ef rfl rfl rfl ?_)
 refine Ef.append underlying30 el5 rfl (Own.empty w1_0 w.heap.size 5 1 _) rfl ((hS.le L1_0).src underlying30 _) (by omega) (by unfold maxLen; omega) (L1_0.size) ?_
 intro A1_2 c1_2 w1_2 o1_2 h1_2 at1_2
 have L1_2 : Le w w1_2 := L1_0.then_ h1_2 (fun q hq => by rw [rowOf_zero] at hq; cases hq)
 refine W.run 1 rfl (W.nx (WC.sr (W.run 1 rfl (W.ef rfl rfl rfl ?_))))
 refine Ef.buildSlice1 underlying30 el5 rfl rfl ?_
 intro g2_1 w2_1 hg2_1 b2_1 h2_1
 have L2_1 := L1_2.trans h2_1
 refine W.ef rfl rfl rfl ?_
 refine Ef.append underlying30 el5 rfl (o1_2.le h2_1) rfl (b2_1.src1 underlying30 rfl) (by omega) (by unfold maxLen; omega) (L2_1.size) ?_
 intro A2_2 c2_2 w2_2 o2_2 h2_2 at2_2
 have L2_2 : Le w w2_2 := L2_1.then_ h2_2 (fun q hq => (o1_2.row hq).1)
 refine W.run 1 rfl (W.nx (WC.seq (WC.block ?_)))
 refine WC.loop (ι := Nat × Option Addr × Nat) (fun ⟨k, A1, c1⟩ => [(0, .slice A n c), (3, .slice A1 (n + 1 + k) c1)]) (fun ⟨k, A1, c1⟩ wl => k <= noughts n /\ Le w wl /\ Own wl w.heap.size 5 1 A1 (n + 1 + k) c1 ((xs ++ [128] ++ List.replicate k 0).map u8v)) (fun ⟨k, A1, c1⟩ => 64 - k) (0, A2_2, c2_2) ?_ ?_ ?_
 ·exact .cons rfl (.cons' rfl (slice_eq (by omega)) (.nil _))
 ·exact ⟨Nat.zero_le _, L2_2, o2_2.cast (by omega) (by simp; rfl)⟩
 rintro ⟨k, A1, c1⟩ wl ⟨hk, Ll, ol⟩
 have hk63 : noughts n <= 63 := by unfold noughts; omega
 refine WC.seq (WC.sr (W.run 1 rfl ?_))
 refine W.r (.len underlying30 rfl) ?_
 refine W.a (.rem rfl rfl (by omega)) ?_
 refine W.run 1 rfl (W.nx ?_)
 refine WC.cond rfl (fun c0 => ?_) (fun c0 => ?_)
 ·refine WC.sn (WC.block (WC.region (W.run 1 rfl (W.ef rfl rfl rfl ?_))))
  refine Ef.buildSlice1 underlying30 el5 rfl rfl ?_
  intro g4_1 w4_1 hg4_1 b4_1 h4_1
  have L4_1 := Ll.trans h4_1
  refine W.ef rfl rfl rfl ?_
  refine Ef.append underlying30 el5 rfl (ol.le h4_1) rfl (b4_1.src1 underlying30 rfl) (by omega) (by unfold maxLen; omega) (L4_1.size) ?_
  intro A4_2 c4_2 w4_2 o4_2 h4_2 at4_2
  have L4_2 : Le w w4_2 := L4_1.then_ h4_2 (fun q hq => (ol.row hq).1)
  refine W.run 1 rfl (W.nil (E.blkN ?_))
  refine E.again (k + 1, A4_2, c4_2) (.cons rfl (.cons' rfl (slice_eq (by omega)) (.nil _))) ?_ ?_
  ·exact ⟨by unfold noughts at *; omega, L4_2, o4_2.cast (by omega) (by simp [List.replicate_succ']; rfl)⟩
  first | omega | (simp only []; omega)
 have hkn : k = noughts n := by unfold noughts at *; omega
 subst hkn
 refine WC.exit (E.thenX (E.thenX (E.blkH (E.thenN (WC.sr (W.run 1 rfl ?_))))))
 refine W.r (.len underlying30 rfl) ?_
 refine W.r (.convEq (i' := (n : Int)) (isS underlying3) underlying34 rfl (by rw [wrap_u64]; omega)) ?_
 refine W.a (.mulU rfl rfl (by omega)) ?_
 refine W.run 1 rfl (W.nx (WC.seq (WC.sr (W.run 1 rfl (W.nx (WC.block ?_))))))
 refine WC.loop (ι := Nat × Option Addr × Nat) (fun ⟨k, A1, cz⟩ => [(3, .slice A1 (n + 1 + noughts n + k) cz), (4, .int .u64 (8 * (n : Int))), (5, .int .i64 (56 - 8 * (k : Int)))]) (fun ⟨k, A1, cz⟩ wm => k <= 8 /\ Le w wm /\ Own wm w.heap.size 5 1 A1 (n + 1 + noughts n + k) cz ((xs ++ [128] ++ List.replicate (noughts n) 0 ++ be8To (8 * n) k).map u8v)) (fun ⟨k, A1, cz⟩ => 8 - k) (0, A1, c1) ?_ ?_ ?_
 ·exact .cons rfl (.cons rfl (.cons rfl (.nil _)))
 ·exact ⟨by omega, Ll, ol.cast rfl (by simp [be8To])⟩
 rintro ⟨k, A1, cz⟩ wm ⟨hk, Lm, ol⟩
 refine WC.seq (WC.sr (W.run 2 rfl (W.nx ?_)))
 refine WC.cond rfl (fun c1 => ?_) (fun c1 => ?_)
 ·refine WC.sn (WC.seq (WC.block (WC.region (W.run 3 rfl ?_))))
  refine W.a (.shrN (8 * n) (56 - 8 * k) rfl (by omega) rfl (by omega) (by show 56 - 8 * k <= 64; omega)) ?_
  refine W.r (.toU8 ((8 * n) >>> (56 - 8 * k)) (isS underlying34) underlying5 rfl rfl) ?_
  refine W.ef rfl rfl rfl ?_
  refine Ef.buildSlice1 underlying30 el5 rfl rfl ?_
  intro g9_5 w9_5 hg9_5 b9_5 h9_5
  have L9_5 := Lm.trans h9_5
  refine W.ef rfl rfl rfl ?_
  refine Ef.append underlying30 el5 rfl (ol.le h9_5) rfl (b9_5.src1 underlying30 rfl) (by omega) (by unfold maxLen; omega) (L9_5.size) ?_
  intro A9_6 c9_6 w9_6 o9_6 h9_6 at9_6
  have L9_6 : Le w w9_6 := L9_5.then_ h9_6 (fun q hq => (ol.row hq).1)
  refine W.run 1 rfl (W.nil (E.blkN (E.thenN (WC.region (W.run 1 rfl ?_)))))
  refine W.a (.sub rfl rfl (by omega)) ?_
  refine W.run 1 rfl (W.nil ?_)
  refine E.again (k + 1, A9_6, c9_6) (.cons rfl (.cons rfl (.cons' rfl (int_eq (by omega)) (.nil _)))) ?_ ?_
  ·exact ⟨by omega, L9_6, o9_6.cast rfl (by rw [be8To_succ (8 * n) k (by omega)]; simp)⟩
  first | omega | (simp only []; omega)
 have hk8 : k = 8 := by omega
 subst hk8
 refine WC.exit (E.thenX (E.thenX (E.blkH (E.thenN (WC.sr (W.run 2 rfl (W.nx (WC.ret ?_))))))))
 refine E.ret1 rfl rfl ?_
 exact ⟨_, _, rfl, ol.cast rfl (by rw [padB, hl]; rfl), Lm⟩

set_option maxHeartbeats 1000000 in
theorem rsum_ok {A : Option Addr} {n c : Nat} {xs : List Byte} (w : World) (hS : Sb w A n xs) (hn : n <= 35184372088832) : Calls prog 107 #[.slice A n c] w fun e w' => e = .returned (.agg ((sum xs).map u8v).toArray) /\ Le w w' := by
 have hk63 : noughts n <= 63 := by unfold noughts; omega
 refine enter func107 rfl rfl ?_
 have L0 := Le.refl w
 refine WC.sr (W.ef rfl rfl rfl ?_)
 refine Ef.allocA z23 ?_
 intro g0_0 w0_0 hg0_0 b0_0 h0_0
 have L0_0 := L0.trans h0_0
 have b0 : Blk w0_0 g0_0 23 ((List.replicate 32 0#8).map u8v).toArray := b0_0
 refine W.nx (WC.sr (W.run 1 rfl ?_))
 refine W.cl go130 rfl rfl (rpadded_ok w0_0 (hS.le L0_0) hn) ?_
 rintro _ w1_1 ⟨A1, c1, rfl, o1, h1_1⟩
 have L1_1 := L0_0.trans h1_1
 have hP := o1.sb
 have hPl := hP.len
 have hPm := padB_mod xs
 have hPc := o1.cap
 rw [hPl] at hPm
 obtain ⟨N, hN⟩ : ∃ N, N = n + 1 + noughts n + 8 := ⟨_, rfl⟩
 rw [<- hN] at hP hPl hPm hPc ⊢
 refine W.run 1 rfl (W.nx (WC.sr ?_))
 refine W.cl go131 rfl rfl (rfirsts_ok w1_1) ?_
 rintro _ w2_0 ⟨A2, c2, rfl, o2, h2_0⟩
 have L2_0 := L1_1.trans h2_0
 refine W.run 1 rfl (W.nx (WC.seq (WC.sr (W.run 1 rfl (W.nx (WC.block ?_))))))
 refine WC.loop (ι := Nat × Option Addr × Nat × List Word) (fun ⟨j, Ah, ch, hh⟩ => [(2, .pointer (some ⟨g0_0, 0, none⟩)), (3, .slice A1 N c1), (4, .slice Ah 8 ch), (5, .int .i64 (64 * (j : Int)))]) (fun ⟨j, Ah, ch, hh⟩ wl => 64 * j <= N /\ Le w2_0 wl /\ hh.length = 8 /\ Sl wl 1 Ah 8 (hh.map u32v) /\ mixAll hh ((padB xs).drop (64 * j)) = mixAll first (padB xs)) (fun ⟨j, Ah, ch, hh⟩ => N - 64 * j) (0, A2, c2, first) ?_ ?_ ?_
 ·exact .cons rfl (.cons rfl (.cons rfl (.cons rfl (.nil _))))
 ·exact ⟨by omega, Le.refl _, rfl, o2.sl, rfl⟩
 rintro ⟨j, Ah, ch, hh⟩ wl ⟨hj, Ll, hhl, sh, hmx⟩
 refine WC.seq (WC.sr (W.run 2 rfl ?_))
 refine W.r (.len underlying30 rfl) ?_
 refine W.run 1 rfl (W.nx ?_)
 refine WC.cond rfl (fun c0 => ?_) (fun c0 => ?_)
 ·have hjN : 64 * j + 64 <= N := by omega
  refine WC.sn (WC.seq (WC.block (WC.region (W.run 4 rfl ?_))))
  refine W.a (.add rfl rfl (by omega)) ?_
  refine W.a (.cut (64 * j) (64 * j + 64) underlying30 sz5 rfl rfl (by omega) rfl (by omega) (by omega) (by omega)) ?_
  refine W.cl go132 rfl rfl (rblock_ok wl hhl sh (((hP.le (h2_0.trans Ll)).cut c1 (64 * j) (64 * j + 64) (by omega) (by omega) hPc.1).cast rfl (show _ = ((padB xs).drop (64 * j)).take 64 by rw [show 64 * j + 64 - 64 * j = 64 by omega])) (by omega)) ?_
  rintro _ w6_6 ⟨A6, c6, rfl, o6, h6_6⟩
  have L6_6 := (L2_0.trans Ll).trans h6_6
  refine W.run 1 rfl (W.nil (E.blkN (E.thenN (WC.region (W.run 1 rfl ?_)))))
  refine W.a (.add rfl rfl (by omega)) ?_
  refine W.run 1 rfl (W.nil ?_)
  refine E.again (j + 1, A6, c6, mix hh (((padB xs).drop (64 * j)).take 64)) (.cons rfl (.cons rfl (.cons rfl (.cons' rfl (int_eq (by omega)) (.nil _))))) ?_ ?_
  ·exact ⟨by omega, Ll.trans h6_6, mix_length _ _, o6.sl, by rw [<- hmx, mixAll_step hh ((padB xs).drop (64 * j)) (by rw [List.length_drop]; omega), List.drop_drop] <;> (try congr 2) <;> (try omega)⟩
  first | omega | (simp only []; omega)
 have hjN : 64 * j = N := by omega
 have hhe : hh = mixAll first (padB xs) := by rw [<- hmx, mixAll_end _ _ (by rw [List.length_drop]; omega)]
 refine WC.exit (E.thenX (E.thenX (E.blkH (E.thenN (WC.sr (W.ef rfl rfl rfl ?_))))))
 refine Ef.allocA z23 ?_
 intro g7_0 w7_0 hg7_0 b7_0 h7_0
 have L7_0 := (L2_0.trans Ll).trans h7_0
 have b7 : Blk w7_0 g7_0 23 ((List.replicate 32 0#8).map u8v).toArray := b7_0
 have b0 := b0.le (h1_1.trans (h2_0.trans (Ll.trans h7_0)))
 have n07 : g0_0 < g7_0 := by have := b0_0.lt; have := h1_1.size; have := h2_0.size; have := Ll.size; omega
 refine W.nx (WC.seq (WC.sr ?_))
 have shne : blkOf Ah ≠ some g7_0 := by
  obtain ⟨ad, rfl, hc0⟩ := sh.2 0 (u32v (hh.getD 0 0)) (getw _ (by omega))
  have := block_lt_of_cell hc0
  simp [blkOf] at this ⊢; have h0 : (ad.add 0).block = ad.block := by simp [Addr.add]
  omega
 refine W.run 1 rfl (W.nx (WC.block ?_))
 refine WC.loop (ι := Nat) (fun k => [(2, .pointer (some ⟨g0_0, 0, none⟩)), (4, .slice Ah 8 ch), (6, .pointer (some ⟨g7_0, 0, none⟩)), (7, .int .i64 (k : Int))]) (fun k wr => k <= 32 /\ Ch w7_0 wr (some g7_0) /\ Blk wr g7_0 23 ((digestTo hh k).map u8v).toArray) (fun k => 32 - k) 0 ?_ ?_ ?_
 ·exact .cons rfl (.cons rfl (.cons rfl (.cons rfl (.nil _))))
 ·exact ⟨by omega, Ch.refl _ _, b7⟩
 rintro k wr ⟨hk, Cr, b7⟩
 have hdl := digestTo_length hh k hk
 have b0 := b0.ch Cr (by simp; omega)
 have sh := (sh.le h7_0).ch Cr (fun q hq => by cases hq; exact shne)
 refine WC.seq (WC.sr (W.run 2 rfl (W.nx ?_)))
 refine WC.cond rfl (fun c1 => ?_) (fun c1 => ?_)
 ·refine WC.sn (WC.seq (WC.block (WC.region (W.run 3 rfl ?_))))
  refine W.a (.quo rfl rfl (by omega)) ?_
  refine W.a (.idxS1 (k / 4) underlying177 sz25 rfl rfl (sh.isSome (j := 0) (by omega) (by decide)) (by omega) (by omega)) ?_
  refine W.r (.loadS na25 rfl (sh) (getw _ (by omega))) ?_
  refine W.run 1 rfl ?_
  refine W.a (.rem rfl rfl (by omega)) ?_
  refine W.a (.mul rfl rfl (by omega)) ?_
  refine W.a (.sub rfl rfl (by omega)) ?_
  refine W.a (.shr32 (24 - 8 * (k % 4)) rfl rfl (by omega) (by omega)) ?_
  refine W.r (.u32to8 (isS underlying25) underlying5 rfl) ?_
  refine W.a (.idxA1 (k) underlying23 sz5 rfl rfl (rfl) (by omega)) ?_
  refine W.ef0 rfl rfl ?_
  refine Ef.store sz5 rfl rfl (b7) (by simp; omega) (rfl) ?_
  intro w11_13 b11_13 h11_13
  have L11_13 : Le w w11_13 := (L7_0.then_ Cr (fun q hq => by cases hq; exact Nat.le_trans (L2_0.trans Ll).size hg7_0)).then_ h11_13 (fun q hq => by cases hq; exact Nat.le_trans (L2_0.trans Ll).size hg7_0)
  refine W.nil (E.blkN (E.thenN (WC.region (W.run 1 rfl ?_))))
  refine W.a (.add rfl rfl (by omega)) ?_
  refine W.run 1 rfl (W.nil ?_)
  refine E.again (k + 1) (.cons rfl (.cons rfl (.cons rfl (.cons rfl (.nil _))))) ?_ ?_
  ·exact ⟨by omega, Cr.trans h11_13, b11_13.cast (by rw [<- digestTo_succ hh k (by omega)]; apply Array.ext'; simp)⟩
  first | omega | (simp only []; omega)
 have hk32 : k = 32 := by omega
 subst hk32
 refine WC.exit (E.thenX (E.thenX (E.blkH (E.thenN (WC.sr ?_)))))
 refine W.r (.loadAll ag23 (by simp [hdl]) rfl (b7)) ?_
 refine W.ef0 rfl rfl ?_
 refine Ef.storeAll sz23 (by simp [hdl]) rfl rfl (b0) (by simp [hdl]) (all_u8v _) ?_
 intro w12_1 b12_1 h12_1
 have L12_1 : Le w w12_1 := (L7_0.then_ Cr (fun q hq => by cases hq; exact Nat.le_trans (L2_0.trans Ll).size hg7_0)).then_ h12_1 (fun q hq => by cases hq; exact hg0_0)
 refine W.nx (WC.ret ?_)
 refine E.retC rfl rfl b12_1 ag23 (by simp [hdl]) ?_
 exact ⟨by rw [sum_pad, <- hhe]; simp [digestTo, List.take_of_length_le, digest_length], L12_1⟩
end Go.Proofs.YtgpaekbdbpkogaaGreat

namespace Go.Proofs.YtgpaekbdbpkogaaGreat
open Tryz
open Go Go.Sx Go.Hsp
set_option maxRecDepth 20000
theorem take_snoc (xs key : List Byte) (k : Nat) (h : k < key.length) : (xs ++ key.take k).map u8v ++ [u8v (key.getD k 0)] = (xs ++ key.take (k + 1)).map u8v := by
  have e : key.take (k + 1) = key.take k ++ [key.getD k 0] := by rw [List.take_add_one, List.getElem?_eq_getElem h, show key.getD k 0 = key[k] by simp [List.getD, h]]; rfl
  rw [e, <- List.append_assoc, List.map_append (l₁ := xs ++ key.take k)]; rfl

set_option maxHeartbeats 1000000 in
theorem rtag_ok {A : Option Addr} {n c : Nat} {vs : List Value} {ps : List (List Byte)} (name : ByteArray) (nm : List Byte) (w : World) (hnm : byteCells name = nm.map u8v) (hV : Sl w 1 A n vs) (hP : Parts w vs ps) (hT : (tagBytes nm ps).length <= 1099511627776) : Calls prog 87 #[.string name, .slice A n c] w fun e w' => e = .returned (.agg ((tag nm ps).map u8v).toArray) /\ Le w w' := by
 have hns : name.size = nm.length := by have := congrArg List.length hnm; simpa [byteCells_length] using this
 have hnl : nm.length = name.size := hns.symm
 have hvl := hV.1
 have hpl := hP.1
 have hpn := tagBytes_parts nm ps
 have hle := tagTo_le nm ps 0
 rw [tagTo_zero] at hle
 simp [be8_length] at hle
 refine enter func87 rfl rfl ?_
 have L0 := Le.refl w
 refine WC.sr (W.ef rfl rfl rfl ?_)
 refine Ef.allocA z23 ?_
 intro g0_0 w0_0 hg0_0 b0_0 h0_0
 have L0_0 := L0.trans h0_0
 have b0 : Blk w0_0 g0_0 23 ((List.replicate 32 0#8).map u8v).toArray := b0_0
 have lt0 := b0.lt
 refine W.nx (WC.sr (W.run 1 rfl ?_))
 refine W.r (.lenStr underlying9 rfl) ?_
 refine W.r (.convEq (i' := (name.size : Int)) (isS underlying3) underlying34 rfl (by rw [wrap_u64]; omega)) ?_
 refine W.cl go106 rfl rfl (rlong_ok name.size w0_0 (by omega)) ?_
 rintro _ w1_3 ⟨A1, c1, rfl, o1, h1_3⟩
 have L1_3 := L0_0.trans h1_3
 refine W.run 1 rfl (W.ef rfl rfl rfl ?_)
 refine Ef.strBytes underlying9 underlying30 underlying5 rfl ?_
 intro A2 c2 w1_5 s2 _ h1_5
 have L1_5 := L1_3.trans h1_5
 refine W.ef rfl rfl rfl ?_
 refine Ef.append underlying30 el5 rfl (o1.le h1_5) rfl (s2.src underlying30 (by decide) _ (fun u hu => by rw [hnm] at hu; exact all_u8v _ u hu)) (by omega) (by unfold maxLen; omega) (Nat.le_trans h1_3.size h1_5.size) ?_
 intro A1_6 c1_6 w1_6 o1_6 h1_6 at1_6
 have L1_6 : Le w w1_6 := L1_5.then_ h1_6 (fun q hq => Nat.le_trans L0_0.size (o1.row hq).1)
 have o3 := o1_6.mono (Nat.le_refl _)
 have b0 := b0.le (h1_3.trans h1_5) |>.ch h1_6 (fun he => by have := (o1.row he).1; omega)
 refine W.run 1 rfl (W.nx (WC.seq (WC.sr (W.run 1 rfl (W.nx (WC.block ?_))))))
 refine WC.loop (ι := Nat × Option Addr × Nat) (fun ⟨k, A3, c3⟩ => [(1, .slice A n c), (4, .pointer (some ⟨g0_0, 0, none⟩)), (5, .slice A3 (tagTo nm ps k).length c3), (6, .int .i64 (k : Int))]) (fun ⟨k, A3, c3⟩ wl => k <= n /\ Le w0_0 wl /\ Own wl w0_0.heap.size 5 1 A3 (tagTo nm ps k).length c3 ((tagTo nm ps k).map u8v)) (fun ⟨k, A3, c3⟩ => n - k) (0, A1_6, c1_6) ?_ ?_ ?_
 ·exact .cons rfl (.cons rfl (.cons' rfl (slice_eq (by rw [tagTo_zero]; simp [be8_length, hnl])) (.cons rfl (.nil _))))
 ·exact ⟨Nat.zero_le _, (h1_3.trans h1_5).then_ h1_6 (fun q hq => (o1.row hq).1), o3.cast (by rw [tagTo_zero]; simp [be8_length, hnl]) (by rw [tagTo_zero, hnm, hnl]; simp)⟩
 rintro ⟨k, A3, c3⟩ wl ⟨hk, Ll, ol⟩
 have hTk : (tagTo nm ps k).length <= 1099511627776 := Nat.le_trans (tagTo_le nm ps k) hT
 refine WC.seq (WC.sr (W.run 2 rfl ?_))
 refine W.r (.len underlying159 rfl) ?_
 refine W.run 1 rfl (W.nx ?_)
 refine WC.cond rfl (fun c0 => ?_) (fun c0 => ?_)
 ·have hkn : k < n := by omega
  obtain ⟨q, hq⟩ : ∃ q, ps[k]? = some q := ⟨_, List.getElem?_eq_getElem (by omega)⟩
  obtain ⟨v, hv⟩ : ∃ v, vs[k]? = some v := ⟨_, List.getElem?_eq_getElem (by omega)⟩
  obtain ⟨Aq, cq, rfl, hq8⟩ := hP.2 k v q hv hq
  have hsucc := tagTo_succ nm ps k q hq
  have hTk1 : (tagTo nm ps (k + 1)).length <= 1099511627776 := Nat.le_trans (tagTo_le nm ps (k + 1)) hT
  have hsl : (tagTo nm ps (k + 1)).length = (tagTo nm ps k).length + 8 + q.length := by rw [hsucc]; simp [be8_length]; omega
  refine WC.sn (WC.seq (WC.block (WC.sr (W.run 2 rfl ?_))))
  refine W.a (.idxS1 (k) underlying159 sz30 rfl rfl (hV.isSome hkn (by decide)) (rfl) (by omega)) ?_
  refine W.r (.loadS na30 rfl (hV.le (L0_0.trans Ll)) (hv)) ?_
  refine W.r (.len underlying30 rfl) ?_
  refine W.r (.convEq (i' := (q.length : Int)) (isS underlying3) underlying34 rfl (by rw [wrap_u64]; omega)) ?_
  refine W.cl go106 rfl rfl (rlong_ok q.length wl (by omega)) ?_
  rintro _ w5_6 ⟨A4, c4, rfl, o4, h5_6⟩
  have L5_6 := (L0_0.trans Ll).trans h5_6
  refine W.run 1 rfl (W.nx (WC.sr (W.run 2 rfl (W.ef rfl rfl rfl ?_))))
  refine Ef.append underlying30 el5 rfl (ol.le h5_6) rfl (o4.sb.src underlying30 _) (by omega) (by unfold maxLen; omega) (Nat.le_trans Ll.size h5_6.size) ?_
  intro A6_2 c6_2 w6_2 o6_2 h6_2 at6_2
  have L6_2 : Le w w6_2 := L5_6.then_ h6_2 (fun q hq => Nat.le_trans L0_0.size (ol.row hq).1)
  refine W.run 1 rfl (W.nx (WC.region (W.run 3 rfl ?_)))
  refine W.a (.idxS1 (k) underlying159 sz30 rfl rfl (hV.isSome hkn (by decide)) (rfl) (by omega)) ?_
  refine W.r (.loadS na30 rfl (hV.le L6_2) (hv)) ?_
  refine W.ef rfl rfl rfl ?_
  refine Ef.append underlying30 el5 rfl (o6_2) rfl ((hq8.le L6_2).src underlying30 _) (by omega) (by unfold maxLen; omega) (Nat.le_trans (Nat.le_trans Ll.size h5_6.size) h6_2.size) ?_
  intro A7_5 c7_5 w7_5 o7_5 h7_5 at7_5
  have L7_5 : Le w w7_5 := L6_2.then_ h7_5 (fun q hq => Nat.le_trans L0_0.size (o6_2.row hq).1)
  refine W.run 1 rfl (W.nil (E.blkN (E.thenN (WC.region (W.run 1 rfl ?_)))))
  refine W.a (.add rfl rfl (by omega)) ?_
  refine W.run 1 rfl (W.nil ?_)
  refine E.again (k + 1, A7_5, c7_5) (.cons rfl (.cons rfl (.cons' rfl (slice_eq (by rw [hsucc]; simp [be8_length]; omega)) (.cons rfl (.nil _))))) ?_ ?_
  ·exact ⟨by omega, (Le.then_ (Le.then_ (Ll.trans h5_6) h6_2 (fun q hq => (ol.row hq).1)) h7_5 (fun q hq => (o6_2.row hq).1)), o7_5.cast (by rw [hsucc]; simp [be8_length]; omega) (by rw [hsucc]; simp)⟩
  first | omega | (simp only []; omega)
 have hkn : k = n := by omega
 refine WC.exit (E.thenX (E.thenX (E.blkH (E.thenN (WC.sr (W.run 1 rfl ?_))))))
 refine W.cl go107 rfl rfl (rsum_ok wl ol.sb (by omega)) ?_
 rintro _ w8_1 ⟨rfl, h8_1⟩
 have L8_1 := (L0_0.trans Ll).trans h8_1
 refine W.ef0 rfl rfl ?_
 refine Ef.storeAll sz23 (by simp [sum_length]) rfl rfl (b0_0.le (Ll.trans h8_1)) (by simp [sum_length]) (all_u8v _) ?_
 intro w8_2 b8_2 h8_2
 have L8_2 : Le w w8_2 := L8_1.then_ h8_2 (fun q hq => by cases hq; exact hg0_0)
 refine W.nx (WC.ret ?_)
 refine E.retC rfl rfl b8_2 ag23 (by simp [sum_length]) ?_
 exact ⟨by rw [tag, tagTo_all nm ps k (by omega)], L8_2⟩

theorem puthash_ok (key : List Byte) (hk : key.length = 32) {A : Option Addr} {n c : Nat} {xs : List Byte} (w : World) (hS : Sb w A n xs) (hn : n <= 35184372088832) : Calls prog 88 #[.slice A n c, .agg (key.map u8v).toArray] w fun e w' => ∃ A' c', e = .returned (.slice A' (n + 32) c') /\ Own w' w.heap.size 5 1 A' (n + 32) c' ((xs ++ key).map u8v) /\ Le w w' := by
 refine enter func88 rfl rfl ?_
 have L0 := Le.refl w
 refine WC.sr (W.ef rfl rfl rfl ?_)
 refine Ef.boxA rfl ?_
 intro g0_0 w0_0 hg0_0 b0_0 h0_0
 have L0_0 := L0.trans h0_0
 refine W.run 1 rfl (W.nx (WC.sr (W.ef rfl rfl rfl ?_)))
 refine Ef.buildSlice0 underlying30 el5 ?_
 intro g1_0 w1_0 hg1_0 b1_0 h1_0
 have L1_0 := L0_0.trans h1_0
 refine W.run 1 rfl (W.ef rfl rfl rfl ?_)
 refine Ef.append underlying30 el5 rfl (Own.empty w1_0 w0_0.heap.size 5 1 _) rfl ((hS.le L1_0).src underlying30 _) (by omega) (by unfold maxLen; omega) (h1_0.size) ?_
 intro A1_2 c1_2 w1_2 o1_2 h1_2 at1_2
 have L1_2 : Le w w1_2 := L1_0.then_ h1_2 (fun q hq => by rw [rowOf_zero] at hq; cases hq)
 have b0 := (b0_0.le h1_0).ch h1_2 (by rw [rowOf_zero]; simp)
 have lt0 := b0_0.lt
 refine W.run 1 rfl (W.nx (WC.seq (WC.sr (W.run 1 rfl (W.nx (WC.block ?_))))))
 refine WC.loop (ι := Nat × Option Addr × Nat) (fun ⟨k, A1, c1⟩ => [(3, .pointer (some ⟨g0_0, 0, none⟩)), (5, .slice A1 (n + k) c1), (6, .int .i64 (k : Int))]) (fun ⟨k, A1, c1⟩ wl => k <= 32 /\ Le w0_0 wl /\ Own wl w0_0.heap.size 5 1 A1 (n + k) c1 ((xs ++ key.take k).map u8v)) (fun ⟨k, A1, c1⟩ => 32 - k) (0, A1_2, c1_2) ?_ ?_ ?_
 ·exact .cons rfl (.cons' rfl (slice_eq (by omega)) (.cons rfl (.nil _)))
 ·exact ⟨by omega, h1_0.then_ h1_2 (fun q hq => by rw [rowOf_zero] at hq; cases hq), o1_2.cast (by omega) (by simp)⟩
 rintro ⟨k, A1, c1⟩ wl ⟨hk2, Ll, ol⟩
 refine WC.seq (WC.sr (W.run 2 rfl (W.nx ?_)))
 refine WC.cond rfl (fun c0 => ?_) (fun c0 => ?_)
 ·refine WC.sn (WC.seq (WC.block (WC.region (W.run 2 rfl ?_))))
  refine W.a (.idxA1 (k) underlying23 sz5 rfl rfl (rfl) (by omega)) ?_
  refine W.r (.loadB na5 rfl (b0_0.le Ll) (getbA _ (by omega))) ?_
  refine W.ef rfl rfl rfl ?_
  refine Ef.buildSlice1 underlying30 el5 rfl rfl ?_
  intro g5_4 w5_4 hg5_4 b5_4 h5_4
  have L5_4 := (L0_0.trans Ll).trans h5_4
  refine W.ef rfl rfl rfl ?_
  refine Ef.append underlying30 el5 rfl (ol.le h5_4) rfl (b5_4.src1 underlying30 rfl) (by omega) (by unfold maxLen; omega) (Nat.le_trans Ll.size h5_4.size) ?_
  intro A5_5 c5_5 w5_5 o5_5 h5_5 at5_5
  have L5_5 : Le w w5_5 := L5_4.then_ h5_5 (fun q hq => Nat.le_trans L0_0.size (ol.row hq).1)
  refine W.run 1 rfl (W.nil (E.blkN (E.thenN (WC.region (W.run 1 rfl ?_)))))
  refine W.a (.add rfl rfl (by omega)) ?_
  refine W.run 1 rfl (W.nil ?_)
  refine E.again (k + 1, A5_5, c5_5) (.cons rfl (.cons rfl (.cons rfl (.nil _)))) ?_ ?_
  ·exact ⟨by omega, (Ll.trans h5_4).then_ h5_5 (fun q hq => (ol.row hq).1), o5_5.cast rfl (take_snoc xs key k (by omega))⟩
  first | omega | (simp only []; omega)
 have hk32 : k = 32 := by omega
 subst hk32
 refine WC.exit (E.thenX (E.thenX (E.blkH (E.thenN (WC.sr (W.run 2 rfl (W.nx (WC.ret ?_))))))))
 refine E.ret1 rfl rfl ?_
 exact ⟨_, _, rfl, (ol.mono L0_0.size).cast rfl (by rw [List.take_of_length_le (by omega)]), (L0_0.trans Ll)⟩


end Go.Proofs.YtgpaekbdbpkogaaGreat

