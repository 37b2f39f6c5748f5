/- RouteTells: for every input the law answers true and leaves its arguments as they were. -/
import Derived.Test.YtmkdeemjkcigkaaGreatDoorRouteTellsK
import Derived.Test.YtmkdeemjkcigkaaGreatDoorProg
import Derived.KernelRfl
set_option linter.unusedVariables false
set_option linter.unusedSimpArgs false
namespace Go.Proofs.YtmkdeemjkcigkaaGreatDoor
open Go Go.Sx
theorem mixed : Tryz.prog.follows .mixedOrders = true := by kernel_rfl
theorem el2 : El Tryz.prog 2 1 8 (.int .i64 0) := El.mk (by kernel_rfl) (by first | rfl | simp [Value.cells]) (by decide)
theorem z2 : Zr Tryz.prog 2 (.int .i64 0) := el2.zr
theorem el3 : El Tryz.prog 3 1 8 (.int .i64 0) := El.mk (by kernel_rfl) (by first | rfl | simp [Value.cells]) (by decide)
theorem sz3 : Sz Tryz.prog 3 1 := el3.sz
theorem z3 : Zr Tryz.prog 3 (.int .i64 0) := el3.zr
theorem na3 : NotAgg Tryz.prog 3 := ⟨_, Tryz.underlying3, rfl⟩
theorem el4 : El Tryz.prog 4 1 1 (.bool false) := El.mk (by kernel_rfl) (by first | rfl | simp [Value.cells]) (by decide)
theorem sz4 : Sz Tryz.prog 4 1 := el4.sz
theorem z4 : Zr Tryz.prog 4 (.bool false) := el4.zr
theorem na4 : NotAgg Tryz.prog 4 := ⟨_, Tryz.underlying4, rfl⟩
theorem el5 : El Tryz.prog 5 1 1 (.int .u8 0) := El.mk (by kernel_rfl) (by first | rfl | simp [Value.cells]) (by decide)
theorem z5 : Zr Tryz.prog 5 (.int .u8 0) := el5.zr
theorem el9 : El Tryz.prog 9 1 16 (.string ⟨#[]⟩) := El.mk (by kernel_rfl) (by first | rfl | simp [Value.cells]) (by decide)
theorem z9 : Zr Tryz.prog 9 (.string ⟨#[]⟩) := el9.zr
theorem el20 : El Tryz.prog 20 1 16 (.nilIface) := El.mk (by kernel_rfl) (by first | rfl | simp [Value.cells]) (by decide)
theorem z20 : Zr Tryz.prog 20 (.nilIface) := el20.zr
theorem el22 : El Tryz.prog 22 1 24 (.slice none 0 0) := El.mk (by kernel_rfl) (by first | rfl | simp [Value.cells]) (by decide)
theorem sz22 : Sz Tryz.prog 22 1 := el22.sz
theorem na22 : NotAgg Tryz.prog 22 := ⟨_, Tryz.underlying22, rfl⟩
theorem na27 : NotAgg Tryz.prog 27 := ⟨_, Tryz.underlying27, rfl⟩
theorem el31 : El Tryz.prog 31 1 24 (.slice none 0 0) := El.mk (by kernel_rfl) (by first | rfl | simp [Value.cells]) (by decide)
theorem sz31 : Sz Tryz.prog 31 1 := el31.sz
theorem z31 : Zr Tryz.prog 31 (.slice none 0 0) := el31.zr
theorem na31 : NotAgg Tryz.prog 31 := ⟨_, Tryz.underlying31, rfl⟩
theorem el33 : El Tryz.prog 33 2 48 (.agg #[.slice none 0 0, .slice none 0 0]) := El.mk (by kernel_rfl) (by first | rfl | simp [Value.cells]) (by decide)
theorem sz33 : Sz Tryz.prog 33 2 := el33.sz
theorem z33 : Zr Tryz.prog 33 (.agg #[.slice none 0 0, .slice none 0 0]) := el33.zr
theorem ag33 : IsAgg Tryz.prog 33 2 := ⟨_, Tryz.underlying33, rfl, sz33⟩
theorem el37 : El Tryz.prog 37 1 8 (.nilFunc) := El.mk (by kernel_rfl) (by first | rfl | simp [Value.cells]) (by decide)
theorem z37 : Zr Tryz.prog 37 (.nilFunc) := el37.zr
theorem el49 : El Tryz.prog 49 5 40 (.agg #[.int .i64 0, .int .i64 0, .int .i64 0, .int .i64 0, .int .i64 0]) := El.mk (by kernel_rfl) (by first | rfl | simp [Value.cells]) (by decide)
theorem sz49 : Sz Tryz.prog 49 5 := el49.sz
theorem z49 : Zr Tryz.prog 49 (.agg #[.int .i64 0, .int .i64 0, .int .i64 0, .int .i64 0, .int .i64 0]) := el49.zr
theorem ag49 : IsAgg Tryz.prog 49 5 := ⟨_, Tryz.underlying49, rfl, sz49⟩
theorem el51 : El Tryz.prog 51 9 72 (.agg (List.replicate 9 (.int .i64 0)).toArray) := El.mk (by kernel_rfl) (by first | rfl | simp [Value.cells]) (by decide)
theorem sz51 : Sz Tryz.prog 51 9 := el51.sz
theorem z51 : Zr Tryz.prog 51 (.agg (List.replicate 9 (.int .i64 0)).toArray) := el51.zr
theorem eg51 : Tryz.prog.eqGuardType Tryz.prog.depth 51 = false := by kernel_rfl
theorem ag51 : IsAgg Tryz.prog 51 9 := ⟨_, Tryz.underlying51, rfl, sz51⟩
theorem el53 : El Tryz.prog 53 1 8 (.nilFunc) := El.mk (by kernel_rfl) (by first | rfl | simp [Value.cells]) (by decide)
theorem z53 : Zr Tryz.prog 53 (.nilFunc) := el53.zr
theorem el57 : El Tryz.prog 57 1 8 (.int .u64 0) := El.mk (by kernel_rfl) (by first | rfl | simp [Value.cells]) (by decide)
theorem sz57 : Sz Tryz.prog 57 1 := el57.sz
theorem z57 : Zr Tryz.prog 57 (.int .u64 0) := el57.zr
theorem na57 : NotAgg Tryz.prog 57 := ⟨_, Tryz.underlying57, rfl⟩
theorem el66 : El Tryz.prog 66 3 24 (.agg #[.int .i64 0, .int .i64 0, .int .i64 0]) := El.mk (by kernel_rfl) (by first | rfl | simp [Value.cells]) (by decide)
theorem sz66 : Sz Tryz.prog 66 3 := el66.sz
theorem el71 : El Tryz.prog 71 4 80 (.agg #[.slice none 0 0, .slice none 0 0, .slice none 0 0, .int .i64 0]) := El.mk (by kernel_rfl) (by first | rfl | simp [Value.cells]) (by decide)
theorem sz71 : Sz Tryz.prog 71 4 := el71.sz
theorem z71 : Zr Tryz.prog 71 (.agg #[.slice none 0 0, .slice none 0 0, .slice none 0 0, .int .i64 0]) := el71.zr
theorem ag71 : IsAgg Tryz.prog 71 4 := ⟨_, Tryz.underlying71, rfl, sz71⟩
theorem el72 : El Tryz.prog 72 1 8 (.nilFunc) := El.mk (by kernel_rfl) (by first | rfl | simp [Value.cells]) (by decide)
theorem sz72 : Sz Tryz.prog 72 1 := el72.sz
theorem z72 : Zr Tryz.prog 72 (.nilFunc) := el72.zr
theorem na72 : NotAgg Tryz.prog 72 := ⟨_, Tryz.underlying72, rfl⟩
theorem el78 : El Tryz.prog 78 5 88 (.agg #[.slice none 0 0, .slice none 0 0, .slice none 0 0, .int .i64 0, .bool false]) := El.mk (by kernel_rfl) (by first | rfl | simp [Value.cells]) (by decide)
theorem sz78 : Sz Tryz.prog 78 5 := el78.sz
theorem z78 : Zr Tryz.prog 78 (.agg #[.slice none 0 0, .slice none 0 0, .slice none 0 0, .int .i64 0, .bool false]) := el78.zr
theorem ag78 : IsAgg Tryz.prog 78 5 := ⟨_, Tryz.underlying78, rfl, sz78⟩
theorem el86 : El Tryz.prog 86 3 24 (.agg #[.int .i64 0, .int .i64 0, .int .i64 0]) := El.mk (by kernel_rfl) (by first | rfl | simp [Value.cells]) (by decide)
theorem sz86 : Sz Tryz.prog 86 3 := el86.sz
theorem z86 : Zr Tryz.prog 86 (.agg #[.int .i64 0, .int .i64 0, .int .i64 0]) := el86.zr
theorem ag86 : IsAgg Tryz.prog 86 3 := ⟨_, Tryz.underlying86, rfl, sz86⟩
theorem el89 : El Tryz.prog 89 2 16 (.agg #[.int .i64 0, .int .i64 0]) := El.mk (by kernel_rfl) (by first | rfl | simp [Value.cells]) (by decide)
theorem sz89 : Sz Tryz.prog 89 2 := el89.sz
theorem z89 : Zr Tryz.prog 89 (.agg #[.int .i64 0, .int .i64 0]) := el89.zr
theorem ag89 : IsAgg Tryz.prog 89 2 := ⟨_, Tryz.underlying89, rfl, sz89⟩
theorem el98 : El Tryz.prog 98 12 12 (.agg (List.replicate 12 (.bool false)).toArray) := El.mk (by kernel_rfl) (by first | rfl | simp [Value.cells]) (by decide)
theorem z98 : Zr Tryz.prog 98 (.agg (List.replicate 12 (.bool false)).toArray) := el98.zr
theorem el100 : El Tryz.prog 100 1 8 (.map none) := El.mk (by kernel_rfl) (by first | rfl | simp [Value.cells]) (by decide)
theorem sz100 : Sz Tryz.prog 100 1 := el100.sz
theorem na100 : NotAgg Tryz.prog 100 := ⟨_, Tryz.underlying100, rfl⟩
theorem el103 : El Tryz.prog 103 1 8 (.agg #[.map none]) := El.mk (by kernel_rfl) (by first | rfl | simp [Value.cells]) (by decide)
theorem z103 : Zr Tryz.prog 103 (.agg #[.map none]) := el103.zr
theorem el108 : El Tryz.prog 108 1 24 (.slice none 0 0) := El.mk (by kernel_rfl) (by first | rfl | simp [Value.cells]) (by decide)
theorem sz108 : Sz Tryz.prog 108 1 := el108.sz
theorem na108 : NotAgg Tryz.prog 108 := ⟨_, Tryz.underlying108, rfl⟩
theorem el110 : El Tryz.prog 110 1 24 (.agg #[.slice none 0 0]) := El.mk (by kernel_rfl) (by first | rfl | simp [Value.cells]) (by decide)
theorem z110 : Zr Tryz.prog 110 (.agg #[.slice none 0 0]) := el110.zr
theorem el122 : El Tryz.prog 122 1 4 (.int .u32 0) := El.mk (by kernel_rfl) (by first | rfl | simp [Value.cells]) (by decide)
theorem sz122 : Sz Tryz.prog 122 1 := el122.sz
theorem na122 : NotAgg Tryz.prog 122 := ⟨_, Tryz.underlying122, rfl⟩
theorem el126 : El Tryz.prog 126 5 40 (.agg #[.int .i64 0, .int .i64 0, .int .i64 0, .int .i64 0, .int .i64 0]) := El.mk (by kernel_rfl) (by first | rfl | simp [Value.cells]) (by decide)
theorem sz126 : Sz Tryz.prog 126 5 := el126.sz
theorem z126 : Zr Tryz.prog 126 (.agg #[.int .i64 0, .int .i64 0, .int .i64 0, .int .i64 0, .int .i64 0]) := el126.zr
theorem ag126 : IsAgg Tryz.prog 126 5 := ⟨_, Tryz.underlying126, rfl, sz126⟩
theorem el171 : El Tryz.prog 171 1 8 (.nilFunc) := El.mk (by kernel_rfl) (by first | rfl | simp [Value.cells]) (by decide)
theorem z171 : Zr Tryz.prog 171 (.nilFunc) := el171.zr
theorem el173 : El Tryz.prog 173 1 8 (.nilFunc) := El.mk (by kernel_rfl) (by first | rfl | simp [Value.cells]) (by decide)
theorem z173 : Zr Tryz.prog 173 (.nilFunc) := el173.zr
theorem go7 : IsGo Tryz.prog 7 := ⟨_, Tryz.func7, rfl, by decide⟩
theorem go8 : IsGo Tryz.prog 8 := ⟨_, Tryz.func8, rfl, by decide⟩
theorem go9 : IsGo Tryz.prog 9 := ⟨_, Tryz.func9, rfl, by decide⟩
theorem go10 : IsGo Tryz.prog 10 := ⟨_, Tryz.func10, rfl, by decide⟩
theorem go11 : IsGo Tryz.prog 11 := ⟨_, Tryz.func11, rfl, by decide⟩
theorem go12 : IsGo Tryz.prog 12 := ⟨_, Tryz.func12, rfl, by decide⟩
theorem go13 : IsGo Tryz.prog 13 := ⟨_, Tryz.func13, rfl, by decide⟩
theorem go14 : IsGo Tryz.prog 14 := ⟨_, Tryz.func14, rfl, by decide⟩
theorem go15 : IsGo Tryz.prog 15 := ⟨_, Tryz.func15, rfl, by decide⟩
theorem go16 : IsGo Tryz.prog 16 := ⟨_, Tryz.func16, rfl, by decide⟩
theorem go17 : IsGo Tryz.prog 17 := ⟨_, Tryz.func17, rfl, by decide⟩
theorem go18 : IsGo Tryz.prog 18 := ⟨_, Tryz.func18, rfl, by decide⟩
theorem go19 : IsGo Tryz.prog 19 := ⟨_, Tryz.func19, rfl, by decide⟩
theorem go20 : IsGo Tryz.prog 20 := ⟨_, Tryz.func20, rfl, by decide⟩
theorem go21 : IsGo Tryz.prog 21 := ⟨_, Tryz.func21, rfl, by decide⟩
theorem go22 : IsGo Tryz.prog 22 := ⟨_, Tryz.func22, rfl, by decide⟩
theorem go23 : IsGo Tryz.prog 23 := ⟨_, Tryz.func23, rfl, by decide⟩
theorem go24 : IsGo Tryz.prog 24 := ⟨_, Tryz.func24, rfl, by decide⟩
theorem go25 : IsGo Tryz.prog 25 := ⟨_, Tryz.func25, rfl, by decide⟩
theorem go28 : IsGo Tryz.prog 28 := ⟨_, Tryz.func28, rfl, by decide⟩
theorem go29 : IsGo Tryz.prog 29 := ⟨_, Tryz.func29, rfl, by decide⟩
theorem go30 : IsGo Tryz.prog 30 := ⟨_, Tryz.func30, rfl, by decide⟩
theorem go31 : IsGo Tryz.prog 31 := ⟨_, Tryz.func31, rfl, by decide⟩
theorem go32 : IsGo Tryz.prog 32 := ⟨_, Tryz.func32, rfl, by decide⟩
theorem go33 : IsGo Tryz.prog 33 := ⟨_, Tryz.func33, rfl, by decide⟩
theorem go34 : IsGo Tryz.prog 34 := ⟨_, Tryz.func34, rfl, by decide⟩
theorem go35 : IsGo Tryz.prog 35 := ⟨_, Tryz.func35, rfl, by decide⟩
theorem go36 : IsGo Tryz.prog 36 := ⟨_, Tryz.func36, rfl, by decide⟩
theorem go37 : IsGo Tryz.prog 37 := ⟨_, Tryz.func37, rfl, by decide⟩
theorem go38 : IsGo Tryz.prog 38 := ⟨_, Tryz.func38, rfl, by decide⟩
theorem go39 : IsGo Tryz.prog 39 := ⟨_, Tryz.func39, rfl, by decide⟩
theorem go40 : IsGo Tryz.prog 40 := ⟨_, Tryz.func40, rfl, by decide⟩
theorem go41 : IsGo Tryz.prog 41 := ⟨_, Tryz.func41, rfl, by decide⟩
theorem go42 : IsGo Tryz.prog 42 := ⟨_, Tryz.func42, rfl, by decide⟩
theorem go43 : IsGo Tryz.prog 43 := ⟨_, Tryz.func43, rfl, by decide⟩
theorem go44 : IsGo Tryz.prog 44 := ⟨_, Tryz.func44, rfl, by decide⟩
theorem go45 : IsGo Tryz.prog 45 := ⟨_, Tryz.func45, rfl, by decide⟩
theorem go46 : IsGo Tryz.prog 46 := ⟨_, Tryz.func46, rfl, by decide⟩
theorem go47 : IsGo Tryz.prog 47 := ⟨_, Tryz.func47, rfl, by decide⟩
theorem go48 : IsGo Tryz.prog 48 := ⟨_, Tryz.func48, rfl, by decide⟩
theorem go49 : IsGo Tryz.prog 49 := ⟨_, Tryz.func49, rfl, by decide⟩
theorem go50 : IsGo Tryz.prog 50 := ⟨_, Tryz.func50, rfl, by decide⟩
theorem go51 : IsGo Tryz.prog 51 := ⟨_, Tryz.func51, rfl, by decide⟩
theorem go52 : IsGo Tryz.prog 52 := ⟨_, Tryz.func52, rfl, by decide⟩
theorem go53 : IsGo Tryz.prog 53 := ⟨_, Tryz.func53, rfl, by decide⟩
theorem go54 : IsGo Tryz.prog 54 := ⟨_, Tryz.func54, rfl, by decide⟩
theorem go55 : IsGo Tryz.prog 55 := ⟨_, Tryz.func55, rfl, by decide⟩
theorem go56 : IsGo Tryz.prog 56 := ⟨_, Tryz.func56, rfl, by decide⟩
theorem go57 : IsGo Tryz.prog 57 := ⟨_, Tryz.func57, rfl, by decide⟩
theorem go58 : IsGo Tryz.prog 58 := ⟨_, Tryz.func58, rfl, by decide⟩
theorem go59 : IsGo Tryz.prog 59 := ⟨_, Tryz.func59, rfl, by decide⟩
theorem go60 : IsGo Tryz.prog 60 := ⟨_, Tryz.func60, rfl, by decide⟩
theorem go61 : IsGo Tryz.prog 61 := ⟨_, Tryz.func61, rfl, by decide⟩
theorem go62 : IsGo Tryz.prog 62 := ⟨_, Tryz.func62, rfl, by decide⟩
theorem go63 : IsGo Tryz.prog 63 := ⟨_, Tryz.func63, rfl, by decide⟩
theorem go64 : IsGo Tryz.prog 64 := ⟨_, Tryz.func64, rfl, by decide⟩
theorem go65 : IsGo Tryz.prog 65 := ⟨_, Tryz.func65, rfl, by decide⟩
theorem go68 : IsGo Tryz.prog 68 := ⟨_, Tryz.func68, rfl, by decide⟩
theorem go69 : IsGo Tryz.prog 69 := ⟨_, Tryz.func69, rfl, by decide⟩
theorem go70 : IsGo Tryz.prog 70 := ⟨_, Tryz.func70, rfl, by decide⟩
theorem go71 : IsGo Tryz.prog 71 := ⟨_, Tryz.func71, rfl, by decide⟩
theorem go72 : IsGo Tryz.prog 72 := ⟨_, Tryz.func72, rfl, by decide⟩
theorem go73 : IsGo Tryz.prog 73 := ⟨_, Tryz.func73, rfl, by decide⟩
theorem go74 : IsGo Tryz.prog 74 := ⟨_, Tryz.func74, rfl, by decide⟩
theorem go75 : IsGo Tryz.prog 75 := ⟨_, Tryz.func75, rfl, by decide⟩
theorem go76 : IsGo Tryz.prog 76 := ⟨_, Tryz.func76, rfl, by decide⟩
theorem go77 : IsGo Tryz.prog 77 := ⟨_, Tryz.func77, rfl, by decide⟩
theorem go78 : IsGo Tryz.prog 78 := ⟨_, Tryz.func78, rfl, by decide⟩
theorem go79 : IsGo Tryz.prog 79 := ⟨_, Tryz.func79, rfl, by decide⟩
theorem go80 : IsGo Tryz.prog 80 := ⟨_, Tryz.func80, rfl, by decide⟩
theorem go81 : IsGo Tryz.prog 81 := ⟨_, Tryz.func81, rfl, by decide⟩
theorem go82 : IsGo Tryz.prog 82 := ⟨_, Tryz.func82, rfl, by decide⟩
theorem go83 : IsGo Tryz.prog 83 := ⟨_, Tryz.func83, rfl, by decide⟩
theorem go84 : IsGo Tryz.prog 84 := ⟨_, Tryz.func84, rfl, by decide⟩
theorem go85 : IsGo Tryz.prog 85 := ⟨_, Tryz.func85, rfl, by decide⟩
theorem go86 : IsGo Tryz.prog 86 := ⟨_, Tryz.func86, rfl, by decide⟩
theorem go87 : IsGo Tryz.prog 87 := ⟨_, Tryz.func87, rfl, by decide⟩
theorem go88 : IsGo Tryz.prog 88 := ⟨_, Tryz.func88, rfl, by decide⟩
theorem go89 : IsGo Tryz.prog 89 := ⟨_, Tryz.func89, rfl, by decide⟩
theorem go90 : IsGo Tryz.prog 90 := ⟨_, Tryz.func90, rfl, by decide⟩
theorem go91 : IsGo Tryz.prog 91 := ⟨_, Tryz.func91, rfl, by decide⟩
theorem go92 : IsGo Tryz.prog 92 := ⟨_, Tryz.func92, rfl, by decide⟩
theorem go93 : IsGo Tryz.prog 93 := ⟨_, Tryz.func93, rfl, by decide⟩
theorem go94 : IsGo Tryz.prog 94 := ⟨_, Tryz.func94, rfl, by decide⟩
theorem go95 : IsGo Tryz.prog 95 := ⟨_, Tryz.func95, rfl, by decide⟩
theorem go96 : IsGo Tryz.prog 96 := ⟨_, Tryz.func96, rfl, by decide⟩
theorem go97 : IsGo Tryz.prog 97 := ⟨_, Tryz.func97, rfl, by decide⟩
theorem go98 : IsGo Tryz.prog 98 := ⟨_, Tryz.func98, rfl, by decide⟩
theorem go99 : IsGo Tryz.prog 99 := ⟨_, Tryz.func99, rfl, by decide⟩
theorem go100 : IsGo Tryz.prog 100 := ⟨_, Tryz.func100, rfl, by decide⟩
theorem go101 : IsGo Tryz.prog 101 := ⟨_, Tryz.func101, rfl, by decide⟩
theorem go102 : IsGo Tryz.prog 102 := ⟨_, Tryz.func102, rfl, by decide⟩
theorem go103 : IsGo Tryz.prog 103 := ⟨_, Tryz.func103, rfl, by decide⟩
theorem go104 : IsGo Tryz.prog 104 := ⟨_, Tryz.func104, rfl, by decide⟩
theorem go106 : IsGo Tryz.prog 106 := ⟨_, Tryz.func106, rfl, by decide⟩
theorem go107 : IsGo Tryz.prog 107 := ⟨_, Tryz.func107, rfl, by decide⟩
theorem go108 : IsGo Tryz.prog 108 := ⟨_, Tryz.func108, rfl, by decide⟩
theorem go110 : IsGo Tryz.prog 110 := ⟨_, Tryz.func110, rfl, by decide⟩
theorem go111 : IsGo Tryz.prog 111 := ⟨_, Tryz.func111, rfl, by decide⟩
theorem go112 : IsGo Tryz.prog 112 := ⟨_, Tryz.func112, rfl, by decide⟩
theorem go113 : IsGo Tryz.prog 113 := ⟨_, Tryz.func113, rfl, by decide⟩
theorem go114 : IsGo Tryz.prog 114 := ⟨_, Tryz.func114, rfl, by decide⟩
theorem go115 : IsGo Tryz.prog 115 := ⟨_, Tryz.func115, rfl, by decide⟩
theorem go116 : IsGo Tryz.prog 116 := ⟨_, Tryz.func116, rfl, by decide⟩
theorem go117 : IsGo Tryz.prog 117 := ⟨_, Tryz.func117, rfl, by decide⟩
theorem go118 : IsGo Tryz.prog 118 := ⟨_, Tryz.func118, rfl, by decide⟩
theorem go119 : IsGo Tryz.prog 119 := ⟨_, Tryz.func119, rfl, by decide⟩
theorem go120 : IsGo Tryz.prog 120 := ⟨_, Tryz.func120, rfl, by decide⟩
theorem go121 : IsGo Tryz.prog 121 := ⟨_, Tryz.func121, rfl, by decide⟩
theorem go122 : IsGo Tryz.prog 122 := ⟨_, Tryz.func122, rfl, by decide⟩
theorem go123 : IsGo Tryz.prog 123 := ⟨_, Tryz.func123, rfl, by decide⟩
theorem go124 : IsGo Tryz.prog 124 := ⟨_, Tryz.func124, rfl, by decide⟩
theorem go125 : IsGo Tryz.prog 125 := ⟨_, Tryz.func125, rfl, by decide⟩
theorem go126 : IsGo Tryz.prog 126 := ⟨_, Tryz.func126, rfl, by decide⟩
theorem go127 : IsGo Tryz.prog 127 := ⟨_, Tryz.func127, rfl, by decide⟩
theorem go128 : IsGo Tryz.prog 128 := ⟨_, Tryz.func128, rfl, by decide⟩
theorem go129 : IsGo Tryz.prog 129 := ⟨_, Tryz.func129, rfl, by decide⟩
theorem go130 : IsGo Tryz.prog 130 := ⟨_, Tryz.func130, rfl, by decide⟩
theorem go131 : IsGo Tryz.prog 131 := ⟨_, Tryz.func131, rfl, by decide⟩
theorem go132 : IsGo Tryz.prog 132 := ⟨_, Tryz.func132, rfl, by decide⟩
theorem go140 : IsGo Tryz.prog 140 := ⟨_, Tryz.func140, rfl, by decide⟩
theorem go141 : IsGo Tryz.prog 141 := ⟨_, Tryz.func141, rfl, by decide⟩
theorem go142 : IsGo Tryz.prog 142 := ⟨_, Tryz.func142, rfl, by decide⟩
theorem go143 : IsGo Tryz.prog 143 := ⟨_, Tryz.func143, rfl, by decide⟩
theorem go144 : IsGo Tryz.prog 144 := ⟨_, Tryz.func144, rfl, by decide⟩
theorem go145 : IsGo Tryz.prog 145 := ⟨_, Tryz.func145, rfl, by decide⟩
theorem go146 : IsGo Tryz.prog 146 := ⟨_, Tryz.func146, rfl, by decide⟩
theorem go149 : IsGo Tryz.prog 149 := ⟨_, Tryz.func149, rfl, by decide⟩
theorem go153 : IsGo Tryz.prog 153 := ⟨_, Tryz.func153, rfl, by decide⟩
theorem go160 : IsGo Tryz.prog 160 := ⟨_, Tryz.func160, rfl, by decide⟩
theorem go162 : IsGo Tryz.prog 162 := ⟨_, Tryz.func162, rfl, by decide⟩
end Go.Proofs.YtmkdeemjkcigkaaGreatDoor

namespace Go.Proofs.YtmkdeemjkcigkaaGreatDoor
open Go Go.Sx
theorem fa33_0 : Fat Tryz.prog 33 0 0 := ⟨_, _, _, Tryz.underlying33, rfl, rfl, sz31, by decide⟩
theorem fa33_1 : Fat Tryz.prog 33 1 1 := ⟨_, _, _, Tryz.underlying33, rfl, rfl, sz31, by decide⟩
theorem pl33 : Pls Tryz.prog 33 [(0, 1), (1, 1)] := ⟨_, Tryz.underlying33, fun w => by simp [sz31.run]⟩
theorem fa49_0 : Fat Tryz.prog 49 0 0 := ⟨_, _, _, Tryz.underlying49, rfl, rfl, sz3, by decide⟩
theorem fa49_1 : Fat Tryz.prog 49 1 1 := ⟨_, _, _, Tryz.underlying49, rfl, rfl, sz3, by decide⟩
theorem fa49_2 : Fat Tryz.prog 49 2 2 := ⟨_, _, _, Tryz.underlying49, rfl, rfl, sz3, by decide⟩
theorem fa49_3 : Fat Tryz.prog 49 3 3 := ⟨_, _, _, Tryz.underlying49, rfl, rfl, sz3, by decide⟩
theorem fa49_4 : Fat Tryz.prog 49 4 4 := ⟨_, _, _, Tryz.underlying49, rfl, rfl, sz3, by decide⟩
theorem pl49 : Pls Tryz.prog 49 [(0, 1), (1, 1), (2, 1), (3, 1), (4, 1)] := ⟨_, Tryz.underlying49, fun w => by simp [sz3.run]⟩
theorem fa51_0 : Fat Tryz.prog 51 0 0 := ⟨_, _, _, Tryz.underlying51, rfl, rfl, sz3, by decide⟩
theorem fa51_1 : Fat Tryz.prog 51 1 1 := ⟨_, _, _, Tryz.underlying51, rfl, rfl, sz3, by decide⟩
theorem fa51_2 : Fat Tryz.prog 51 2 2 := ⟨_, _, _, Tryz.underlying51, rfl, rfl, sz3, by decide⟩
theorem fa51_3 : Fat Tryz.prog 51 3 3 := ⟨_, _, _, Tryz.underlying51, rfl, rfl, sz3, by decide⟩
theorem fa51_4 : Fat Tryz.prog 51 4 4 := ⟨_, _, _, Tryz.underlying51, rfl, rfl, sz49, by decide⟩
theorem pl51 : Pls Tryz.prog 51 [(0, 1), (1, 1), (2, 1), (3, 1), (4, 5)] := ⟨_, Tryz.underlying51, fun w => by simp [sz3.run, sz49.run]⟩
theorem fa66_0 : Fat Tryz.prog 66 0 0 := ⟨_, _, _, Tryz.underlying66, rfl, rfl, sz3, by decide⟩
theorem fa66_1 : Fat Tryz.prog 66 1 1 := ⟨_, _, _, Tryz.underlying66, rfl, rfl, sz3, by decide⟩
theorem fa66_2 : Fat Tryz.prog 66 2 2 := ⟨_, _, _, Tryz.underlying66, rfl, rfl, sz3, by decide⟩
theorem fa71_0 : Fat Tryz.prog 71 0 0 := ⟨_, _, _, Tryz.underlying71, rfl, rfl, sz22, by decide⟩
theorem fa71_1 : Fat Tryz.prog 71 1 1 := ⟨_, _, _, Tryz.underlying71, rfl, rfl, sz33, by decide⟩
theorem fa71_2 : Fat Tryz.prog 71 2 3 := ⟨_, _, _, Tryz.underlying71, rfl, rfl, sz3, by decide⟩
theorem pl71 : Pls Tryz.prog 71 [(0, 1), (1, 2), (3, 1)] := ⟨_, Tryz.underlying71, fun w => by simp [sz3.run, sz22.run, sz33.run]⟩
theorem fa78_0 : Fat Tryz.prog 78 0 0 := ⟨_, _, _, Tryz.underlying78, rfl, rfl, sz22, by decide⟩
theorem fa78_1 : Fat Tryz.prog 78 1 1 := ⟨_, _, _, Tryz.underlying78, rfl, rfl, sz33, by decide⟩
theorem fa78_2 : Fat Tryz.prog 78 2 3 := ⟨_, _, _, Tryz.underlying78, rfl, rfl, sz3, by decide⟩
theorem fa78_3 : Fat Tryz.prog 78 3 4 := ⟨_, _, _, Tryz.underlying78, rfl, rfl, sz4, by decide⟩
theorem pl78 : Pls Tryz.prog 78 [(0, 1), (1, 2), (3, 1), (4, 1)] := ⟨_, Tryz.underlying78, fun w => by simp [sz3.run, sz4.run, sz22.run, sz33.run]⟩
theorem fa86_0 : Fat Tryz.prog 86 0 0 := ⟨_, _, _, Tryz.underlying86, rfl, rfl, sz3, by decide⟩
theorem fa86_1 : Fat Tryz.prog 86 1 1 := ⟨_, _, _, Tryz.underlying86, rfl, rfl, sz3, by decide⟩
theorem fa86_2 : Fat Tryz.prog 86 2 2 := ⟨_, _, _, Tryz.underlying86, rfl, rfl, sz3, by decide⟩
theorem pl86 : Pls Tryz.prog 86 [(0, 1), (1, 1), (2, 1)] := ⟨_, Tryz.underlying86, fun w => by simp [sz3.run]⟩
theorem pl89 : Pls Tryz.prog 89 [(0, 1), (1, 1)] := ⟨_, Tryz.underlying89, fun w => by simp [sz3.run]⟩
theorem fa103_0 : Fat Tryz.prog 103 0 0 := ⟨_, _, _, Tryz.underlying103, rfl, rfl, sz100, by decide⟩
theorem pl103 : Pls Tryz.prog 103 [(0, 1)] := ⟨_, Tryz.underlying103, fun w => by simp [sz100.run]⟩
theorem fa110_0 : Fat Tryz.prog 110 0 0 := ⟨_, _, _, Tryz.underlying110, rfl, rfl, sz108, by decide⟩
theorem pl110 : Pls Tryz.prog 110 [(0, 1)] := ⟨_, Tryz.underlying110, fun w => by simp [sz108.run]⟩
theorem fa126_0 : Fat Tryz.prog 126 0 0 := ⟨_, _, _, Tryz.underlying126, rfl, rfl, sz3, by decide⟩
theorem fa126_1 : Fat Tryz.prog 126 1 1 := ⟨_, _, _, Tryz.underlying126, rfl, rfl, sz3, by decide⟩
theorem fa126_2 : Fat Tryz.prog 126 2 2 := ⟨_, _, _, Tryz.underlying126, rfl, rfl, sz3, by decide⟩
theorem fa126_3 : Fat Tryz.prog 126 3 3 := ⟨_, _, _, Tryz.underlying126, rfl, rfl, sz3, by decide⟩
theorem pl126 : Pls Tryz.prog 126 [(0, 1), (1, 1), (2, 1), (3, 1), (4, 1)] := ⟨_, Tryz.underlying126, fun w => by simp [sz3.run]⟩
end Go.Proofs.YtmkdeemjkcigkaaGreatDoor

namespace Go.Proofs.YtmkdeemjkcigkaaGreatDoor
open Go Go.Sx Go.Nsp
set_option maxRecDepth 20000
theorem getD_none {l : List Nat} {j : Nat} (h : l.length ≤ j) : l.getD j 0 = 0 := by rw [List.getD_eq_getElem?_getD, List.getElem?_eq_none h]; rfl
theorem digs_last (a : Nat) (h : 0 < (digs a).length) : (digs a).getD ((digs a).length - 1) 0 ≠ 0 := by
  have hne : digs a ≠ [] := fun e => by rw [e] at h; simp at h
  have := digs_top a hne
  rw [List.getLast_eq_getElem] at this
  simpa [List.getD, show (digs a).length - 1 < (digs a).length by omega] using this
theorem dig_lt (a j : Nat) : (digs a).getD j 0 < 4294967296 := getD_lt (digs_lt a) j
theorem val_two (n : Nat) (h : n < 18446744073709551616) : val [n % 4294967296, n / 4294967296 % 4294967296] = n := by
  simp only [val, B]
  omega
theorem two_lt (n : Nat) : ∀ d ∈ [n % 4294967296, n / 4294967296 % 4294967296], d < B := fun d hd => by
  have e : B = 4294967296 := rfl
  simp only [List.mem_cons, List.not_mem_nil, or_false] at hd
  omega
theorem rep_get (n j : Nat) : (List.replicate n 0).getD j 0 = 0 := by
  rw [List.getD_eq_getElem?_getD, List.getElem?_replicate]
  split <;> rfl
theorem rep_lt (n : Nat) : ∀ d ∈ List.replicate n 0, d < B := fun d hd => by rw [(List.mem_replicate.1 hd).2]; decide
theorem nright_ok {A : Option Addr} {n c a : Nat} (w : World) (hV : Vec w dv 1 A n (digs a)) (hn : n ≤ 1000000) : Calls Tryz.prog 124 #[.slice A n c] w fun r w' => r = .returned (.bool true) ∧ Le w w' := by
 have hl := hV.1
 refine enter Tryz.func124 rfl rfl ?_
 have L0 := Le.refl w
 refine WC.sr (W.run 1 rfl (W.nx (WC.sr (W.run 1 rfl ?_))))
 refine W.r (.len Tryz.underlying31 rfl) ?_
 refine W.run 1 rfl ?_
 by_cases q1_3 : ((n : Nat) : Int) = 0
 ·refine W.dt q1_3 rfl rfl (W.run 9 rfl (W.nx (WC.ret ?_)))
  refine E.retG1 rfl rfl ?_
  exact ⟨rfl, L0⟩
 refine W.df q1_3 rfl rfl (W.run 2 rfl ?_)
 refine W.g (.len Tryz.underlying31 rfl) ?_
 refine W.g (Any.rd (.sub rfl rfl (by omega)) _) ?_
 refine W.g (Any.rd (.idxS ((n - 1)) Tryz.underlying31 sz122 rfl rfl (hV.isSome dv_row (by omega)) (by omega) (by omega)) _) ?_
 refine W.g (.vone (v := .int .u32 (((((digs a).getD (n - 1) 0) : Nat) : Int))) na122 rfl (hV.le L0) dv_row (getS (digs a) 0 (by first | omega | (simp only [List.length_cons, List.length_nil]; omega))) rfl) ?_
 refine W.g (Any.rd (.dec (.neq rfl rfl) (decide_eq_true (by have h := digs_last a (by omega); rw [hl] at h; omega))) _) ?_
 refine W.run 2 rfl (W.nx (WC.ret ?_))
 refine E.retG1 rfl rfl ?_
 exact ⟨rfl, L0⟩

theorem ntaken_ok {A : Option Addr} {n c a : Nat} (w : World) (hV : Vec w dv 1 A n (digs a)) (hn : n ≤ 1000000) : Calls Tryz.prog 97 #[.slice A n c] w fun r w' => r = .returned (.slice A n c) ∧ Le w w' := by
 have hl := hV.1
 refine enter Tryz.func97 rfl rfl ?_
 have L0 := Le.refl w
 refine WC.sr (W.run 1 rfl (W.nx (WC.seq (WC.sr (W.run 1 rfl ?_)))))
 refine W.cl go124 rfl rfl (nright_ok w (hV.le L0) (by omega)) ?_
 rintro _ w1_1 ⟨rfl, h1_1⟩
 have L1 := L0.trans h1_1
 refine W.run 1 rfl (W.nx (WC.condF rfl (WC.sn (WC.sr (W.run 2 rfl (W.nx (WC.ret ?_)))))))
 refine E.retG1 rfl rfl ?_
 exact ⟨rfl, L1⟩

theorem low_ok {base : Nat} {A : Option Addr} {n c : Nat} {xs : List Nat} (w : World) (hO : OVec w base 122 dv 1 A n c xs) (hb : ∀ d ∈ xs, d < B) (hn : n ≤ 1000000) : Calls Tryz.prog 103 #[.slice A n c] w fun r w' => r = .returned (.slice A (digs (val xs)).length c) ∧ OVec w' base 122 dv 1 A (digs (val xs)).length c (digs (val xs)) ∧ Le w w' := by
 have hl := hO.1
 refine enter Tryz.func103 rfl rfl ?_
 have L0 := Le.refl w
 refine WC.sr (W.run 1 rfl (W.nx (WC.sr (W.run 1 rfl ?_))))
 refine W.r (.len Tryz.underlying31 rfl) ?_
 refine W.run 1 rfl (W.nx (WC.seq (WC.block ?_)))
 refine WC.loop (ι := Nat) (fun k => [(0, .slice A n c), (3, .int .i64 (((k : Nat) : Int)))]) (fun k wl0 => (k ≤ n) ∧ (∀ j, k ≤ j → xs.getD j 0 = 0) ∧ Le w wl0 ∧ w.heap.size ≤ wl0.heap.size ∧ OVec wl0 base 122 dv 1 A n c xs) (fun k => k) n ?_ ?_ ?_
 ·exact .cons rfl (.cons rfl (.nil _))
 ·exact ⟨Nat.le_refl _, (fun j hj => getD_none (by omega)), L0, Nat.le_refl _, hO⟩
 rintro k wl0 ⟨hk, hz, Ll0, zl0, f0_0⟩
 refine WC.seq (WC.sr (W.run 2 rfl ?_))
 by_cases q2_2 : 0 < ((k : Nat) : Int)
 ·refine W.dt q2_2 rfl rfl (W.run 2 rfl ?_)
  refine W.g (Any.rd (.sub rfl rfl (by omega)) _) ?_
  refine W.g (Any.rd (.idxS ((k - 1)) Tryz.underlying31 sz122 rfl rfl (hO.vec.isSome dv_row (by omega)) (by omega) (by omega)) _) ?_
  refine W.g (.vone (v := .int .u32 ((((xs.getD (k - 1) 0) : Nat) : Int))) na122 rfl f0_0.vec dv_row (getS xs 0 (by omega)) rfl) ?_
  refine W.run 2 rfl (W.nx ?_)
  by_cases c0 : (((xs.getD (k - 1) 0) : Nat) : Int) = 0
  ·refine WC.condY rfl (decide_eq_true c0) ?_
   refine WC.sn (WC.block (WC.region (W.run 1 rfl ?_)))
   refine W.a (.sub rfl rfl (by omega)) ?_
   refine W.run 1 rfl (W.nil (E.blkN ?_))
   refine E.again (k - 1) (.cons rfl (.cons' rfl (int_eq (by omega)) (.nil _))) ?_ ?_
   ·exact ⟨by omega, (fun j hj => by rcases Nat.lt_or_ge j k with h | h; (rw [show j = k - 1 by omega]; omega); exact hz j h), Ll0, by have := zl0; omega, f0_0⟩
   show k - 1 < k; omega
  refine WC.condN rfl (decide_eq_false c0) ?_
  refine WC.exit (E.thenX (E.thenX (E.blkH (E.thenN (WC.sr (W.run 2 rfl ?_))))))
  have cp1 := f0_0.cap
  have v2 := f0_0.front k (by omega) dv_row
  have v2l := v2.1
  refine W.a (.cutH (k) Tryz.underlying31 sz122 rfl rfl (rfl) (by omega)) ?_
  refine W.run 1 rfl (W.nx (WC.ret ?_))
  refine E.retG1 rfl rfl ?_
  have e : xs.take k = digs (val xs) := digs_trim hb (by omega) hz (fun h0 => by first | (exfalso; omega) | omega); have hq := v2; rw [e] at hq; have hk2 := hq.1; subst hk2; exact ⟨rfl, hq, Ll0⟩
 refine W.df q2_2 rfl rfl (W.run 7 rfl (W.nx (WC.condF rfl (WC.exit (E.thenX (E.thenX (E.blkH (E.thenN (WC.sr (W.run 2 rfl ?_))))))))))
 have cp3 := f0_0.cap
 have v4 := f0_0.front k (by omega) dv_row
 have v4l := v4.1
 refine W.a (.cutH (k) Tryz.underlying31 sz122 rfl rfl (rfl) (by omega)) ?_
 refine W.run 1 rfl (W.nx (WC.ret ?_))
 refine E.retG1 rfl rfl ?_
 have e : xs.take k = digs (val xs) := digs_trim hb (by omega) hz (fun h0 => by first | (exfalso; omega) | omega); have hq := v4; rw [e] at hq; have hk2 := hq.1; subst hk2; exact ⟨rfl, hq, Ll0⟩

theorem nof_ok (a : Nat) (ha : a < 18446744073709551616) (w : World) : Calls Tryz.prog 61 #[.int .u64 (((a : Nat) : Int))] w fun r w' => ∃ A c, r = .returned (.slice A (digs a).length c) ∧ OVec w' w.heap.size 122 dv 1 A (digs a).length c (digs a) ∧ Le w w' := by
 refine enter Tryz.func61 rfl rfl ?_
 have L0 := Le.refl w
 refine WC.sr (W.run 1 rfl (W.nx (WC.sr (W.run 1 rfl ?_))))
 refine W.r (.toU32 a (isS Tryz.underlying57) Tryz.underlying122 rfl rfl) ?_
 refine W.run 1 rfl ?_
 refine W.a (.shrE a 32 (a / 4294967296) rfl (by first | rfl | omega) rfl rfl (by decide) rfl) ?_
 refine W.r (.toU32 (a / 4294967296) (isS Tryz.underlying57) Tryz.underlying122 rfl rfl) ?_
 refine W.ef rfl rfl rfl ?_
 refine Ef.buildSliceV (len := 2) [_, _] Tryz.underlying31 el122 rfl (by simp [Value.cells]) rfl (by decide) (by decide) ?_
 intro g1_5 w1_5 hg1_5 b1_5 h1_5
 have L1 := L0.trans h1_5
 have b1_5 : Blk w1_5 g1_5 122 (([(a % 4294967296), ((a / 4294967296) % 4294967296)]).map dv).flatten.toArray := b1_5
 have o1_5 : OVec w1_5 w.heap.size 122 dv 1 (some ⟨g1_5, 0, none⟩) 2 2 ([(a % 4294967296), ((a / 4294967296) % 4294967296)]) := b1_5.ovec hg1_5 dv_row rfl rfl (by decide)
 refine W.cl go103 rfl rfl ((by have h := low_ok w1_5 o1_5 (two_lt a) (by omega); rw [val_two a ha] at h; exact h)) ?_
 rintro _ w1_6 ⟨rfl, o1_6, h1_6⟩
 have L2 := L1.trans h1_6
 refine W.run 1 rfl (W.nx (WC.ret ?_))
 refine E.retG1 rfl rfl ?_
 exact ⟨_, _, rfl, (o1_6.mono L0.size), L2⟩

theorem nmul_ok {A A2 : Option Addr} {n c m c2 a b : Nat} (w : World) (hV : Vec w dv 1 A n (digs a)) (hW : Vec w dv 1 A2 m (digs b)) (hn : n ≤ 100000) (hm : m ≤ 100000) : Calls Tryz.prog 87 #[.slice A n c, .slice A2 m c2] w fun r w' => ∃ A c, r = .returned (.slice A (digs (a * b)).length c) ∧ OVec w' w.heap.size 122 dv 1 A (digs (a * b)).length c (digs (a * b)) ∧ Le w w' := by
 have hl := hV.1
 have hl2 := hW.1
 have hB : B = 4294967296 := rfl
 refine enter Tryz.func87 rfl rfl ?_
 have L0 := Le.refl w
 refine WC.sr (W.run 1 rfl (W.nx (WC.sr (W.run 1 rfl ?_))))
 refine W.cl go97 rfl rfl (ntaken_ok w (hV.le L0) (by omega)) ?_
 rintro _ w1_1 ⟨rfl, h1_1⟩
 have L1 := L0.trans h1_1
 refine W.run 1 rfl ?_
 refine W.cl go97 rfl rfl (ntaken_ok w1_1 (hW.le L1) (by omega)) ?_
 rintro _ w1_3 ⟨rfl, h1_3⟩
 have L2 := L1.trans h1_3
 refine W.run 2 rfl (W.nx (WC.sr (W.run 1 rfl ?_)))
 refine W.r (.len Tryz.underlying31 rfl) ?_
 refine W.run 1 rfl ?_
 refine W.r (.len Tryz.underlying31 rfl) ?_
 refine W.a (.add rfl rfl (by omega)) ?_
 refine W.ef rfl rfl rfl ?_
 refine Ef.vmake 0 (n + m) Tryz.underlying31 el122 dv_row rfl rfl (by omega) rfl (by omega) (by omega) (by unfold maxLen; omega) ?_
 intro g2_5 w2_5 hg2_5 o2_5 h2_5
 have L3 := L2.trans h2_5
 refine W.run 1 rfl (W.nx (WC.seq (WC.sr (W.run 1 rfl ?_))))
 refine W.r (.len Tryz.underlying31 rfl) ?_
 refine W.run 1 rfl (W.nx (WC.block ?_))
 refine WC.loop (ι := Nat × (List Nat)) (fun ⟨i, out⟩ => [(1, .slice A2 m c2), (5, .slice (some ⟨g2_5, 0, none⟩) (n + m) (n + m)), (22, .slice A n c), (23, .int .i64 (((n : Nat) : Int))), (24, .int .i64 (((i : Nat) : Int)))]) (fun ⟨i, out⟩ wl0 => (i ≤ n) ∧ (out.length = n + m) ∧ (∀ d ∈ out, d < B) ∧ (∀ j, i + m ≤ j → out.getD j 0 = 0) ∧ (val out = val ((digs a).take i) * b) ∧ Le w wl0 ∧ w2_5.heap.size ≤ wl0.heap.size ∧ OVec wl0 w1_3.heap.size 122 dv 1 (some ⟨g2_5, 0, none⟩) (n + m) (n + m) out) (fun ⟨i, out⟩ => n - i) (0, (List.replicate (n + m) 0)) ?_ ?_ ?_
 ·exact .cons rfl (.cons rfl (.cons rfl (.cons rfl (.cons rfl (.nil _)))))
 ·exact ⟨Nat.zero_le _, List.length_replicate, rep_lt _, (fun j hj => rep_get _ _), by rw [val_replicate, List.take_zero]; simp [val], L3, Nat.le_refl _, o2_5⟩
 rintro ⟨i, out⟩ wl0 ⟨hi, hol, hob, hoz, hov, Ll0, zl0, f0_0⟩
 have lb0_3 : w1_3.heap.size ≤ wl0.heap.size := by have := h2_5.size; omega
 refine WC.sr (W.run 1 rfl (W.nx (WC.seq ?_)))
 by_cases c0 : ((i : Nat) : Int) < ((n : Nat) : Int)
 ·refine WC.condY rfl (decide_eq_true c0) ?_
  refine WC.sn (WC.seq (WC.block (WC.sr (W.run 1 rfl ?_))))
  refine W.a (.idxS (i) Tryz.underlying31 sz122 rfl rfl (hV.isSome dv_row (by omega)) (rfl) (by omega)) ?_
  refine W.r (.vone (v := .int .u32 (((((digs a).getD i 0) : Nat) : Int))) na122 rfl (hV.le Ll0) dv_row (getS (digs a) 0 (by first | omega | (simp only [List.length_cons, List.length_nil]; omega))) rfl) ?_
  refine W.run 2 rfl (W.nx (WC.sr (W.run 1 rfl (W.nx (WC.seq (WC.sr (W.run 1 rfl ?_)))))))
  refine W.r (.len Tryz.underlying31 rfl) ?_
  refine W.run 1 rfl (W.nx (WC.block ?_))
  refine WC.loop (ι := Nat × Nat × (List Nat)) (fun ⟨k, cy, o2⟩ => [(1, .slice A2 m c2), (5, .slice (some ⟨g2_5, 0, none⟩) (n + m) (n + m)), (6, .int .i64 (((i : Nat) : Int))), (7, .int .u32 (((((digs a).getD i 0) : Nat) : Int))), (8, .int .u64 (((cy : Nat) : Int))), (22, .slice A n c), (23, .int .i64 (((n : Nat) : Int))), (24, .int .i64 (((i : Nat) : Int))), (29, .slice A2 m c2), (30, .int .i64 (((m : Nat) : Int))), (31, .int .i64 (((k : Nat) : Int)))]) (fun ⟨k, cy, o2⟩ wl1 => (k ≤ m) ∧ (o2.length = n + m) ∧ (∀ d ∈ o2, d < B) ∧ (∀ j, i + m ≤ j → o2.getD j 0 = 0) ∧ (val o2 + B ^ (i + k) * cy = val ((digs a).take i) * b + B ^ i * (((digs a).getD i 0) * val ((digs b).take k))) ∧ (cy < B) ∧ Le w wl1 ∧ wl0.heap.size ≤ wl1.heap.size ∧ OVec wl1 w1_3.heap.size 122 dv 1 (some ⟨g2_5, 0, none⟩) (n + m) (n + m) o2) (fun ⟨k, cy, o2⟩ => m - k) (0, 0, out) ?_ ?_ ?_
  ·exact .cons rfl (.cons rfl (.cons rfl (.cons rfl (.cons rfl (.cons rfl (.cons rfl (.cons rfl (.cons rfl (.cons rfl (.cons rfl (.nil _)))))))))))
  ·exact ⟨Nat.zero_le _, hol, hob, hoz, by simp [val, hov], by decide, Ll0, Nat.le_refl _, f0_0⟩
  rintro ⟨k, cy, o2⟩ wl1 ⟨hk, h2l, h2b, h2z, h2v, hcy, Ll1, zl1, f1_0⟩
  have lb1_3 : w1_3.heap.size ≤ wl1.heap.size := Nat.le_trans lb0_3 (by omega)
  refine WC.sr (W.run 1 rfl (W.nx (WC.seq ?_)))
  by_cases c1 : ((k : Nat) : Int) < ((m : Nat) : Int)
  ·refine WC.condY rfl (decide_eq_true c1) ?_
   have hx := dig_lt a i
   have hy := dig_lt b k
   have ho := getD_lt h2b (i + k)
   have hr := mul_room hx hy ho hcy
   have hBB : B * B = 18446744073709551616 := by decide
   refine WC.sn (WC.seq (WC.block (WC.sr (W.run 1 rfl ?_))))
   refine W.a (.idxS (k) Tryz.underlying31 sz122 rfl rfl (hW.isSome dv_row (by omega)) (rfl) (by omega)) ?_
   refine W.r (.vone (v := .int .u32 (((((digs b).getD k 0) : Nat) : Int))) na122 rfl (hW.le Ll1) dv_row (getS (digs b) 0 (by first | omega | (simp only [List.length_cons, List.length_nil]; omega))) rfl) ?_
   refine W.run 2 rfl (W.nx (WC.sr (W.run 1 rfl ?_)))
   refine W.r (.idI (isS Tryz.underlying122) Tryz.underlying57 rfl (IntWalk.u64_in _ (by omega))) ?_
   refine W.run 1 rfl ?_
   refine W.r (.idI (isS Tryz.underlying122) Tryz.underlying57 rfl (IntWalk.u64_in _ (by omega))) ?_
   refine W.a (.mulN ((digs a).getD i 0) ((digs b).getD k 0) (((digs a).getD i 0) * ((digs b).getD k 0)) rfl rfl rfl rfl (by omega)) ?_
   refine W.run 3 rfl ?_
   refine W.a (.add rfl rfl (by omega)) ?_
   refine W.a (.idxS ((i + k)) Tryz.underlying31 sz122 rfl rfl (o2_5.vec.isSome dv_row (by omega)) (by omega) (by omega)) ?_
   refine W.r (.vone (v := .int .u32 ((((o2.getD (i + k) 0) : Nat) : Int))) na122 rfl f1_0.vec dv_row (getS o2 0 (by omega)) rfl) ?_
   refine W.r (.idI (isS Tryz.underlying122) Tryz.underlying57 rfl (IntWalk.u64_in _ (by omega))) ?_
   refine W.a (.addN (((digs a).getD i 0) * ((digs b).getD k 0)) (o2.getD (i + k) 0) ((((digs a).getD i 0) * ((digs b).getD k 0)) + (o2.getD (i + k) 0)) rfl rfl rfl rfl (by omega)) ?_
   refine W.run 1 rfl ?_
   refine W.a (.addN ((((digs a).getD i 0) * ((digs b).getD k 0)) + (o2.getD (i + k) 0)) cy (((((digs a).getD i 0) * ((digs b).getD k 0)) + (o2.getD (i + k) 0)) + cy) rfl rfl rfl rfl (by omega)) ?_
   refine W.run 1 rfl (W.nx (WC.region (W.run 3 rfl ?_)))
   refine W.a (.add rfl rfl (by omega)) ?_
   refine W.run 1 rfl ?_
   refine W.r (.toU32 (((((digs a).getD i 0) * ((digs b).getD k 0)) + (o2.getD (i + k) 0)) + cy) (isS Tryz.underlying57) Tryz.underlying122 rfl rfl) ?_
   refine W.run 1 rfl ?_
   refine W.a (.shrE (((((digs a).getD i 0) * ((digs b).getD k 0)) + (o2.getD (i + k) 0)) + cy) 32 ((((((digs a).getD i 0) * ((digs b).getD k 0)) + (o2.getD (i + k) 0)) + cy) / 4294967296) rfl (by first | rfl | omega) rfl rfl (by decide) rfl) ?_
   refine W.a (.idxS ((i + k)) Tryz.underlying31 sz122 rfl rfl (o2_5.vec.isSome dv_row (by omega)) (by omega) (by omega)) ?_
   refine W.ef0 rfl rfl ?_
   refine Ef.vset (j := (i + k)) (o := 0) ((((((digs a).getD i 0) * ((digs b).getD k 0)) + (o2.getD (i + k) 0)) + cy) % 4294967296) sz122 rfl (by omega) rfl f1_0 dv_row (getS o2 0 (by omega)) (by decide) rfl rfl ?_
   intro w11_9 o11_9 h11_9
   have L4 := Ll1.then_ h11_9 (fun q hq => Nat.le_trans L2.size (f1_0.row hq).1)
   refine W.run 1 rfl (W.nil (E.blkN (E.thenN (WC.region ?_))))
   refine W.a (.add rfl rfl (by omega)) ?_
   refine W.run 1 rfl (W.nil ?_)
   refine E.again (k + 1, ((((((digs a).getD i 0) * ((digs b).getD k 0)) + (o2.getD (i + k) 0)) + cy) / 4294967296), (o2.set (i + k) ((((((digs a).getD i 0) * ((digs b).getD k 0)) + (o2.getD (i + k) 0)) + cy) % 4294967296))) (.cons rfl (.cons rfl (.cons rfl (.cons rfl (.cons rfl (.cons rfl (.cons rfl (.cons rfl (.cons rfl (.cons rfl (.cons rfl (.nil _)))))))))))) ?_ ?_
   ·exact ⟨by omega, by simp [h2l], set_lt h2b (Nat.mod_lt _ (by decide)), (fun j hj => by rw [List.getD_eq_getElem?_getD, List.getElem?_set_ne (by omega), ← List.getD_eq_getElem?_getD]; exact h2z j (by omega)), by rw [val_take_succ (by omega)]; exact mul_step (by omega) h2v, by omega, L4, by have := zl1; have := h11_9.size; omega, o11_9⟩
   first | omega | (simp only []; omega)
  refine WC.condN rfl (decide_eq_false c1) ?_
  refine WC.exit (E.thenX (E.thenX (E.blkH (E.thenN (WC.region (W.run 3 rfl ?_))))))
  refine W.r (.len Tryz.underlying31 rfl) ?_
  refine W.a (.add rfl rfl (by omega)) ?_
  refine W.run 1 rfl ?_
  refine W.r (.toU32 cy (isS Tryz.underlying57) Tryz.underlying122 rfl rfl) ?_
  refine W.a (.idxS ((i + m)) Tryz.underlying31 sz122 rfl rfl (o2_5.vec.isSome dv_row (by omega)) (by omega) (by omega)) ?_
  refine W.ef0 rfl rfl ?_
  refine Ef.vset (j := (i + m)) (o := 0) (cy % 4294967296) sz122 rfl (by omega) rfl f1_0 dv_row (getS o2 0 (by omega)) (by decide) rfl rfl ?_
  intro w13_8 o13_8 h13_8
  have L5 := Ll1.then_ h13_8 (fun q hq => Nat.le_trans L2.size (f1_0.row hq).1)
  refine W.nil (E.blkN (E.thenN (WC.region ?_)))
  refine W.a (.add rfl rfl (by omega)) ?_
  refine W.run 1 rfl (W.nil ?_)
  refine E.again (i + 1, (o2.set (i + m) (cy % 4294967296))) (.cons rfl (.cons rfl (.cons rfl (.cons rfl (.cons rfl (.nil _)))))) ?_ ?_
  ·exact ⟨by omega, by simp [h2l], set_lt h2b (by omega), (fun j hj => by rw [List.getD_eq_getElem?_getD, List.getElem?_set_ne (by omega), ← List.getD_eq_getElem?_getD]; exact h2z j (by omega)), by rw [Nat.mod_eq_of_lt (by omega), val_take_succ (by omega)]; exact mul_row (b' := 0) (by omega) (h2z _ (Nat.le_refl _)) (by have h9 := h2v; rw [show k = m by omega, List.take_of_length_le (show (digs b).length ≤ m by omega), val_digs] at h9; exact h9), L5, by have := zl0; have := h13_8.size; have := zl1; have := h1_1.size; have := h1_3.size; have := h2_5.size; omega, o13_8⟩
  first | omega | (simp only []; omega)
 refine WC.condN rfl (decide_eq_false c0) ?_
 refine WC.exit (E.thenX (E.thenX (E.blkH (E.thenN (WC.sr (W.run 1 rfl ?_))))))
 refine W.cl go103 rfl rfl ((by have h := low_ok wl0 f0_0 hob (by omega); rw [(by have h9 := hov; rw [show i = n by omega, List.take_of_length_le (by omega), val_digs] at h9; exact h9 : val out = a * b)] at h; exact h)) ?_
 rintro _ w15_1 ⟨rfl, o15_1, h15_1⟩
 have L6 := Ll0.trans h15_1
 refine W.run 1 rfl (W.nx (WC.ret ?_))
 refine E.retG1 rfl rfl ?_
 exact ⟨_, _, rfl, (o15_1.mono L2.size), L6⟩

theorem greatest_ok {F : Nat} {caps : Array Value} (pr : Nat → Bool) (hgo : IsGo Tryz.prog F) (w : World) (hf : ∀ (d : Nat) (w1 : World), 0 < d → d < 4294967296 → Le w w1 → Calls Tryz.prog F (#[.int .u32 ((d : Nat) : Int)] ++ caps) w1 fun r w2 => r = .returned (.bool (pr d)) ∧ Le w1 w2) (h0 : pr 0 = true) : Calls Tryz.prog 129 #[.func (.func F) #[] caps] w fun r w' => ∃ D, r = .returned (.int .u32 ((D : Nat) : Int)) ∧ (D < 4294967296 ∧ pr D = true ∧ (D + 1 = 4294967296 ∨ pr (D + 1) = false)) ∧ Le w w' := by
 refine enter Tryz.func129 rfl rfl ?_
 have L0 := Le.refl w
 refine WC.sr (W.run 1 rfl (W.nx (WC.sr (W.run 1 rfl (W.nx (WC.seq (WC.sr (W.run 1 rfl (W.nx (WC.block ?_))))))))))
 refine WC.loop (ι := Nat × Nat) (fun ⟨i, d⟩ => [(0, .func (.func F) #[] caps), (3, .int .u32 (((d : Nat) : Int))), (6, .int .i64 (((i : Nat) : Int)))]) (fun ⟨i, d⟩ wl0 => (Gr pr i d) ∧ Le w wl0 ∧ w.heap.size ≤ wl0.heap.size) (fun ⟨i, d⟩ => 32 - i) (0, 0) ?_ ?_ ?_
 ·exact .cons rfl (.cons rfl (.cons rfl (.nil _)))
 ·exact ⟨Gr.zero h0, L0, Nat.le_refl _⟩
 rintro ⟨i, d⟩ wl0 ⟨hg, Ll0, zl0⟩
 refine WC.sr (W.run 1 rfl (W.nx (WC.seq ?_)))
 by_cases c0 : ((i : Nat) : Int) < 32
 ·refine WC.condY rfl (decide_eq_true c0) ?_
  have hlt := hg.lt (by omega)
  refine WC.sn (WC.seq (WC.block (WC.sr (W.run 2 rfl (W.nx (WC.sr (W.run 1 rfl ?_)))))))
  refine W.a (.sub rfl rfl (by omega)) ?_
  refine W.a (.bit32 (31 - i) (2 ^ (31 - i)) rfl rfl (by omega) (by omega) rfl) ?_
  refine W.run 1 rfl (W.nx (WC.sr (W.run 3 rfl ?_)))
  refine W.a (.or32N d (2 ^ (31 - i)) (d + 2 ^ (31 - i)) rfl rfl rfl rfl hlt.1 hlt.2.1 (or_bit hlt.2.2.2)) ?_
  refine W.ef rfl rfl rfl ?_
  refine Ef.callC hgo rfl rfl rfl (hf (d + 2 ^ (31 - i)) _ (Nat.add_pos_right _ (Nat.two_pow_pos _)) hlt.2.2.1 Ll0) ?_
  rintro _ w6_4 ⟨rfl, h6_4⟩
  refine ⟨_, rfl, ?_⟩
  have L1 := Ll0.trans h6_4
  refine W.nx ?_
  by_cases c1 : (pr (d + 2 ^ (31 - i))) = true
  ·refine WC.condY rfl (c1) ?_
   refine WC.region (W.run 2 rfl ?_)
   refine W.a (.or32N d (2 ^ (31 - i)) (d + 2 ^ (31 - i)) rfl rfl rfl rfl hlt.1 hlt.2.1 (or_bit hlt.2.2.2)) ?_
   refine W.run 1 rfl (W.nil (E.blkN (E.thenN (WC.region ?_))))
   refine W.a (.add rfl rfl (by omega)) ?_
   refine W.run 1 rfl (W.nil ?_)
   refine E.again (i + 1, (d + 2 ^ (31 - i))) (.cons rfl (.cons rfl (.cons rfl (.nil _)))) ?_ ?_
   ·exact ⟨hg.yesB (by omega) (by first | assumption | simpa using (by assumption : ¬ pr (d + 2 ^ (31 - i)) = true)), L1, by have := zl0; have := h6_4.size; omega⟩
   first | omega | (simp only []; omega)
  refine WC.condN rfl ((Bool.eq_false_iff.2 c1)) ?_
  refine WC.skip (E.blkN (E.thenN (WC.region ?_)))
  refine W.a (.add rfl rfl (by omega)) ?_
  refine W.run 1 rfl (W.nil ?_)
  refine E.again (i + 1, d) (.cons rfl (.cons rfl (.cons rfl (.nil _)))) ?_ ?_
  ·exact ⟨hg.noB (by omega) (by first | assumption | simpa using (by assumption : ¬ pr (d + 2 ^ (31 - i)) = true)), L1, by have := zl0; have := h6_4.size; omega⟩
  first | omega | (simp only []; omega)
 refine WC.condN rfl (decide_eq_false c0) ?_
 refine WC.exit (E.thenX (E.thenX (E.blkH (E.thenN (WC.sr (W.run 2 rfl (W.nx (WC.ret ?_))))))))
 refine E.retG1 rfl rfl ?_
 exact ⟨d, rfl, hg.done (by omega), Ll0⟩
end Go.Proofs.YtmkdeemjkcigkaaGreatDoor

