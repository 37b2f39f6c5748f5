/- SplitHeld: for every input the law answers true and leaves its arguments as they were. -/
import Derived.Test.YtocheaahlpiajaaGreatDoorSplitHeldK
import Derived.Test.YtocheaahlpiajaaGreatDoorProg
import Derived.KernelRfl
set_option linter.unusedVariables false
set_option linter.unusedSimpArgs false
namespace Go.Proofs.YtocheaahlpiajaaGreatDoor
open Tryz
open Go Go.Sx
theorem mixed:prog.follows .mixedOrders=true:=by kernel_rfl
theorem el2:El prog 2 1 8 (.int .i64 0):=El.mk (by kernel_rfl) (by first|rfl|simp[Value.cells]) (by decide)
theorem z2:Zr prog 2 (.int .i64 0):=el2.zr
theorem el3:El prog 3 1 8 (.int .i64 0):=El.mk (by kernel_rfl) (by first|rfl|simp[Value.cells]) (by decide)
theorem sz3:Sz prog 3 1:=el3.sz
theorem z3:Zr prog 3 (.int .i64 0):=el3.zr
theorem na3:NotAgg prog 3:=⟨_,underlying3,rfl⟩
theorem el4:El prog 4 1 1 (.bool false):=El.mk (by kernel_rfl) (by first|rfl|simp[Value.cells]) (by decide)
theorem sz4:Sz prog 4 1:=el4.sz
theorem z4:Zr prog 4 (.bool false):=el4.zr
theorem na4:NotAgg prog 4:=⟨_,underlying4,rfl⟩
theorem el5:El prog 5 1 1 (.int .u8 0):=El.mk (by kernel_rfl) (by first|rfl|simp[Value.cells]) (by decide)
theorem sz5:Sz prog 5 1:=el5.sz
theorem z5:Zr prog 5 (.int .u8 0):=el5.zr
theorem na5:NotAgg prog 5:=⟨_,underlying5,rfl⟩
theorem el9:El prog 9 1 16 (.string ⟨#[]⟩):=El.mk (by kernel_rfl) (by first|rfl|simp[Value.cells]) (by decide)
theorem z9:Zr prog 9 (.string ⟨#[]⟩):=el9.zr
theorem el20:El prog 20 1 16 (.nilIface):=El.mk (by kernel_rfl) (by first|rfl|simp[Value.cells]) (by decide)
theorem z20:Zr prog 20 (.nilIface):=el20.zr
theorem el22:El prog 22 1 8 (.nilFunc):=El.mk (by kernel_rfl) (by first|rfl|simp[Value.cells]) (by decide)
theorem z22:Zr prog 22 (.nilFunc):=el22.zr
theorem el23:El prog 23 1 24 (.slice none 0 0):=El.mk (by kernel_rfl) (by first|rfl|simp[Value.cells]) (by decide)
theorem sz23:Sz prog 23 1:=el23.sz
theorem z23:Zr prog 23 (.slice none 0 0):=el23.zr
theorem na23:NotAgg prog 23:=⟨_,underlying23,rfl⟩
theorem el24:El prog 24 1 8 (.nilFunc):=El.mk (by kernel_rfl) (by first|rfl|simp[Value.cells]) (by decide)
theorem z24:Zr prog 24 (.nilFunc):=el24.zr
theorem el25:El prog 25 1 8 (.nilFunc):=El.mk (by kernel_rfl) (by first|rfl|simp[Value.cells]) (by decide)
theorem z25:Zr prog 25 (.nilFunc):=el25.zr
theorem el26:El prog 26 1 24 (.slice none 0 0):=El.mk (by kernel_rfl) (by first|rfl|simp[Value.cells]) (by decide)
theorem sz26:Sz prog 26 1:=el26.sz
theorem z26:Zr prog 26 (.slice none 0 0):=el26.zr
theorem na26:NotAgg prog 26:=⟨_,underlying26,rfl⟩
theorem el27:El prog 27 1 8 (.int .u64 0):=El.mk (by kernel_rfl) (by first|rfl|simp[Value.cells]) (by decide)
theorem sz27:Sz prog 27 1:=el27.sz
theorem z27:Zr prog 27 (.int .u64 0):=el27.zr
theorem na27:NotAgg prog 27:=⟨_,underlying27,rfl⟩
theorem el28:El prog 28 1 8 (.int .u64 0):=El.mk (by kernel_rfl) (by first|rfl|simp[Value.cells]) (by decide)
theorem sz28:Sz prog 28 1:=el28.sz
theorem z28:Zr prog 28 (.int .u64 0):=el28.zr
theorem na28:NotAgg prog 28:=⟨_,underlying28,rfl⟩
theorem el30:El prog 30 32 32 (.agg (List.replicate 32 (.int .u8 0)).toArray):=El.mk (by kernel_rfl) (by first|rfl|simp[Value.cells]) (by decide)
theorem sz30:Sz prog 30 32:=el30.sz
theorem z30:Zr prog 30 (.agg (List.replicate 32 (.int .u8 0)).toArray):=el30.zr
theorem ag30:IsAgg prog 30 32:=⟨_,underlying30,rfl,sz30⟩
theorem el32:El prog 32 1 24 (.slice none 0 0):=El.mk (by kernel_rfl) (by first|rfl|simp[Value.cells]) (by decide)
theorem sz32:Sz prog 32 1:=el32.sz
theorem z32:Zr prog 32 (.slice none 0 0):=el32.zr
theorem na32:NotAgg prog 32:=⟨_,underlying32,rfl⟩
theorem el33:El prog 33 4 80 (.agg #[.int .i64 0,.slice none 0 0,.slice none 0 0,.slice none 0 0]):=El.mk (by kernel_rfl) (by first|rfl|simp[Value.cells]) (by decide)
theorem z33:Zr prog 33 (.agg #[.int .i64 0,.slice none 0 0,.slice none 0 0,.slice none 0 0]):=el33.zr
theorem el34:El prog 34 4 80 (.agg #[.int .i64 0,.slice none 0 0,.slice none 0 0,.slice none 0 0]):=El.mk (by kernel_rfl) (by first|rfl|simp[Value.cells]) (by decide)
theorem sz34:Sz prog 34 4:=el34.sz
theorem z34:Zr prog 34 (.agg #[.int .i64 0,.slice none 0 0,.slice none 0 0,.slice none 0 0]):=el34.zr
theorem ag34:IsAgg prog 34 4:=⟨_,underlying34,rfl,sz34⟩
theorem el35:El prog 35 1 24 (.slice none 0 0):=El.mk (by kernel_rfl) (by first|rfl|simp[Value.cells]) (by decide)
theorem sz35:Sz prog 35 1:=el35.sz
theorem z35:Zr prog 35 (.slice none 0 0):=el35.zr
theorem na35:NotAgg prog 35:=⟨_,underlying35,rfl⟩
theorem el36:El prog 36 1 8 (.nilFunc):=El.mk (by kernel_rfl) (by first|rfl|simp[Value.cells]) (by decide)
theorem z36:Zr prog 36 (.nilFunc):=el36.zr
theorem el37:El prog 37 1 24 (.slice none 0 0):=El.mk (by kernel_rfl) (by first|rfl|simp[Value.cells]) (by decide)
theorem z37:Zr prog 37 (.slice none 0 0):=el37.zr
theorem el39:El prog 39 1 24 (.slice none 0 0):=El.mk (by kernel_rfl) (by first|rfl|simp[Value.cells]) (by decide)
theorem sz39:Sz prog 39 1:=el39.sz
theorem na39:NotAgg prog 39:=⟨_,underlying39,rfl⟩
theorem el41:El prog 41 2 48 (.agg #[.slice none 0 0,.slice none 0 0]):=El.mk (by kernel_rfl) (by first|rfl|simp[Value.cells]) (by decide)
theorem sz41:Sz prog 41 2:=el41.sz
theorem z41:Zr prog 41 (.agg #[.slice none 0 0,.slice none 0 0]):=el41.zr
theorem ag41:IsAgg prog 41 2:=⟨_,underlying41,rfl,sz41⟩
theorem el43:El prog 43 1 8 (.int .u64 0):=El.mk (by kernel_rfl) (by first|rfl|simp[Value.cells]) (by decide)
theorem sz43:Sz prog 43 1:=el43.sz
theorem na43:NotAgg prog 43:=⟨_,underlying43,rfl⟩
theorem el44:El prog 44 1 8 (.nilFunc):=El.mk (by kernel_rfl) (by first|rfl|simp[Value.cells]) (by decide)
theorem z44:Zr prog 44 (.nilFunc):=el44.zr
theorem el46:El prog 46 1 8 (.nilFunc):=El.mk (by kernel_rfl) (by first|rfl|simp[Value.cells]) (by decide)
theorem z46:Zr prog 46 (.nilFunc):=el46.zr
theorem el51:El prog 51 1 8 (.nilFunc):=El.mk (by kernel_rfl) (by first|rfl|simp[Value.cells]) (by decide)
theorem z51:Zr prog 51 (.nilFunc):=el51.zr
theorem el53:El prog 53 1 24 (.slice none 0 0):=El.mk (by kernel_rfl) (by first|rfl|simp[Value.cells]) (by decide)
theorem z53:Zr prog 53 (.slice none 0 0):=el53.zr
theorem el55:El prog 55 1 8 (.pointer none):=El.mk (by kernel_rfl) (by first|rfl|simp[Value.cells]) (by decide)
theorem sz55:Sz prog 55 1:=el55.sz
theorem na55:NotAgg prog 55:=⟨_,underlying55,rfl⟩
theorem el57:El prog 57 1 8 (.pointer none):=El.mk (by kernel_rfl) (by first|rfl|simp[Value.cells]) (by decide)
theorem z57:Zr prog 57 (.pointer none):=el57.zr
theorem el59:El prog 59 1 24 (.slice none 0 0):=El.mk (by kernel_rfl) (by first|rfl|simp[Value.cells]) (by decide)
theorem sz59:Sz prog 59 1:=el59.sz
theorem z59:Zr prog 59 (.slice none 0 0):=el59.zr
theorem na59:NotAgg prog 59:=⟨_,underlying59,rfl⟩
theorem el61:El prog 61 2 48 (.agg #[.slice none 0 0,.slice none 0 0]):=El.mk (by kernel_rfl) (by first|rfl|simp[Value.cells]) (by decide)
theorem sz61:Sz prog 61 2:=el61.sz
theorem z61:Zr prog 61 (.agg #[.slice none 0 0,.slice none 0 0]):=el61.zr
theorem ag61:IsAgg prog 61 2:=⟨_,underlying61,rfl,sz61⟩
theorem el64:El prog 64 1 8 (.nilFunc):=El.mk (by kernel_rfl) (by first|rfl|simp[Value.cells]) (by decide)
theorem z64:Zr prog 64 (.nilFunc):=el64.zr
theorem el79:El prog 79 5 40 (.agg #[.int .i64 0,.int .i64 0,.int .i64 0,.int .i64 0,.int .i64 0]):=El.mk (by kernel_rfl) (by first|rfl|simp[Value.cells]) (by decide)
theorem sz79:Sz prog 79 5:=el79.sz
theorem z79:Zr prog 79 (.agg #[.int .i64 0,.int .i64 0,.int .i64 0,.int .i64 0,.int .i64 0]):=el79.zr
theorem ag79:IsAgg prog 79 5:=⟨_,underlying79,rfl,sz79⟩
theorem el81:El prog 81 9 72 (.agg (List.replicate 9 (.int .i64 0)).toArray):=El.mk (by kernel_rfl) (by first|rfl|simp[Value.cells]) (by decide)
theorem sz81:Sz prog 81 9:=el81.sz
theorem z81:Zr prog 81 (.agg (List.replicate 9 (.int .i64 0)).toArray):=el81.zr
theorem ag81:IsAgg prog 81 9:=⟨_,underlying81,rfl,sz81⟩
theorem el125:El prog 125 6 48 (.agg #[.int .i64 0,.int .i64 0,.int .i64 0,.int .i64 0,.int .u64 0,.int .u64 0]):=El.mk (by kernel_rfl) (by first|rfl|simp[Value.cells]) (by decide)
theorem sz125:Sz prog 125 6:=el125.sz
theorem z125:Zr prog 125 (.agg #[.int .i64 0,.int .i64 0,.int .i64 0,.int .i64 0,.int .u64 0,.int .u64 0]):=el125.zr
theorem ag125:IsAgg prog 125 6:=⟨_,underlying125,rfl,sz125⟩
theorem el127:El prog 127 3 24 (.agg #[.int .i64 0,.int .i64 0,.int .u64 0]):=El.mk (by kernel_rfl) (by first|rfl|simp[Value.cells]) (by decide)
theorem sz127:Sz prog 127 3:=el127.sz
theorem z127:Zr prog 127 (.agg #[.int .i64 0,.int .i64 0,.int .u64 0]):=el127.zr
theorem el130:El prog 130 1 24 (.slice none 0 0):=El.mk (by kernel_rfl) (by first|rfl|simp[Value.cells]) (by decide)
theorem sz130:Sz prog 130 1:=el130.sz
theorem na130:NotAgg prog 130:=⟨_,underlying130,rfl⟩
theorem el151:El prog 151 8 8 (.agg #[.int .u8 0,.int .u8 0,.int .u8 0,.int .u8 0,.int .u8 0,.int .u8 0,.int .u8 0,.int .u8 0]):=El.mk (by kernel_rfl) (by first|rfl|simp[Value.cells]) (by decide)
theorem z151:Zr prog 151 (.agg #[.int .u8 0,.int .u8 0,.int .u8 0,.int .u8 0,.int .u8 0,.int .u8 0,.int .u8 0,.int .u8 0]):=el151.zr
theorem el161:El prog 161 3 24 (.agg #[.int .i64 0,.int .i64 0,.int .i64 0]):=El.mk (by kernel_rfl) (by first|rfl|simp[Value.cells]) (by decide)
theorem sz161:Sz prog 161 3:=el161.sz
theorem el171:El prog 171 1 8 (.nilFunc):=El.mk (by kernel_rfl) (by first|rfl|simp[Value.cells]) (by decide)
theorem z171:Zr prog 171 (.nilFunc):=el171.zr
theorem el186:El prog 186 1 8 (.map none):=El.mk (by kernel_rfl) (by first|rfl|simp[Value.cells]) (by decide)
theorem sz186:Sz prog 186 1:=el186.sz
theorem na186:NotAgg prog 186:=⟨_,underlying186,rfl⟩
theorem el188:El prog 188 1 8 (.agg #[.map none]):=El.mk (by kernel_rfl) (by first|rfl|simp[Value.cells]) (by decide)
theorem z188:Zr prog 188 (.agg #[.map none]):=el188.zr
theorem el190:El prog 190 4 80 (.agg #[.slice none 0 0,.slice none 0 0,.slice none 0 0,.int .i64 0]):=El.mk (by kernel_rfl) (by first|rfl|simp[Value.cells]) (by decide)
theorem sz190:Sz prog 190 4:=el190.sz
theorem z190:Zr prog 190 (.agg #[.slice none 0 0,.slice none 0 0,.slice none 0 0,.int .i64 0]):=el190.zr
theorem ag190:IsAgg prog 190 4:=⟨_,underlying190,rfl,sz190⟩
theorem el191:El prog 191 1 8 (.nilFunc):=El.mk (by kernel_rfl) (by first|rfl|simp[Value.cells]) (by decide)
theorem sz191:Sz prog 191 1:=el191.sz
theorem z191:Zr prog 191 (.nilFunc):=el191.zr
theorem na191:NotAgg prog 191:=⟨_,underlying191,rfl⟩
theorem el212:El prog 212 1 8 (.nilFunc):=El.mk (by kernel_rfl) (by first|rfl|simp[Value.cells]) (by decide)
theorem z212:Zr prog 212 (.nilFunc):=el212.zr
theorem el213:El prog 213 1 8 (.nilFunc):=El.mk (by kernel_rfl) (by first|rfl|simp[Value.cells]) (by decide)
theorem z213:Zr prog 213 (.nilFunc):=el213.zr
theorem el226:El prog 226 1 8 (.map none):=El.mk (by kernel_rfl) (by first|rfl|simp[Value.cells]) (by decide)
theorem sz226:Sz prog 226 1:=el226.sz
theorem na226:NotAgg prog 226:=⟨_,underlying226,rfl⟩
theorem el227:El prog 227 1 8 (.map none):=El.mk (by kernel_rfl) (by first|rfl|simp[Value.cells]) (by decide)
theorem sz227:Sz prog 227 1:=el227.sz
theorem na227:NotAgg prog 227:=⟨_,underlying227,rfl⟩
theorem el229:El prog 229 2 16 (.agg #[.map none,.map none]):=El.mk (by kernel_rfl) (by first|rfl|simp[Value.cells]) (by decide)
theorem z229:Zr prog 229 (.agg #[.map none,.map none]):=el229.zr
theorem el231:El prog 231 1 8 (.pointer none):=El.mk (by kernel_rfl) (by first|rfl|simp[Value.cells]) (by decide)
theorem z231:Zr prog 231 (.pointer none):=el231.zr
theorem el233:El prog 233 8 72 (.agg #[.int .u64 0,.int .i64 0,.int .i64 0,.int .i64 0,.slice none 0 0,.int .i64 0,.bool false,.bool false]):=El.mk (by kernel_rfl) (by first|rfl|simp[Value.cells]) (by decide)
theorem z233:Zr prog 233 (.agg #[.int .u64 0,.int .i64 0,.int .i64 0,.int .i64 0,.slice none 0 0,.int .i64 0,.bool false,.bool false]):=el233.zr
theorem el234:El prog 234 8 72 (.agg #[.int .u64 0,.int .i64 0,.int .i64 0,.int .i64 0,.slice none 0 0,.int .i64 0,.bool false,.bool false]):=El.mk (by kernel_rfl) (by first|rfl|simp[Value.cells]) (by decide)
theorem z234:Zr prog 234 (.agg #[.int .u64 0,.int .i64 0,.int .i64 0,.int .i64 0,.slice none 0 0,.int .i64 0,.bool false,.bool false]):=el234.zr
theorem el238:El prog 238 2 16 (.agg #[.int .i64 0,.int .i64 0]):=El.mk (by kernel_rfl) (by first|rfl|simp[Value.cells]) (by decide)
theorem z238:Zr prog 238 (.agg #[.int .i64 0,.int .i64 0]):=el238.zr
theorem el263:El prog 263 3 24 (.agg #[.int .i64 0,.int .i64 0,.int .i64 0]):=El.mk (by kernel_rfl) (by first|rfl|simp[Value.cells]) (by decide)
theorem sz263:Sz prog 263 3:=el263.sz
theorem z263:Zr prog 263 (.agg #[.int .i64 0,.int .i64 0,.int .i64 0]):=el263.zr
theorem ag263:IsAgg prog 263 3:=⟨_,underlying263,rfl,sz263⟩
theorem el266:El prog 266 2 16 (.agg #[.int .i64 0,.int .i64 0]):=El.mk (by kernel_rfl) (by first|rfl|simp[Value.cells]) (by decide)
theorem sz266:Sz prog 266 2:=el266.sz
theorem z266:Zr prog 266 (.agg #[.int .i64 0,.int .i64 0]):=el266.zr
theorem ag266:IsAgg prog 266 2:=⟨_,underlying266,rfl,sz266⟩
theorem el273:El prog 273 1 4 (.int .u32 0):=El.mk (by kernel_rfl) (by first|rfl|simp[Value.cells]) (by decide)
theorem sz273:Sz prog 273 1:=el273.sz
theorem na273:NotAgg prog 273:=⟨_,underlying273,rfl⟩
theorem el275:El prog 275 8 32 (.agg #[.int .u32 0,.int .u32 0,.int .u32 0,.int .u32 0,.int .u32 0,.int .u32 0,.int .u32 0,.int .u32 0]):=El.mk (by kernel_rfl) (by first|rfl|simp[Value.cells]) (by decide)
theorem sz275:Sz prog 275 8:=el275.sz
theorem z275:Zr prog 275 (.agg #[.int .u32 0,.int .u32 0,.int .u32 0,.int .u32 0,.int .u32 0,.int .u32 0,.int .u32 0,.int .u32 0]):=el275.zr
theorem ag275:IsAgg prog 275 8:=⟨_,underlying275,rfl,sz275⟩
theorem el288:El prog 288 12 12 (.agg (List.replicate 12 (.bool false)).toArray):=El.mk (by kernel_rfl) (by first|rfl|simp[Value.cells]) (by decide)
theorem z288:Zr prog 288 (.agg (List.replicate 12 (.bool false)).toArray):=el288.zr
theorem el324:El prog 324 64 256 (.agg (List.replicate 64 (.int .u32 0)).toArray):=El.mk (by kernel_rfl) (by first|rfl|simp[Value.cells]) (by decide)
theorem sz324:Sz prog 324 64:=el324.sz
theorem z324:Zr prog 324 (.agg (List.replicate 64 (.int .u32 0)).toArray):=el324.zr
theorem ag324:IsAgg prog 324 64:=⟨_,underlying324,rfl,sz324⟩
theorem go13:IsGo prog 13:=⟨_,func13,rfl,by decide⟩
theorem go14:IsGo prog 14:=⟨_,func14,rfl,by decide⟩
theorem go15:IsGo prog 15:=⟨_,func15,rfl,by decide⟩
theorem go16:IsGo prog 16:=⟨_,func16,rfl,by decide⟩
theorem go19:IsGo prog 19:=⟨_,func19,rfl,by decide⟩
theorem go20:IsGo prog 20:=⟨_,func20,rfl,by decide⟩
theorem go21:IsGo prog 21:=⟨_,func21,rfl,by decide⟩
theorem go24:IsGo prog 24:=⟨_,func24,rfl,by decide⟩
theorem go25:IsGo prog 25:=⟨_,func25,rfl,by decide⟩
theorem go26:IsGo prog 26:=⟨_,func26,rfl,by decide⟩
theorem go28:IsGo prog 28:=⟨_,func28,rfl,by decide⟩
theorem go30:IsGo prog 30:=⟨_,func30,rfl,by decide⟩
theorem go34:IsGo prog 34:=⟨_,func34,rfl,by decide⟩
theorem go38:IsGo prog 38:=⟨_,func38,rfl,by decide⟩
theorem go39:IsGo prog 39:=⟨_,func39,rfl,by decide⟩
theorem go40:IsGo prog 40:=⟨_,func40,rfl,by decide⟩
theorem go41:IsGo prog 41:=⟨_,func41,rfl,by decide⟩
theorem go42:IsGo prog 42:=⟨_,func42,rfl,by decide⟩
theorem go43:IsGo prog 43:=⟨_,func43,rfl,by decide⟩
theorem go44:IsGo prog 44:=⟨_,func44,rfl,by decide⟩
theorem go46:IsGo prog 46:=⟨_,func46,rfl,by decide⟩
theorem go57:IsGo prog 57:=⟨_,func57,rfl,by decide⟩
theorem go58:IsGo prog 58:=⟨_,func58,rfl,by decide⟩
theorem go59:IsGo prog 59:=⟨_,func59,rfl,by decide⟩
theorem go60:IsGo prog 60:=⟨_,func60,rfl,by decide⟩
theorem go61:IsGo prog 61:=⟨_,func61,rfl,by decide⟩
theorem go62:IsGo prog 62:=⟨_,func62,rfl,by decide⟩
theorem go64:IsGo prog 64:=⟨_,func64,rfl,by decide⟩
theorem go68:IsGo prog 68:=⟨_,func68,rfl,by decide⟩
theorem go71:IsGo prog 71:=⟨_,func71,rfl,by decide⟩
theorem go72:IsGo prog 72:=⟨_,func72,rfl,by decide⟩
theorem go73:IsGo prog 73:=⟨_,func73,rfl,by decide⟩
theorem go74:IsGo prog 74:=⟨_,func74,rfl,by decide⟩
theorem go75:IsGo prog 75:=⟨_,func75,rfl,by decide⟩
theorem go76:IsGo prog 76:=⟨_,func76,rfl,by decide⟩
theorem go77:IsGo prog 77:=⟨_,func77,rfl,by decide⟩
theorem go78:IsGo prog 78:=⟨_,func78,rfl,by decide⟩
theorem go79:IsGo prog 79:=⟨_,func79,rfl,by decide⟩
theorem go80:IsGo prog 80:=⟨_,func80,rfl,by decide⟩
theorem go81:IsGo prog 81:=⟨_,func81,rfl,by decide⟩
theorem go85:IsGo prog 85:=⟨_,func85,rfl,by decide⟩
theorem go86:IsGo prog 86:=⟨_,func86,rfl,by decide⟩
theorem go87:IsGo prog 87:=⟨_,func87,rfl,by decide⟩
theorem go88:IsGo prog 88:=⟨_,func88,rfl,by decide⟩
theorem go101:IsGo prog 101:=⟨_,func101,rfl,by decide⟩
theorem go102:IsGo prog 102:=⟨_,func102,rfl,by decide⟩
theorem go103:IsGo prog 103:=⟨_,func103,rfl,by decide⟩
theorem go104:IsGo prog 104:=⟨_,func104,rfl,by decide⟩
theorem go105:IsGo prog 105:=⟨_,func105,rfl,by decide⟩
theorem go106:IsGo prog 106:=⟨_,func106,rfl,by decide⟩
theorem go107:IsGo prog 107:=⟨_,func107,rfl,by decide⟩
theorem go108:IsGo prog 108:=⟨_,func108,rfl,by decide⟩
theorem go109:IsGo prog 109:=⟨_,func109,rfl,by decide⟩
theorem go110:IsGo prog 110:=⟨_,func110,rfl,by decide⟩
theorem go111:IsGo prog 111:=⟨_,func111,rfl,by decide⟩
theorem go112:IsGo prog 112:=⟨_,func112,rfl,by decide⟩
theorem go113:IsGo prog 113:=⟨_,func113,rfl,by decide⟩
theorem go114:IsGo prog 114:=⟨_,func114,rfl,by decide⟩
theorem go115:IsGo prog 115:=⟨_,func115,rfl,by decide⟩
theorem go116:IsGo prog 116:=⟨_,func116,rfl,by decide⟩
theorem go117:IsGo prog 117:=⟨_,func117,rfl,by decide⟩
theorem go118:IsGo prog 118:=⟨_,func118,rfl,by decide⟩
theorem go119:IsGo prog 119:=⟨_,func119,rfl,by decide⟩
theorem go120:IsGo prog 120:=⟨_,func120,rfl,by decide⟩
theorem go134:IsGo prog 134:=⟨_,func134,rfl,by decide⟩
theorem go144:IsGo prog 144:=⟨_,func144,rfl,by decide⟩
theorem go145:IsGo prog 145:=⟨_,func145,rfl,by decide⟩
theorem go146:IsGo prog 146:=⟨_,func146,rfl,by decide⟩
theorem go147:IsGo prog 147:=⟨_,func147,rfl,by decide⟩
theorem go148:IsGo prog 148:=⟨_,func148,rfl,by decide⟩
theorem go149:IsGo prog 149:=⟨_,func149,rfl,by decide⟩
theorem go150:IsGo prog 150:=⟨_,func150,rfl,by decide⟩
theorem go159:IsGo prog 159:=⟨_,func159,rfl,by decide⟩
theorem go160:IsGo prog 160:=⟨_,func160,rfl,by decide⟩
theorem go162:IsGo prog 162:=⟨_,func162,rfl,by decide⟩
theorem go165:IsGo prog 165:=⟨_,func165,rfl,by decide⟩
theorem go166:IsGo prog 166:=⟨_,func166,rfl,by decide⟩
theorem go167:IsGo prog 167:=⟨_,func167,rfl,by decide⟩
theorem go168:IsGo prog 168:=⟨_,func168,rfl,by decide⟩
theorem go169:IsGo prog 169:=⟨_,func169,rfl,by decide⟩
theorem go170:IsGo prog 170:=⟨_,func170,rfl,by decide⟩
theorem go171:IsGo prog 171:=⟨_,func171,rfl,by decide⟩
theorem go172:IsGo prog 172:=⟨_,func172,rfl,by decide⟩
theorem go173:IsGo prog 173:=⟨_,func173,rfl,by decide⟩
theorem go174:IsGo prog 174:=⟨_,func174,rfl,by decide⟩
theorem go175:IsGo prog 175:=⟨_,func175,rfl,by decide⟩
theorem go176:IsGo prog 176:=⟨_,func176,rfl,by decide⟩
theorem go180:IsGo prog 180:=⟨_,func180,rfl,by decide⟩
theorem go181:IsGo prog 181:=⟨_,func181,rfl,by decide⟩
theorem go182:IsGo prog 182:=⟨_,func182,rfl,by decide⟩
theorem go205:IsGo prog 205:=⟨_,func205,rfl,by decide⟩
theorem go206:IsGo prog 206:=⟨_,func206,rfl,by decide⟩
theorem go207:IsGo prog 207:=⟨_,func207,rfl,by decide⟩
theorem go208:IsGo prog 208:=⟨_,func208,rfl,by decide⟩
theorem go209:IsGo prog 209:=⟨_,func209,rfl,by decide⟩
theorem go210:IsGo prog 210:=⟨_,func210,rfl,by decide⟩
theorem go211:IsGo prog 211:=⟨_,func211,rfl,by decide⟩
theorem go212:IsGo prog 212:=⟨_,func212,rfl,by decide⟩
theorem go213:IsGo prog 213:=⟨_,func213,rfl,by decide⟩
theorem go214:IsGo prog 214:=⟨_,func214,rfl,by decide⟩
theorem go215:IsGo prog 215:=⟨_,func215,rfl,by decide⟩
theorem go216:IsGo prog 216:=⟨_,func216,rfl,by decide⟩
theorem go217:IsGo prog 217:=⟨_,func217,rfl,by decide⟩
theorem go218:IsGo prog 218:=⟨_,func218,rfl,by decide⟩
theorem go219:IsGo prog 219:=⟨_,func219,rfl,by decide⟩
theorem go220:IsGo prog 220:=⟨_,func220,rfl,by decide⟩
theorem go221:IsGo prog 221:=⟨_,func221,rfl,by decide⟩
theorem go227:IsGo prog 227:=⟨_,func227,rfl,by decide⟩
theorem go228:IsGo prog 228:=⟨_,func228,rfl,by decide⟩
theorem go229:IsGo prog 229:=⟨_,func229,rfl,by decide⟩
theorem go230:IsGo prog 230:=⟨_,func230,rfl,by decide⟩
theorem go240:IsGo prog 240:=⟨_,func240,rfl,by decide⟩
theorem go241:IsGo prog 241:=⟨_,func241,rfl,by decide⟩
theorem go243:IsGo prog 243:=⟨_,func243,rfl,by decide⟩
theorem go244:IsGo prog 244:=⟨_,func244,rfl,by decide⟩
theorem go245:IsGo prog 245:=⟨_,func245,rfl,by decide⟩
theorem go246:IsGo prog 246:=⟨_,func246,rfl,by decide⟩
theorem go247:IsGo prog 247:=⟨_,func247,rfl,by decide⟩
theorem go248:IsGo prog 248:=⟨_,func248,rfl,by decide⟩
theorem go273:IsGo prog 273:=⟨_,func273,rfl,by decide⟩
theorem go274:IsGo prog 274:=⟨_,func274,rfl,by decide⟩
theorem go275:IsGo prog 275:=⟨_,func275,rfl,by decide⟩
theorem go276:IsGo prog 276:=⟨_,func276,rfl,by decide⟩
theorem go277:IsGo prog 277:=⟨_,func277,rfl,by decide⟩
theorem go278:IsGo prog 278:=⟨_,func278,rfl,by decide⟩
theorem go279:IsGo prog 279:=⟨_,func279,rfl,by decide⟩
theorem go280:IsGo prog 280:=⟨_,func280,rfl,by decide⟩
theorem go301:IsGo prog 301:=⟨_,func301,rfl,by decide⟩
theorem go302:IsGo prog 302:=⟨_,func302,rfl,by decide⟩
theorem go303:IsGo prog 303:=⟨_,func303,rfl,by decide⟩
theorem go314:IsGo prog 314:=⟨_,func314,rfl,by decide⟩
theorem go326:IsGo prog 326:=⟨_,func326,rfl,by decide⟩
theorem go334:IsGo prog 334:=⟨_,func334,rfl,by decide⟩
end Go.Proofs.YtocheaahlpiajaaGreatDoor

namespace Go.Proofs.YtocheaahlpiajaaGreatDoor
open Tryz
open Go Go.Sx
theorem fa34_0:Fat prog 34 0 0:=⟨_,_,_,underlying34,rfl,rfl,sz3,by decide⟩
theorem fa34_1:Fat prog 34 1 1:=⟨_,_,_,underlying34,rfl,rfl,sz32,by decide⟩
theorem fa34_2:Fat prog 34 2 2:=⟨_,_,_,underlying34,rfl,rfl,sz23,by decide⟩
theorem pl34:Pls prog 34 [(0,1),(1,1),(2,1),(3,1)]:=⟨_,underlying34,fun w=>by simp[sz3.run,sz23.run,sz32.run]⟩
theorem fa41_0:Fat prog 41 0 0:=⟨_,_,_,underlying41,rfl,rfl,sz39,by decide⟩
theorem fa41_1:Fat prog 41 1 1:=⟨_,_,_,underlying41,rfl,rfl,sz35,by decide⟩
theorem pl41:Pls prog 41 [(0,1),(1,1)]:=⟨_,underlying41,fun w=>by simp[sz35.run,sz39.run]⟩
theorem fa61_0:Fat prog 61 0 0:=⟨_,_,_,underlying61,rfl,rfl,sz59,by decide⟩
theorem fa61_1:Fat prog 61 1 1:=⟨_,_,_,underlying61,rfl,rfl,sz59,by decide⟩
theorem pl61:Pls prog 61 [(0,1),(1,1)]:=⟨_,underlying61,fun w=>by simp[sz59.run]⟩
theorem fa79_0:Fat prog 79 0 0:=⟨_,_,_,underlying79,rfl,rfl,sz3,by decide⟩
theorem fa79_1:Fat prog 79 1 1:=⟨_,_,_,underlying79,rfl,rfl,sz3,by decide⟩
theorem fa79_2:Fat prog 79 2 2:=⟨_,_,_,underlying79,rfl,rfl,sz3,by decide⟩
theorem fa79_3:Fat prog 79 3 3:=⟨_,_,_,underlying79,rfl,rfl,sz3,by decide⟩
theorem fa79_4:Fat prog 79 4 4:=⟨_,_,_,underlying79,rfl,rfl,sz3,by decide⟩
theorem pl79:Pls prog 79 [(0,1),(1,1),(2,1),(3,1),(4,1)]:=⟨_,underlying79,fun w=>by simp[sz3.run]⟩
theorem fa81_0:Fat prog 81 0 0:=⟨_,_,_,underlying81,rfl,rfl,sz3,by decide⟩
theorem fa81_1:Fat prog 81 1 1:=⟨_,_,_,underlying81,rfl,rfl,sz3,by decide⟩
theorem fa81_2:Fat prog 81 2 2:=⟨_,_,_,underlying81,rfl,rfl,sz3,by decide⟩
theorem fa81_3:Fat prog 81 3 3:=⟨_,_,_,underlying81,rfl,rfl,sz3,by decide⟩
theorem fa81_4:Fat prog 81 4 4:=⟨_,_,_,underlying81,rfl,rfl,sz79,by decide⟩
theorem pl81:Pls prog 81 [(0,1),(1,1),(2,1),(3,1),(4,5)]:=⟨_,underlying81,fun w=>by simp[sz3.run,sz79.run]⟩
theorem fa125_0:Fat prog 125 0 0:=⟨_,_,_,underlying125,rfl,rfl,sz3,by decide⟩
theorem fa125_1:Fat prog 125 1 1:=⟨_,_,_,underlying125,rfl,rfl,sz3,by decide⟩
theorem fa125_2:Fat prog 125 2 2:=⟨_,_,_,underlying125,rfl,rfl,sz3,by decide⟩
theorem fa125_3:Fat prog 125 3 3:=⟨_,_,_,underlying125,rfl,rfl,sz3,by decide⟩
theorem fa125_4:Fat prog 125 4 4:=⟨_,_,_,underlying125,rfl,rfl,sz43,by decide⟩
theorem fa125_5:Fat prog 125 5 5:=⟨_,_,_,underlying125,rfl,rfl,sz28,by decide⟩
theorem pl125:Pls prog 125 [(0,1),(1,1),(2,1),(3,1),(4,1),(5,1)]:=⟨_,underlying125,fun w=>by simp[sz3.run,sz28.run,sz43.run]⟩
theorem fa127_0:Fat prog 127 0 0:=⟨_,_,_,underlying127,rfl,rfl,sz3,by decide⟩
theorem fa127_2:Fat prog 127 2 2:=⟨_,_,_,underlying127,rfl,rfl,sz28,by decide⟩
theorem pl127:Pls prog 127 [(0,1),(1,1),(2,1)]:=⟨_,underlying127,fun w=>by simp[sz3.run,sz28.run]⟩
theorem fa161_0:Fat prog 161 0 0:=⟨_,_,_,underlying161,rfl,rfl,sz3,by decide⟩
theorem fa161_1:Fat prog 161 1 1:=⟨_,_,_,underlying161,rfl,rfl,sz3,by decide⟩
theorem fa161_2:Fat prog 161 2 2:=⟨_,_,_,underlying161,rfl,rfl,sz3,by decide⟩
theorem fa188_0:Fat prog 188 0 0:=⟨_,_,_,underlying188,rfl,rfl,sz186,by decide⟩
theorem pl188:Pls prog 188 [(0,1)]:=⟨_,underlying188,fun w=>by simp[sz186.run]⟩
theorem fa190_0:Fat prog 190 0 0:=⟨_,_,_,underlying190,rfl,rfl,sz32,by decide⟩
theorem fa190_1:Fat prog 190 1 1:=⟨_,_,_,underlying190,rfl,rfl,sz61,by decide⟩
theorem fa190_2:Fat prog 190 2 3:=⟨_,_,_,underlying190,rfl,rfl,sz3,by decide⟩
theorem pl190:Pls prog 190 [(0,1),(1,2),(3,1)]:=⟨_,underlying190,fun w=>by simp[sz3.run,sz32.run,sz61.run]⟩
theorem fa229_0:Fat prog 229 0 0:=⟨_,_,_,underlying229,rfl,rfl,sz226,by decide⟩
theorem fa229_1:Fat prog 229 1 1:=⟨_,_,_,underlying229,rfl,rfl,sz227,by decide⟩
theorem pl229:Pls prog 229 [(0,1),(1,1)]:=⟨_,underlying229,fun w=>by simp[sz226.run,sz227.run]⟩
theorem fa234_0:Fat prog 234 0 0:=⟨_,_,_,underlying234,rfl,rfl,sz28,by decide⟩
theorem fa234_1:Fat prog 234 1 1:=⟨_,_,_,underlying234,rfl,rfl,sz3,by decide⟩
theorem fa234_2:Fat prog 234 2 2:=⟨_,_,_,underlying234,rfl,rfl,sz3,by decide⟩
theorem fa234_3:Fat prog 234 3 3:=⟨_,_,_,underlying234,rfl,rfl,sz3,by decide⟩
theorem fa234_4:Fat prog 234 4 4:=⟨_,_,_,underlying234,rfl,rfl,sz130,by decide⟩
theorem fa234_5:Fat prog 234 5 5:=⟨_,_,_,underlying234,rfl,rfl,sz3,by decide⟩
theorem fa234_6:Fat prog 234 6 6:=⟨_,_,_,underlying234,rfl,rfl,sz4,by decide⟩
theorem fa234_7:Fat prog 234 7 7:=⟨_,_,_,underlying234,rfl,rfl,sz4,by decide⟩
theorem pl234:Pls prog 234 [(0,1),(1,1),(2,1),(3,1),(4,1),(5,1),(6,1),(7,1)]:=⟨_,underlying234,fun w=>by simp[sz3.run,sz4.run,sz28.run,sz130.run]⟩
theorem pl238:Pls prog 238 [(0,1),(1,1)]:=⟨_,underlying238,fun w=>by simp[sz3.run]⟩
theorem fa263_0:Fat prog 263 0 0:=⟨_,_,_,underlying263,rfl,rfl,sz3,by decide⟩
theorem fa263_1:Fat prog 263 1 1:=⟨_,_,_,underlying263,rfl,rfl,sz3,by decide⟩
theorem fa263_2:Fat prog 263 2 2:=⟨_,_,_,underlying263,rfl,rfl,sz3,by decide⟩
theorem pl263:Pls prog 263 [(0,1),(1,1),(2,1)]:=⟨_,underlying263,fun w=>by simp[sz3.run]⟩
theorem pl266:Pls prog 266 [(0,1),(1,1)]:=⟨_,underlying266,fun w=>by simp[sz3.run]⟩
end Go.Proofs.YtocheaahlpiajaaGreatDoor

namespace Go.Proofs.YtocheaahlpiajaaGreatDoor
open Tryz
open Go Go.Sx Go.Nsp
set_option maxRecDepth 20000
theorem getD_none {l:List Nat}{j:Nat}(h:l.length<=j):l.getD j 0=0:=by rw[List.getD_eq_getElem?_getD,List.getElem?_eq_none h];rfl
theorem digs_last (a:Nat)(h:0<(digs a).length):(digs a).getD ((digs a).length-1) 0≠0:=by
  have hne:digs a≠[]:=fun e=>by rw[e]at h;simp at h
  have:=digs_top a hne
  rw[List.getLast_eq_getElem]at this
  simpa[List.getD,show(digs a).length-1<(digs a).length by omega]using this
theorem dig_lt (a j:Nat):(digs a).getD j 0<4294967296:=getD_lt (digs_lt a) j
theorem val_two (n:Nat)(h:n<18446744073709551616):val [n%4294967296,n/4294967296%4294967296]=n:=by
  simp only[val,B]
  omega
theorem two_lt (n:Nat):∀d∈[n%4294967296,n/4294967296%4294967296],d<B:=fun d hd=>by
  have e:B=4294967296:=rfl
  simp only[List.mem_cons,List.not_mem_nil,or_false]at hd
  omega
theorem rep_get (n j:Nat):(List.replicate n 0).getD j 0=0:=by
  rw[List.getD_eq_getElem?_getD,List.getElem?_replicate]
  split<;>rfl
theorem rep_lt (n:Nat):∀d∈List.replicate n 0,d<B:=fun d hd=>by rw[(List.mem_replicate.1 hd).2];decide
theorem nright_ok {A:Option Addr}{n c a:Nat}(w:World)(hV:Vec w dv 1 A n (digs a))(hn:n<=1000000):Calls prog 108 #[.slice A n c] w fun r w'=>r= .returned (.bool true)/\Le w w':=by
 have hl:=hV.1
 refine enter func108 rfl rfl ?_
 have b:=Le.refl w
 refine Sr (Wn 1 rfl (Nx (Sr (Wn 1 rfl (Wr (.len underlying59 rfl) rfl (Wn 1 rfl ?_))))))
 by_cases d:((n:Nat):Int)=0
 ·refine Dt d rfl rfl (Wn 9 rfl (Nx (Rt (E.retG1 rfl rfl ?_))))
  exact⟨rfl,b⟩
 refine Df d rfl rfl (Wn 2 rfl (Wg (.len underlying59 rfl) rfl (Wg (Any.rd (.sub rfl rfl (by omega)) _) rfl (Wg (Any.rd (.idxS ((n-1)) underlying59 sz273 rfl rfl (hV.isSome dv_row (by omega)) (by omega) (by omega)) _) rfl (Wg (.vone (v:= .int .u32 (((((digs a).getD (n-1) 0):Nat):Int))) na273 rfl (hV.le b) dv_row (getS (digs a) 0 (by first|omega|(simp only[List.length_cons,List.length_nil];omega))) rfl) rfl ?_)))))
 refine Wg (Any.rd (.dec (.neq rfl rfl) (dT (by have h:=digs_last a (by omega);rw[hl]at h;omega))) _) rfl ?_
 refine Wn 2 rfl (Nx (Rt (E.retG1 rfl rfl ?_)))
 exact⟨rfl,b⟩

theorem ntaken_ok {A:Option Addr}{n c a:Nat}(w:World)(hV:Vec w dv 1 A n (digs a))(hn:n<=1000000):Calls prog 211 #[.slice A n c] w fun r w'=>r= .returned (.slice A n c)/\Le w w':=by
 have hl:=hV.1
 refine enter func211 rfl rfl ?_
 have b:=Le.refl w
 refine Sr (Wn 1 rfl (Nx (Sq (Sr (Wn 1 rfl (W.cl go108 rfl rfl (nright_ok w (hV.le b) (by omega)) ?_))))))
 rintro _ e ⟨rfl,d⟩
 refine Wn 1 rfl (Nx (WC.condF rfl (Sn (Sr (Wn 2 rfl (Nx (Rt (E.retG1 rfl rfl ?_))))))))
 exact⟨rfl,(b.trans d)⟩

theorem low_ok {base:Nat}{A:Option Addr}{n c:Nat}{xs:List Nat}(w:World)(hO:OVec w base 273 dv 1 A n c xs)(hb:∀d∈xs,d<B)(hn:n<=1000000):Calls prog 210 #[.slice A n c] w fun r w'=>r= .returned (.slice A (digs (val xs)).length c)/\OVec w' base 273 dv 1 A (digs (val xs)).length c (digs (val xs))/\Le w w':=by
 have hl:=hO.1
 refine enter func210 rfl rfl (Sr (Wn 1 rfl (Nx (Sr (Wn 1 rfl (Wr (.len underlying59 rfl) rfl (Wn 1 rfl (Nx (Sq (WC.block (WC.loop (ι:=Nat) (fun k=>[(0,.slice A n c),(3,.int .i64 (((k:Nat):Int)))]) (fun k f=>(k<=n)/\(∀j,k<=j->xs.getD j 0=0)/\Le w f/\w.heap.size<=f.heap.size/\OVec f base 273 dv 1 A n c xs) (fun k=>k) n ?_ ?_ ?_)))))))))))
 ·exact .of rfl
 ·exact⟨Nat.le_refl _,(fun j hj=>getD_none (by omega)),(Le.refl w),Nat.le_refl _,hO⟩
 rintro k f ⟨hk,hz,i,u,b⟩
 refine Sq (Sr (Wn 2 rfl ?_))
 by_cases m:0<((k:Nat):Int)
 ·refine Dt m rfl rfl (Wn 2 rfl (Wg (Any.rd (.sub rfl rfl (by omega)) _) rfl (Wg (Any.rd (.idxS ((k-1)) underlying59 sz273 rfl rfl (hO.vec.isSome dv_row (by omega)) (by omega) (by omega)) _) rfl (Wg (.vone (v:= .int .u32 ((((xs.getD (k-1) 0):Nat):Int))) na273 rfl b.vec dv_row (getS xs 0 (by omega)) rfl) rfl (Wn 2 rfl (Nx ?_))))))
  by_cases o:(((xs.getD (k-1) 0):Nat):Int)=0
  ·refine Cy rfl (dT o) (Sn (WC.block (WC.region (Wn 1 rfl (Wa (.sub rfl rfl (by omega)) rfl (Wn 1 rfl (W.nil (E.blkN (E.again (k-1) (.cons rfl (.cons' rfl (int_eq (by omega)) (.nil _))) ?_ ?_)))))))))
   ·exact⟨by omega,(fun j hj=>by rcases Nat.lt_or_ge j k with h|h;(rw[show j=k-1 by omega];omega);exact hz j h),i,by have:=u;omega,b⟩
   show k-1<k;omega
  refine Cn rfl (dF o) (WC.exit (E.thenX (E.thenX (E.blkH (E.thenN (Sr (Wn 2 rfl ?_)))))))
  have y:=b.cap
  have s:=b.front k (by omega) dv_row
  have z:=s.1
  refine Wa (.cutH (k) underlying59 sz273 rfl rfl (rfl) (by omega)) rfl (Wn 1 rfl (Nx (Rt (E.retG1 rfl rfl ?_))))
  have e:xs.take k=digs (val xs):=digs_trim hb (by omega) hz (fun x=>by first|(exfalso;omega)|omega);have hq:=s;rw[e]at hq;have l:=hq.1;subst l;exact⟨rfl,hq,i⟩
 refine Df m rfl rfl (Wn 7 rfl (Nx (WC.condF rfl (WC.exit (E.thenX (E.thenX (E.blkH (E.thenN (Sr (Wn 2 rfl ?_))))))))))
 have C:=b.cap
 have t:=b.front k (by omega) dv_row
 have D:=t.1
 refine Wa (.cutH (k) underlying59 sz273 rfl rfl (rfl) (by omega)) rfl (Wn 1 rfl (Nx (Rt (E.retG1 rfl rfl ?_))))
 have e:xs.take k=digs (val xs):=digs_trim hb (by omega) hz (fun x=>by first|(exfalso;omega)|omega);have hq:=t;rw[e]at hq;have l:=hq.1;subst l;exact⟨rfl,hq,i⟩

theorem nof_ok (a:Nat)(ha:a<18446744073709551616)(w:World):Calls prog 107 #[.int .u64 (((a:Nat):Int))] w fun r w'=>∃A c,r= .returned (.slice A (digs a).length c)/\OVec w' w.heap.size 273 dv 1 A (digs a).length c (digs a)/\Le w w':=by
 refine enter func107 rfl rfl ?_
 have e:=Le.refl w
 refine Sr (Wn 1 rfl (Nx (Sr (Wn 1 rfl (Wr (.toU32 a (isS underlying27) underlying273 rfl rfl) rfl (Wn 1 rfl (Wa (.shrE a 32 (a/4294967296) rfl (by first|rfl|omega) rfl rfl (by decide) rfl) rfl ?_)))))))
 refine Wr (.toU32 (a/4294967296) (isS underlying27) underlying273 rfl rfl) rfl (W.ef rfl rfl rfl (Ef.buildSliceV (len:=2) [_,_] underlying59 el273 rfl (by simp[Value.cells]) rfl (by decide) (by decide) ?_))
 intro f b i d j
 have d:Blk b f 273 (([(a%4294967296),((a/4294967296)%4294967296)]).map dv).flatten.toArray:=d
 have k:OVec b w.heap.size 273 dv 1 (some ⟨f,0,none⟩) 2 2 ([(a%4294967296),((a/4294967296)%4294967296)]):=d.ovec i dv_row rfl rfl (by decide)
 refine W.cl go210 rfl rfl ((by have h:=low_ok b k (two_lt a) (by omega);rw[val_two a ha]at h;exact h)) ?_
 rintro _ n ⟨rfl,l,m⟩
 refine Wn 1 rfl (Nx (Rt (E.retG1 rfl rfl ?_)))
 exact⟨_,_,rfl,(l.mono e.size),((e.trans j).trans m)⟩

theorem nmul_ok {A A2:Option Addr}{n c m c2 a b:Nat}(w:World)(hV:Vec w dv 1 A n (digs a))(hW:Vec w dv 1 A2 m (digs b))(hn:n<=100000)(hm:m<=100000):Calls prog 182 #[.slice A n c,.slice A2 m c2] w fun r w'=>∃A c,r= .returned (.slice A (digs (a*b)).length c)/\OVec w' w.heap.size 273 dv 1 A (digs (a*b)).length c (digs (a*b))/\Le w w':=by
 have hl:=hV.1
 have ah:=hW.1
 have hB:B=4294967296:=rfl
 refine enter func182 rfl rfl ?_
 have J:=Le.refl w
 refine Sr (Wn 1 rfl (Nx (Sr (Wn 1 rfl (W.cl go211 rfl rfl (ntaken_ok w (hV.le J) (by omega)) ?_)))))
 rintro _ X ⟨rfl,K⟩
 have L:=J.trans K
 refine Wn 1 rfl (W.cl go211 rfl rfl (ntaken_ok X (hW.le L) (by omega)) ?_)
 rintro _ u ⟨rfl,N⟩
 have x:=L.trans N
 refine Wn 2 rfl (Nx (Sr (Wn 1 rfl (Wr (.len underlying59 rfl) rfl (Wn 1 rfl (Wr (.len underlying59 rfl) rfl (Wa (.add rfl rfl (by omega)) rfl (W.ef rfl rfl rfl ?_))))))))
 refine Ef.vmake 0 (n+m) underlying59 el273 dv_row rfl rfl (by omega) rfl (by omega) (by omega) (by unfold maxLen;omega) ?_
 intro y Y ai z C
 have Z:=x.trans C
 refine Wn 1 rfl (Nx (Sq (Sr (Wn 1 rfl (Wr (.len underlying59 rfl) rfl (Wn 1 rfl (Nx (WC.block (WC.loop (ι:=Nat×(List Nat)) (fun⟨i,out⟩=>[(1,.slice A2 m c2),(5,.slice (some ⟨y,0,none⟩) (n+m) (n+m)),(22,.slice A n c),(23,.int .i64 (((n:Nat):Int))),(24,.int .i64 (((i:Nat):Int)))]) (fun⟨i,out⟩ f=>(i<=n)/\(out.length=n+m)/\(∀d∈out,d<B)/\(∀j,i+m<=j->out.getD j 0=0)/\(val out=val ((digs a).take i)*b)/\Le w f/\Y.heap.size<=f.heap.size/\OVec f u.heap.size 273 dv 1 (some ⟨y,0,none⟩) (n+m) (n+m) out) (fun⟨i,out⟩=>n-i) (0,(List.replicate (n+m) 0)) ?_ ?_ ?_)))))))))
 ·exact .of rfl
 ·exact⟨Nat.zero_le _,List.length_replicate,rep_lt _,(fun j hj=>rep_get _ _),by rw[val_replicate,List.take_zero];simp[val],Z,Nat.le_refl _,z⟩
 rintro⟨i,out⟩ f ⟨hi,hol,hob,hoz,hov,D,aa,O⟩
 have ab:u.heap.size<=f.heap.size:=by have:=C.size;omega
 refine Sr (Wn 1 rfl (Nx (Sq ?_)))
 by_cases P:((i:Nat):Int)<((n:Nat):Int)
 ·refine Cy rfl (dT P) (Sn (Sq (WC.block (Sr (Wn 1 rfl (Wa (.idxS (i) underlying59 sz273 rfl rfl (hV.isSome dv_row (by omega)) (rfl) (by omega)) rfl (Wr (.vone (v:= .int .u32 (((((digs a).getD i 0):Nat):Int))) na273 rfl (hV.le D) dv_row (getS (digs a) 0 (by first|omega|(simp only[List.length_cons,List.length_nil];omega))) rfl) rfl ?_)))))))
  refine Wn 2 rfl (Nx (Sr (Wn 1 rfl (Nx (Sq (Sr (Wn 1 rfl (Wr (.len underlying59 rfl) rfl (Wn 1 rfl (Nx (WC.block ?_)))))))))))
  refine WC.loop (ι:=Nat×Nat×(List Nat)) (fun⟨k,cy,e⟩=>[(1,.slice A2 m c2),(5,.slice (some ⟨y,0,none⟩) (n+m) (n+m)),(6,.int .i64 (((i:Nat):Int))),(7,.int .u32 (((((digs a).getD i 0):Nat):Int))),(8,.int .u64 (((cy:Nat):Int))),(22,.slice A n c),(23,.int .i64 (((n:Nat):Int))),(24,.int .i64 (((i:Nat):Int))),(29,.slice A2 m c2),(30,.int .i64 (((m:Nat):Int))),(31,.int .i64 (((k:Nat):Int)))]) (fun⟨k,cy,e⟩ l=>(k<=m)/\(e.length=n+m)/\(∀d∈e,d<B)/\(∀j,i+m<=j->e.getD j 0=0)/\(val e+B^(i+k)*cy=val ((digs a).take i)*b+B^i*(((digs a).getD i 0)*val ((digs b).take k)))/\(cy<B)/\Le w l/\f.heap.size<=l.heap.size/\OVec l u.heap.size 273 dv 1 (some ⟨y,0,none⟩) (n+m) (n+m) e) (fun⟨k,cy,e⟩=>m-k) (0,0,out) ?_ ?_ ?_
  ·exact .of rfl
  ·exact⟨Nat.zero_le _,hol,hob,hoz,by simp[val,hov],by decide,D,Nat.le_refl _,O⟩
  rintro⟨k,cy,e⟩ l ⟨hk,Q,F,H,R,hcy,I,S,s⟩
  have aj:u.heap.size<=l.heap.size:=Nat.le_trans ab (by omega)
  refine Sr (Wn 1 rfl (Nx (Sq ?_)))
  by_cases T:((k:Nat):Int)<((m:Nat):Int)
  ·refine Cy rfl (dT T) ?_
   have hx:=dig_lt a i
   have hy:=dig_lt b k
   have ho:=getD_lt F (i+k)
   have hr:=mul_room hx hy ho hcy
   have hBB:B*B=18446744073709551616:=by decide
   refine Sn (Sq (WC.block (Sr (Wn 1 rfl (Wa (.idxS (k) underlying59 sz273 rfl rfl (hW.isSome dv_row (by omega)) (rfl) (by omega)) rfl (Wr (.vone (v:= .int .u32 (((((digs b).getD k 0):Nat):Int))) na273 rfl (hW.le I) dv_row (getS (digs b) 0 (by first|omega|(simp only[List.length_cons,List.length_nil];omega))) rfl) rfl ?_))))))
   refine Wn 2 rfl (Nx (Sr (Wn 1 rfl (Wr (.idI (isS underlying273) underlying27 rfl (IntWalk.u64_in _ (by omega))) rfl (Wn 1 rfl (Wr (.idI (isS underlying273) underlying27 rfl (IntWalk.u64_in _ (by omega))) rfl (Wa (.mulN ((digs a).getD i 0) ((digs b).getD k 0) (((digs a).getD i 0)*((digs b).getD k 0)) rfl rfl rfl rfl (by omega)) rfl (Wn 3 rfl ?_))))))))
   refine Wa (.add rfl rfl (by omega)) rfl (Wa (.idxS ((i+k)) underlying59 sz273 rfl rfl (z.vec.isSome dv_row (by omega)) (by omega) (by omega)) rfl (Wr (.vone (v:= .int .u32 ((((e.getD (i+k) 0):Nat):Int))) na273 rfl s.vec dv_row (getS e 0 (by omega)) rfl) rfl (Wr (.idI (isS underlying273) underlying27 rfl (IntWalk.u64_in _ (by omega))) rfl (Wa (.addN (((digs a).getD i 0)*((digs b).getD k 0)) (e.getD (i+k) 0) ((((digs a).getD i 0)*((digs b).getD k 0))+(e.getD (i+k) 0)) rfl rfl rfl rfl (by omega)) rfl (Wn 1 rfl ?_)))))
   refine Wa (.addN ((((digs a).getD i 0)*((digs b).getD k 0))+(e.getD (i+k) 0)) cy (((((digs a).getD i 0)*((digs b).getD k 0))+(e.getD (i+k) 0))+cy) rfl rfl rfl rfl (by omega)) rfl (Wn 1 rfl (Nx (WC.region (Wn 3 rfl (Wa (.add rfl rfl (by omega)) rfl (Wn 1 rfl (Wr (.toU32 (((((digs a).getD i 0)*((digs b).getD k 0))+(e.getD (i+k) 0))+cy) (isS underlying27) underlying273 rfl rfl) rfl (Wn 1 rfl ?_))))))))
   refine Wa (.shrE (((((digs a).getD i 0)*((digs b).getD k 0))+(e.getD (i+k) 0))+cy) 32 ((((((digs a).getD i 0)*((digs b).getD k 0))+(e.getD (i+k) 0))+cy)/4294967296) rfl (by first|rfl|omega) rfl rfl (by decide) rfl) rfl ?_
   refine Wa (.idxS ((i+k)) underlying59 sz273 rfl rfl (z.vec.isSome dv_row (by omega)) (by omega) (by omega)) rfl (W.ef0 rfl rfl (Ef.vset (j:=(i+k)) (o:=0) ((((((digs a).getD i 0)*((digs b).getD k 0))+(e.getD (i+k) 0))+cy)%4294967296) sz273 rfl (by omega) rfl s dv_row (getS e 0 (by omega)) (by decide) rfl rfl fun ak ac U=>(Wn 1 rfl (W.nil (E.blkN (E.thenN (WC.region (Wa (.add rfl rfl (by omega)) rfl (Wn 1 rfl (W.nil ?_))))))))))
   refine E.again (k+1,((((((digs a).getD i 0)*((digs b).getD k 0))+(e.getD (i+k) 0))+cy)/4294967296),(e.set (i+k) ((((((digs a).getD i 0)*((digs b).getD k 0))+(e.getD (i+k) 0))+cy)%4294967296))) (.of rfl) ?_ ?_
   ·exact⟨by omega,by simp[Q],set_lt F (Nat.mod_lt _ (by decide)),(fun j hj=>by rw[List.getD_eq_getElem?_getD,List.getElem?_set_ne (by omega),<-List.getD_eq_getElem?_getD];exact H j (by omega)),by rw[val_take_succ (by omega)];exact mul_step (by omega) R,by omega,(I.then_ U (fun q hq=>Nat.le_trans x.size (s.row hq).1)),by have:=S;have:=U.size;omega,ac⟩
   first|omega|(simp only[];omega)
  refine Cn rfl (dF T) (WC.exit (E.thenX (E.thenX (E.blkH (E.thenN (WC.region (Wn 3 rfl (Wr (.len underlying59 rfl) rfl (Wa (.add rfl rfl (by omega)) rfl (Wn 1 rfl (Wr (.toU32 cy (isS underlying27) underlying273 rfl rfl) rfl ?_)))))))))))
  refine Wa (.idxS ((i+m)) underlying59 sz273 rfl rfl (z.vec.isSome dv_row (by omega)) (by omega) (by omega)) rfl (W.ef0 rfl rfl (Ef.vset (j:=(i+m)) (o:=0) (cy%4294967296) sz273 rfl (by omega) rfl s dv_row (getS e 0 (by omega)) (by decide) rfl rfl fun al ad V=>?_))
  have L5:=I.then_ V (fun q hq=>Nat.le_trans x.size (s.row hq).1)
  refine W.nil (E.blkN (E.thenN (WC.region (Wa (.add rfl rfl (by omega)) rfl (Wn 1 rfl (W.nil (E.again (i+1,(e.set (i+m) (cy%4294967296))) (.of rfl) ?_ ?_)))))))
  ·exact⟨by omega,by simp[Q],set_lt F (by omega),(fun j hj=>by rw[List.getD_eq_getElem?_getD,List.getElem?_set_ne (by omega),<-List.getD_eq_getElem?_getD];exact H j (by omega)),by rw[Nat.mod_eq_of_lt (by omega),val_take_succ (by omega)];exact mul_row (b':=0) (by omega) (H _ (Nat.le_refl _)) (by have t:=R;rw[show k=m by omega,List.take_of_length_le (show(digs b).length<=m by omega),val_digs]at t;exact t),L5,by have:=aa;have:=V.size;have:=S;have:=K.size;have:=N.size;have:=C.size;omega,ad⟩
  first|omega|(simp only[];omega)
 refine Cn rfl (dF P) (WC.exit (E.thenX (E.thenX (E.blkH (E.thenN (Sr (Wn 1 rfl (W.cl go210 rfl rfl ((by have h:=low_ok f O hob (by omega);rw[(by have t:=hov;rw[show i=n by omega,List.take_of_length_le (by omega),val_digs]at t;exact t:val out=a*b)]at h;exact h)) ?_))))))))
 rintro _ am ⟨rfl,ae,af⟩
 refine Wn 1 rfl (Nx (Rt (E.retG1 rfl rfl ?_)))
 exact⟨_,_,rfl,(ae.mono x.size),(D.trans af)⟩

theorem greatest_ok {F:Nat}{caps:Array Value}(pr:Nat->Bool)(hgo:IsGo prog F)(w:World)(hf:∀(d:Nat) (w1:World),0<d->d<4294967296->Le w w1->Calls prog F (#[.int .u32 ((d:Nat):Int)]++caps) w1 fun r w2=>r= .returned (.bool (pr d))/\Le w1 w2)(h0:pr 0=true):Calls prog 275 #[.func (.func F) #[] caps] w fun r w'=>∃D,r= .returned (.int .u32 ((D:Nat):Int))/\(D<4294967296/\pr D=true/\(D+1=4294967296\/pr (D+1)=false))/\Le w w':=by
 refine enter func275 rfl rfl (Sr (Wn 1 rfl (Nx (Sr (Wn 1 rfl (Nx (Sq (Sr (Wn 1 rfl (Nx (WC.block (WC.loop (ι:=Nat×Nat) (fun⟨i,d⟩=>[(0,.func (.func F) #[] caps),(3,.int .u32 (((d:Nat):Int))),(6,.int .i64 (((i:Nat):Int)))]) (fun⟨i,d⟩ b=>(Gr pr i d)/\Le w b/\w.heap.size<=b.heap.size) (fun⟨i,d⟩=>32-i) (0,0) ?_ ?_ ?_))))))))))))
 ·exact .of rfl
 ·exact⟨Gr.zero h0,(Le.refl w),Nat.le_refl _⟩
 rintro⟨i,d⟩ b ⟨hg,c,f⟩
 refine Sr (Wn 1 rfl (Nx (Sq ?_)))
 by_cases h:((i:Nat):Int)<32
 ·refine Cy rfl (dT h) ?_
  have hlt:=hg.lt (by omega)
  refine Sn (Sq (WC.block (Sr (Wn 2 rfl (Nx (Sr (Wn 1 rfl (Wa (.sub rfl rfl (by omega)) rfl (Wa (.bit32 (31-i) (2^(31-i)) rfl rfl (by omega) (by omega) rfl) rfl (Wn 1 rfl (Nx (Sr (Wn 3 rfl (Wa (.or32N d (2^(31-i)) (d+2^(31-i)) rfl rfl rfl rfl hlt.1 hlt.2.1 (or_bit hlt.2.2.2)) rfl (W.ef rfl rfl rfl ?_)))))))))))))))
  refine Ef.callC hgo rfl rfl rfl (hf (d+2^(31-i)) _ (Nat.add_pos_right _ (Nat.two_pow_pos _)) hlt.2.2.1 c) ?_
  rintro _ l ⟨rfl,e⟩
  refine⟨_,rfl,?_⟩
  have j:=c.trans e
  refine Nx ?_
  by_cases k:(pr (d+2^(31-i)))=true
  ·refine Cy rfl (k) (WC.region (Wn 2 rfl (Wa (.or32N d (2^(31-i)) (d+2^(31-i)) rfl rfl rfl rfl hlt.1 hlt.2.1 (or_bit hlt.2.2.2)) rfl (Wn 1 rfl (W.nil (E.blkN (E.thenN (WC.region (Wa (.add rfl rfl (by omega)) rfl (Wn 1 rfl (W.nil ?_)))))))))))
   refine E.again (i+1,(d+2^(31-i))) (.of rfl) ?_ ?_
   ·exact⟨hg.yesB (by omega) (by first|assumption|simpa using(by assumption:¬pr (d+2^(31-i))=true)),j,by have:=f;have:=e.size;omega⟩
   first|omega|(simp only[];omega)
  refine Cn rfl ((Bool.eq_false_iff.2 k)) (WC.skip (E.blkN (E.thenN (WC.region (Wa (.add rfl rfl (by omega)) rfl (Wn 1 rfl (W.nil (E.again (i+1,d) (.of rfl) ?_ ?_))))))))
  ·exact⟨hg.noB (by omega) (by first|assumption|simpa using(by assumption:¬pr (d+2^(31-i))=true)),j,by have:=f;have:=e.size;omega⟩
  first|omega|(simp only[];omega)
 refine Cn rfl (dF h) (WC.exit (E.thenX (E.thenX (E.blkH (E.thenN (Sr (Wn 2 rfl (Nx (Rt (E.retG1 rfl rfl ?_))))))))))
 exact⟨d,rfl,hg.done (by omega),c⟩
end Go.Proofs.YtocheaahlpiajaaGreatDoor

namespace Go.Proofs.YtocheaahlpiajaaGreatDoor
open Tryz
open Go Go.Sx Go.Hsp
set_option maxRecDepth 20000
abbrev zw8:Array Value:=#[.int .u32 0,.int .u32 0,.int .u32 0,.int .u32 0,.int .u32 0,.int .u32 0,.int .u32 0,.int .u32 0]
theorem one8 (a b c d e f g h:BitVec 32):∀v∈[u32v a,u32v b,u32v c,u32v d,u32v e,u32v f,u32v g,u32v h],v.oneCell'=true:=fun v hv=>by
  simp at hv;rcases hv with rfl|rfl|rfl|rfl|rfl|rfl|rfl|rfl<;>rfl
theorem rot_ok (x:BitVec 32)(k:Nat)(w:World)(hk:1<=k/\k<=31):Calls prog 248 #[u32v x,.int .i64 (-(k:Int))] w fun e w'=>e= .returned (u32v (rot x k))/\Le w w':=by
 have e:(18446744073709551616-k)&&&31=32-k:=by
  have h:=Nat.and_two_pow_sub_one_eq_mod (18446744073709551616-k) 5
  have b:(2^5-1:Nat)=31:=by decide
  rw[b]at h;rw[h];omega
 refine enter func248 rfl rfl (Sr (Wn 1 rfl (Nx (Sr (Wn 1 rfl (Wr (.convEq (i':=((18446744073709551616-k:Nat):Int)) (isS underlying3) underlying287 rfl (by rw[wrap_u64];omega)) rfl ?_))))))
 refine Wa (.andN (18446744073709551616-k) 31 rfl rfl rfl rfl (by omega) (by decide)) rfl (Wn 1 rfl (Nx (Sr (Wn 2 rfl (Wa (.shl32 (32-k) rfl rfl (by rw[e]) (by omega)) rfl ?_)))))
 refine Wn 2 rfl (Wa (.subU rfl rfl (by rw[e];omega)) rfl ?_)
 refine Wa (.shr32 k rfl rfl (by rw[e];omega) (by omega)) rfl ?_
 refine Wa (.or32 rfl rfl) rfl (Wn 1 rfl (Nx (Rt (E.ret1 rfl rfl ?_))))
 exact⟨rfl,(Le.refl w)⟩

theorem binary_ok {A:Option Addr}{n c:Nat}{xs:List Byte}(w:World)(hS:Sb w A n xs)(hn:4<=n):Calls prog 303 #[.slice A n c] w fun e w'=>e= .returned (u32v (be32 xs))/\Le w w':=by
 have hl:=hS.len
 refine enter func303 rfl rfl (WC.sr (W.run 1 rfl (W.nx (WC.seq (WC.draw [0,1,2,3,4,5,6,7,8,9,10,11,12,13,14,15,16,17,18,19,20,21,22] mixed (by kernel_rfl) fun f d=>?_)))))
 have b:=(Le.refl w).trans d
 refine G.run 1 rfl (Ga rfl (.idxS1 (0) underlying26 sz5 rfl rfl (hS.isSome (by omega)) (rfl) (by omega)) (Gd rfl (.loadS na5 rfl (hS.le b) (getb xs (by omega))) (Gd rfl (.u8to32 (isS underlying5) underlying273 rfl) (Ga rfl (.shl32 24 rfl rfl rfl (by decide)) (G.run 1 rfl ?_)))))
 refine Ga rfl (.idxS1 (1) underlying26 sz5 rfl rfl (hS.isSome (by omega)) (rfl) (by omega)) (Gd rfl (.loadS na5 rfl (hS.le b) (getb xs (by omega))) (Gd rfl (.u8to32 (isS underlying5) underlying273 rfl) (Ga rfl (.shl32 16 rfl rfl rfl (by decide)) (Ga rfl (.or32 rfl rfl) (G.run 1 rfl ?_)))))
 refine Ga rfl (.idxS1 (2) underlying26 sz5 rfl rfl (hS.isSome (by omega)) (rfl) (by omega)) (Gd rfl (.loadS na5 rfl (hS.le b) (getb xs (by omega))) (Gd rfl (.u8to32 (isS underlying5) underlying273 rfl) (Ga rfl (.shl32 8 rfl rfl rfl (by decide)) (Ga rfl (.or32 rfl rfl) (G.run 1 rfl ?_)))))
 refine Ga rfl (.idxS1 (3) underlying26 sz5 rfl rfl (hS.isSome (by omega)) (rfl) (by omega)) (Gd rfl (.loadS na5 rfl (hS.le b) (getb xs (by omega))) (Gd rfl (.u8to32 (isS underlying5) underlying273 rfl) (Ga rfl (.or32 rfl rfl) (G.run 1 rfl (G.nil (E.thenN (WC.ret (E.ret1 rfl rfl ?_))))))))
 exact⟨rfl,b⟩

theorem schedule_ok {A:Option Addr}{n c:Nat}{b:List Byte}(w:World)(hS:Sb w A n b)(hn:n=64)(hc:n<=c):Calls prog 246 #[.slice A n c] w fun e w'=>e= .returned (.agg ((sched b).map u32v).toArray)/\Le w w':=by
 refine enter func246 rfl rfl ?_
 have x:=Le.refl w
 refine Sr (W.ef rfl rfl rfl (Ef.allocA z324 fun h ah i y z=>?_))
 have C:=x.trans z
 refine Nx (Sq (Sr (Wn 1 rfl (Nx (WC.block (WC.loop (ι:=Nat) (fun k=>[(0,.slice A n c),(2,.pointer (some ⟨h,0,none⟩)),(8,.int .i64 (k:Int))]) (fun k wl=>k<=64/\Le w wl/\Blk wl h 324 (((schedTo b k)++List.replicate (64-k) 0#32).map u32v).toArray) (fun k=>64-k) 0 ?_ ?_ ?_))))))
 ·exact .of rfl
 ·exact⟨by omega,C,y.cast rfl⟩
 rintro k wl ⟨hk,Ll,bl⟩
 have hsl:=schedTo_length b k
 refine Sr (Wn 1 rfl (Nx (Sq (WC.cond rfl (fun D=>?_) (fun D=>?_)))))
 ·refine Sn (Sq (WC.block (Sr (Wn 2 rfl (Nx (Sq (Sr (Wn 2 rfl (Nx (WC.cond rfl (fun d=>?_) (fun d=>?_)))))))))))
  ·have d:k<16:=by omega
   refine Sr (Wn 3 rfl (Wa (.mul rfl rfl (by omega)) rfl (Wa (.cutL (4*k) underlying26 sz5 rfl rfl (by omega) (by omega) (by omega)) rfl (W.cl go303 rfl rfl (binary_ok wl ((hS.le Ll).cutL c (4*k) (by omega) hc) (by omega)) ?_))))
   rintro _ ai ⟨rfl,l⟩
   have F:=Ll.trans l
   refine Wa (.idxA1 (k) underlying324 sz273 rfl rfl (rfl) (by omega)) rfl (W.ef0 rfl rfl (Ef.store sz273 rfl rfl (bl.le l) (by simp;omega) (rfl) ?_))
   intro H I J
   have K:Le w H:=F.then_ J (fun q hq=>by cases hq;exact i)
   refine Nx (WC.exit (E.thenX (E.blkH (E.thenN (WC.region (Wa (.add rfl rfl (by omega)) rfl (Wn 1 rfl (W.nil (E.again (k+1) (.of rfl) ?_ ?_)))))))))
   ·exact⟨by omega,K,I.cast (by rw[fill_set u32v (schedTo b k) 0#32 _ 64 k hsl (by omega)];simp[schedTo,d])⟩
   first|omega|(simp only[];omega)
  have d:¬k<16:=by omega
  refine Sn (Sq (WC.draw [0,1,2,3,4,5,6,7,8,9] mixed (by kernel_rfl) fun L f=>?_))
  have N:=Ll.trans f
  refine Gn 1 rfl (Ga rfl (.sub rfl rfl (by omega)) (Ga rfl (.idxA1 (k-15) underlying324 sz273 rfl rfl (by omega) (by omega)) (Gd rfl (.loadB na273 rfl (bl.le f) (getwF _ _ _ (by omega))) (Gn 1 rfl (Ga rfl (.sub rfl rfl (by omega)) ?_)))))
  refine Ga rfl (.idxA1 (k-2) underlying324 sz273 rfl rfl (by omega) (by omega)) (Gd rfl (.loadB na273 rfl (bl.le f) (getwF _ _ _ (by omega))) (Gn 2 rfl (G.nil (E.thenN (Sr (Wn 1 rfl (W.cl go248 rfl rfl (rot_ok _ 7 L (by omega)) ?_)))))))
  rintro _ O ⟨rfl,m⟩
  have P:=N.trans m
  refine Wn 1 rfl (W.cl go248 rfl rfl (rot_ok _ 18 O (by omega)) ?_)
  rintro _ Q ⟨rfl,o⟩
  have R:=P.trans o
  refine Wa (.xor32 rfl rfl) rfl (Wn 1 rfl (Wa (.shr32 3 rfl rfl rfl (by decide)) rfl (Wa (.xor32 rfl rfl) rfl (Wn 1 rfl (Nx (Sr (Wn 1 rfl (W.cl go248 rfl rfl (rot_ok _ 17 Q (by omega)) ?_))))))))
  rintro _ S ⟨rfl,s⟩
  have T:=R.trans s
  refine Wn 1 rfl (W.cl go248 rfl rfl (rot_ok _ 19 S (by omega)) ?_)
  rintro _ aj ⟨rfl,t⟩
  have U:=T.trans t
  refine Wa (.xor32 rfl rfl) rfl (Wn 1 rfl (Wa (.shr32 10 rfl rfl rfl (by decide)) rfl (Wa (.xor32 rfl rfl) rfl (Wn 1 rfl (Nx (WC.draw [0,1,2,3,4,5,6,7,8,9,10,11,12,13,14,15] mixed (by kernel_rfl) ?_))))))
  intro w9 u
  have V:=U.trans u
  have j:=bl.le (f.trans (m.trans (o.trans (s.trans (t.trans u)))))
  refine Gn 2 rfl (Ga rfl (.sub rfl rfl (by omega)) (Ga rfl (.idxA1 (k-16) underlying324 sz273 rfl rfl (by omega) (by omega)) (Gd rfl (.loadB na273 rfl (j) (getwF _ _ _ (by omega))) (Gn 1 rfl (Ga rfl (.add32 rfl rfl) ?_)))))
  refine Gn 1 rfl (Ga rfl (.sub rfl rfl (by omega)) (Ga rfl (.idxA1 (k-7) underlying324 sz273 rfl rfl (by omega) (by omega)) (Gd rfl (.loadB na273 rfl (j) (getwF _ _ _ (by omega))) (Ga rfl (.add32 rfl rfl) (Gn 1 rfl ?_)))))
  refine Ga rfl (.add32 rfl rfl) (Ga rfl (.idxA1 (k) underlying324 sz273 rfl rfl (rfl) (by omega)) (G.ef0 rfl rfl rfl rfl (Ef.store sz273 rfl rfl (j) (by simp;omega) (rfl) ?_)))
  intro X Y Z
  have aa:Le w X:=V.then_ Z (fun q hq=>by cases hq;exact i)
  refine noT (by kernel_rfl) (G.nil (E.blkN (E.thenN (WC.region (Wa (.add rfl rfl (by omega)) rfl (Wn 1 rfl (W.nil (E.again (k+1) (.of rfl) ?_ ?_))))))))
  ·exact⟨by omega,aa,Y.cast (by rw[fill_set u32v (schedTo b k) 0#32 _ 64 k hsl (by omega)];simp[schedTo,d,nextWord])⟩
  first|omega|(simp only[];omega)
 have ab:k=64:=by omega
 subst ab
 have bl:Blk wl h 324 ((sched b).map u32v).toArray:=bl.cast (by simp[sched])
 have hsl:(sched b).length=64:=schedTo_length b 64
 refine WC.exit (E.thenX (E.thenX (E.blkH (E.thenN (Sr (Wr (.loadAll ag324 (by simp[hsl]) rfl (bl)) rfl ?_))))))
 refine W.ef0 rfl rfl (Ef.storeAll sz324 (by simp[hsl]) rfl rfl (bl) (by simp) (fun v hv=>all_u32v _ v (by simpa using hv)) ?_)
 intro ac ad ae
 have af:Le w ac:=Ll.then_ ae (fun q hq=>by cases hq;exact i)
 refine Nx (Rt (E.retC rfl rfl ad ag324 (by simp[hsl]) ?_))
 exact⟨rfl,af⟩

theorem table_ok (w:World):Calls prog 247 #[] w fun e w'=>e= .returned (.agg (table.map u32v).toArray)/\Le w w':=by
 refine enter func247 rfl rfl ?_
 have b:=Le.refl w
 refine Sr (W.ef rfl rfl rfl (Ef.allocA z324 fun m n c d f=>?_))
 have h:=b.trans f
 refine Nx (Sr (Wa (.buildA (cells:=(table.map u32v).toArray) underlying324 sz273 z324 rfl (by kernel_rfl)) rfl (W.ef0 rfl rfl (Ef.storeAll sz324 (rfl) rfl rfl (d) (rfl) (fun v hv=>all_u32v _ v (by simpa using hv)) ?_))))
 intro i j k
 have l:Le w i:=h.then_ k (fun q hq=>by cases hq;exact c)
 refine Nx (Rt (E.retC rfl rfl j ag324 rfl ?_))
 exact⟨rfl,l⟩

theorem first_ok (w:World):Calls prog 174 #[] w fun e w'=>e= .returned (.agg (first.map u32v).toArray)/\Le w w':=by
 refine enter func174 rfl rfl ?_
 have b:=Le.refl w
 refine Sr (W.ef rfl rfl rfl (Ef.allocA z275 fun m n c d f=>?_))
 have h:=b.trans f
 refine Nx (Sr (Wa (.buildA (cells:=(first.map u32v).toArray) underlying275 sz273 z275 rfl (by kernel_rfl)) rfl (W.ef0 rfl rfl (Ef.storeAll sz275 (rfl) rfl rfl (d) (rfl) (fun v hv=>all_u32v _ v (by simpa using hv)) ?_))))
 intro i j k
 have l:Le w i:=h.then_ k (fun q hq=>by cases hq;exact c)
 refine Nx (Rt (E.retC rfl rfl j ag275 rfl ?_))
 exact⟨rfl,l⟩

set_option maxHeartbeats 1000000 in
theorem mix_ok {A:Option Addr} {n c:Nat} {b:List Byte} {h:List Word} (w:World) (hl:h.length=8) (hS:Sb w A n b) (hn:n=64) (hc:n<=c):Calls prog 175 #[.agg (h.map u32v).toArray,.slice A n c] w fun e w'=>e= .returned (.agg ((mix h b).map u32v).toArray)/\Le w w':=by
 have hsl:(sched b).length=64:=schedTo_length b 64
 unfold mix
 refine enter func175 rfl rfl ?_
 have L0:=Le.refl w
 refine Sr (W.ef rfl rfl rfl (Ef.boxA rfl fun y a6 a7 u an=>?_))
 have ai:=L0.trans an
 refine W.ef rfl rfl rfl (Ef.allocA z275 fun z ao ap R m=>?_)
 have aj:=ai.trans m
 refine Nx (Sr (Wn 1 rfl (W.cl go246 rfl rfl (schedule_ok ao (hS.le aj) hn hc) ?_)))
 rintro _ aq ⟨rfl,f⟩
 have ar:=aj.trans f
 refine W.cl go247 rfl rfl (table_ok aq) ?_
 rintro _ a8 ⟨rfl,k⟩
 have ak:=ar.trans k
 refine W.ef rfl rfl rfl (Ef.allocA z324 fun S a9 au T o=>?_)
 have al:=ak.trans o
 refine W.ef rfl rfl rfl (Ef.allocA z324 fun U ba av aw C=>?_)
 have ax:=al.trans C
 refine W.ef0 rfl rfl (Ef.storeAll sz324 (by simp[hsl]) rfl rfl (T.le C) (by simp[hsl]) (fun v hv=>all_u32v _ v (by simpa using hv)) ?_)
 intro ay az D
 have aA:Le w ay:=ax.tb D ak au
 refine W.ef0 rfl rfl (Ef.storeAll sz324 (rfl) rfl rfl (aw.ch D (by simp;have:=T.lt;omega)) (rfl) (fun v hv=>all_u32v _ v (by simpa using hv)) ?_)
 intro aB V F
 have X:Le w aB:=aA.tb F al av
 have L:=az.ch F (by simp;have:=T.lt;omega)
 refine Nx (Sr (Wr (.loadAll ag275 (by simp[hl]) rfl (((((((u.le m).le f).le k).le o).le C).ch D (by simp;have:=u.lt;have:=m.size;have:=f.size;have:=k.size;omega)).ch F (by simp;have:=u.lt;have:=m.size;have:=f.size;have:=k.size;have:=o.size;omega))) rfl ?_))
 have N:=((((((u.le m).le f).le k).le o).le C).ch D (by simp;have:=u.lt;have:=m.size;have:=f.size;have:=k.size;omega)).ch F (by simp;have:=u.lt;have:=m.size;have:=f.size;have:=k.size;have:=o.size;omega)
 have O:=(((((R.le f).le k).le o).le C).ch D (by simp;have:=R.lt;have:=f.size;have:=k.size;omega)).ch F (by simp;have:=R.lt;have:=f.size;have:=k.size;have:=o.size;omega)
 refine W.ef rfl rfl rfl (Ef.allocA z275 fun l bb am aC H=>?_)
 have aE:=X.trans H
 refine W.ef0 rfl rfl (Ef.storeAll sz275 (by simp[hl]) rfl rfl (aC) (by simp[hl]) (fun v hv=>all_u32v _ v (by simpa using hv)) ?_)
 intro aF aG I
 have aH:Le w aF:=aE.tb I X am
 have s:=(N.le H).ch I (by simp;have:=N.lt;omega)
 have t:=(O.le H).ch I (by simp;have:=O.lt;omega)
 have P:=(L.le H).ch I (by simp;have:=L.lt;omega)
 have Q:=(V.le H).ch I (by simp;have:=V.lt;omega)
 have n2:y<l:=by have:=N.lt;omega
 have n4:z<l:=by have:=O.lt;omega
 have n5:S<l:=by have:=L.lt;omega
 have n6:U<l:=by have:=V.lt;omega
 have hgv:w.heap.size<=l:=Nat.le_trans X.size am
 clear N O L
 refine Nx (Sq (Sr (Wn 1 rfl (Nx (WC.block (WC.loop (ι:=Nat) (fun i=>[(2,.pointer (some ⟨y,0,none⟩)),(4,.pointer (some ⟨z,0,none⟩)),(5,.pointer (some ⟨S,0,none⟩)),(6,.pointer (some ⟨U,0,none⟩)),(7,.pointer (some ⟨l,0,none⟩)),(18,.int .i64 (i:Int))]) (fun i wl=>i<=64/\Le w wl/\Blk wl y 275 (h.map u32v).toArray/\Blk wl z 275 zw8/\Blk wl S 324 ((sched b).map u32v).toArray/\Blk wl U 324 (table.map u32v).toArray/\Blk wl l 275 ((roundsTo h (sched b) i).map u32v).toArray) (fun i=>64-i) 0 ?_ ?_ ?_))))))
 ·exact .of rfl
 ·exact⟨by omega,aH,s,t,P,Q,aG⟩
 rintro i wl ⟨hi,Ll,s,t,P,Q,bv⟩
 have hvl:=roundsTo_length h (sched b) hl i
 obtain⟨v,hv⟩:∃v,v=roundsTo h (sched b) i:=⟨_,rfl⟩
 rw[<-hv]at bv hvl
 refine Sr (Wn 1 rfl (Nx (Sq (WC.cond rfl (fun c0=>?_) (fun c0=>?_)))))
 ·refine Sn (Sq (WC.block (Sr (Wn 2 rfl (Nx (Sq (WC.draw [0,1,3,4,7,8,2,5,6,9,10,11] mixed (by kernel_rfl) fun w6 Y=>?_)))))))
  have L6:=Ll.trans Y
  have Z:=bv.le Y
  refine Ga rfl (.idxA1 4 underlying275 sz273 rfl rfl rfl (by decide)) (Gd rfl (.loadB na273 rfl (Z) (getwA _ (by omega))) (Ga rfl (.idxA1 4 underlying275 sz273 rfl rfl rfl (by decide)) (Gd rfl (.loadB na273 rfl (Z) (getwA _ (by omega))) (Ga rfl (.idxA1 4 underlying275 sz273 rfl rfl rfl (by decide)) (Gd rfl (.loadB na273 rfl (Z) (getwA _ (by omega))) ?_)))))
  refine G.ef rfl rfl rfl rfl rfl (Ef.call go248 rfl rfl (rot_ok _ 6 w6 (by omega)) ?_)
  rintro _ aI ⟨rfl,aa⟩
  refine⟨_,rfl,?_⟩
  have aJ:=L6.trans aa
  refine⟨fun _=>aa,?_⟩
  refine G.ef rfl rfl rfl rfl rfl (Ef.call go248 rfl rfl (rot_ok _ 11 aI (by omega)) ?_)
  rintro _ aK ⟨rfl,ab⟩
  refine⟨_,rfl,?_⟩
  have aL:=aJ.trans ab
  refine⟨fun _=>ab,?_⟩
  refine Ga rfl (.xor32 rfl rfl) (G.ef rfl rfl rfl rfl rfl (Ef.call go248 rfl rfl (rot_ok _ 25 aK (by omega)) ?_))
  rintro _ bc ⟨rfl,ac⟩
  refine⟨_,rfl,?_⟩
  have aM:=aL.trans ac
  refine⟨fun _=>ac,?_⟩
  refine Ga rfl (.xor32 rfl rfl) (Gn 1 rfl (G.nil (E.thenN (Sq (WC.draw [0,1,2,3,4,5,6,7,8,9,10,11,12,13,14,15,16,17,18,19,20,21,22,23,24] mixed (by kernel_rfl) fun w7 d7=>?_)))))
  have LL:=Y.trans (aa.trans (ab.trans (ac.trans d7)))
  have J:=bv.le LL
  refine Ga rfl (.idxA1 7 underlying275 sz273 rfl rfl rfl (by decide)) (Gd rfl (.loadB na273 rfl (J) (getwA _ (by omega))) (Gn 1 rfl (Ga rfl (.add32 rfl rfl) (Ga rfl (.idxA1 6 underlying275 sz273 rfl rfl rfl (by decide)) (Gd rfl (.loadB na273 rfl (J) (getwA _ (by omega))) ?_)))))
  refine Ga rfl (.idxA1 4 underlying275 sz273 rfl rfl rfl (by decide)) (Gd rfl (.loadB na273 rfl (J) (getwA _ (by omega))) (Ga rfl (.idxA1 5 underlying275 sz273 rfl rfl rfl (by decide)) (Gd rfl (.loadB na273 rfl (J) (getwA _ (by omega))) (Ga rfl (.idxA1 6 underlying275 sz273 rfl rfl rfl (by decide)) (Gd rfl (.loadB na273 rfl (J) (getwA _ (by omega))) ?_)))))
  refine Ga rfl (.xor32 rfl rfl) (Ga rfl (.and32 rfl rfl) (Ga rfl (.xor32 rfl rfl) (Ga rfl (.add32 rfl rfl) (Gn 1 rfl (Ga rfl (.idxA1 (i) underlying324 sz273 rfl rfl (rfl) (by omega)) ?_)))))
  refine Gd rfl (.loadB na273 rfl (Q.le LL) (getwA _ (by show i<64;omega))) ?_
  refine Ga rfl (.add32 rfl rfl) (Gn 1 rfl (Ga rfl (.idxA1 (i) underlying324 sz273 rfl rfl (rfl) (by omega)) (Gd rfl (.loadB na273 rfl (P.le LL) (getwA _ (by rw[hsl];omega))) ?_)))
  refine Ga rfl (.add32 rfl rfl) (Gn 1 rfl (G.nil (E.thenN (Sq (WC.draw [0,1,3,4,7,8,2,5,6,9,10,11] mixed (by kernel_rfl) fun w8 d8=>?_)))))
  have L8:=(aM.trans d7).trans d8
  have LL:=LL.trans d8
  have v8:=bv.le LL
  refine Ga rfl (.idxA1 0 underlying275 sz273 rfl rfl rfl (by decide)) (Gd rfl (.loadB na273 rfl (v8) (getwA _ (by omega))) (Ga rfl (.idxA1 0 underlying275 sz273 rfl rfl rfl (by decide)) (Gd rfl (.loadB na273 rfl (v8) (getwA _ (by omega))) (Ga rfl (.idxA1 0 underlying275 sz273 rfl rfl rfl (by decide)) (Gd rfl (.loadB na273 rfl (v8) (getwA _ (by omega))) ?_)))))
  refine G.ef rfl rfl rfl rfl rfl (Ef.call go248 rfl rfl (rot_ok _ 2 w8 (by omega)) ?_)
  rintro _ aO ⟨rfl,ad⟩
  refine⟨_,rfl,?_⟩
  have aP:=L8.trans ad
  refine⟨fun _=>ad,?_⟩
  refine G.ef rfl rfl rfl rfl rfl (Ef.call go248 rfl rfl (rot_ok _ 13 aO (by omega)) ?_)
  rintro _ aQ ⟨rfl,ae⟩
  refine⟨_,rfl,?_⟩
  have aR:=aP.trans ae
  refine⟨fun _=>ae,?_⟩
  refine Ga rfl (.xor32 rfl rfl) (G.ef rfl rfl rfl rfl rfl (Ef.call go248 rfl rfl (rot_ok _ 22 aQ (by omega)) ?_))
  rintro _ bd ⟨rfl,af⟩
  refine⟨_,rfl,?_⟩
  have aS:=aR.trans af
  refine⟨fun _=>af,?_⟩
  refine Ga rfl (.xor32 rfl rfl) (Gn 1 rfl (G.nil (E.thenN (Sr ?_))))
  have LL:=LL.trans (ad.trans (ae.trans af))
  have d:=bv.le LL
  refine Wa (.idxA1 0 underlying275 sz273 rfl rfl rfl (by decide)) rfl (Wr (.loadB na273 rfl (d) (getwA _ (by omega))) rfl (Wa (.idxA1 1 underlying275 sz273 rfl rfl rfl (by decide)) rfl (Wr (.loadB na273 rfl (d) (getwA _ (by omega))) rfl (Wa (.and32 rfl rfl) rfl (Wa (.idxA1 2 underlying275 sz273 rfl rfl rfl (by decide)) rfl ?_)))))
  refine Wr (.loadB na273 rfl (d) (getwA _ (by omega))) rfl (Wa (.idxA1 0 underlying275 sz273 rfl rfl rfl (by decide)) rfl (Wr (.loadB na273 rfl (d) (getwA _ (by omega))) rfl (Wa (.idxA1 1 underlying275 sz273 rfl rfl rfl (by decide)) rfl (Wr (.loadB na273 rfl (d) (getwA _ (by omega))) rfl (Wa (.or32 rfl rfl) rfl ?_)))))
  refine Wa (.and32 rfl rfl) rfl (Wa (.or32 rfl rfl) rfl (Wn 1 rfl (Nx (WC.region (Wn 2 rfl (Wa (.add32 rfl rfl) rfl (Wn 1 rfl (Wa (.add32 rfl rfl) rfl ?_))))))))
  refine Wa (.idxA1 0 underlying275 sz273 rfl rfl rfl (by decide)) rfl (Wr (.loadB na273 rfl (d) (getwA _ (by omega))) rfl (Wa (.idxA1 1 underlying275 sz273 rfl rfl rfl (by decide)) rfl (Wr (.loadB na273 rfl (d) (getwA _ (by omega))) rfl (Wa (.idxA1 2 underlying275 sz273 rfl rfl rfl (by decide)) rfl (Wr (.loadB na273 rfl (d) (getwA _ (by omega))) rfl ?_)))))
  refine Wa (.idxA1 3 underlying275 sz273 rfl rfl rfl (by decide)) rfl (Wr (.loadB na273 rfl (d) (getwA _ (by omega))) rfl (Wn 1 rfl (Wa (.add32 rfl rfl) rfl (Wa (.idxA1 4 underlying275 sz273 rfl rfl rfl (by decide)) rfl (Wr (.loadB na273 rfl (d) (getwA _ (by omega))) rfl ?_)))))
  refine Wa (.idxA1 5 underlying275 sz273 rfl rfl rfl (by decide)) rfl (Wr (.loadB na273 rfl (d) (getwA _ (by omega))) rfl (Wa (.idxA1 6 underlying275 sz273 rfl rfl rfl (by decide)) rfl (Wr (.loadB na273 rfl (d) (getwA _ (by omega))) rfl (Wa (.buildArr [_,_,_,_,_,_,_,_] underlying275 sz273 z275 rfl (one8 _ _ _ _ _ _ _ _) rfl rfl) rfl ?_))))
  have e2:=s.le LL
  have e4:=t.le LL
  have e5:=P.le LL
  have e6:=Q.le LL
  refine W.ef0 rfl rfl (Ef.storeAll sz275 (rfl) rfl rfl (d) (by simp[hvl]) (fun v hv=>one8 _ _ _ _ _ _ _ _ v (by simpa using hv)) ?_)
  intro aT aU K
  have aV:Le w aT:=aS.then_ K (fun q hq=>by cases hq;exact hgv)
  refine W.nil (E.blkN (E.thenN (WC.region (Wa (.add rfl rfl (by omega)) rfl (Wn 1 rfl (W.nil (E.again (i+1) (.of rfl) ?_ ?_)))))))
  ·exact⟨by omega,aV,e2.ch K (by simp;omega),e4.ch K (by simp;omega),e5.ch K (by simp;omega),e6.ch K (by simp;omega),aU.cast (by rw[roundsTo,<-hv];rfl)⟩
  first|omega|(simp only[];omega)
 rw[hv]at bv hvl
 have aW:i=64:=by omega
 subst aW
 refine WC.exit (E.thenX (E.thenX (E.blkH (E.thenN (Sq (Sr (Wn 1 rfl (Nx (WC.block (WC.loop (ι:=Nat) (fun j=>[(2,.pointer (some ⟨y,0,none⟩)),(4,.pointer (some ⟨z,0,none⟩)),(7,.pointer (some ⟨l,0,none⟩)),(104,.int .i64 (j:Int))]) (fun j wm=>j<=8/\Le w wm/\Blk wm y 275 (h.map u32v).toArray/\Blk wm z 275 zw8/\Blk wm l 275 ((addTo (roundsTo h (sched b) 64) h j).map u32v).toArray) (fun j=>8-j) 0 ?_ ?_ ?_))))))))))
 ·exact .of rfl
 ·exact⟨by omega,Ll,s,t,bv.cast (by rw[addTo_zero _ _ hvl])⟩
 rintro j wm ⟨hj,Lm,s,t,bv⟩
 have hal:=addTo_length (roundsTo h (sched b) 64) h j
 refine Sr (Wn 1 rfl (Nx (Sq (WC.cond rfl (fun c1=>?_) (fun c1=>?_)))))
 ·refine Sn (Sq (WC.block (Sr (Wn 2 rfl (Nx (WC.draw [0,1,2,3,4,5,6,7,8] mixed (by kernel_rfl) fun be x=>?_))))))
  have aX:=Lm.trans x
  refine Gn 1 rfl (Ga rfl (.idxA1 (j) underlying275 sz273 rfl rfl (rfl) (by omega)) (Gd rfl (.loadB na273 rfl (bv.le x) ((getwA _ (by omega)).trans (by rw[addTo_at _ _ _ _ (by omega),if_neg (by omega)]))) ?_))
  refine Gn 1 rfl (Ga rfl (.idxA1 (j) underlying275 sz273 rfl rfl (rfl) (by omega)) (Gd rfl (.loadB na273 rfl (s.le x) (getwA _ (by omega))) (Ga rfl (.add32 rfl rfl) (Ga rfl (.idxA1 (j) underlying275 sz273 rfl rfl (rfl) (by omega)) (G.ef0 rfl rfl rfl rfl ?_)))))
  refine Ef.store sz273 rfl rfl (bv.le x) (by simp;omega) (rfl) ?_
  intro aY aZ ah
  have a0:Le w aY:=aX.then_ ah (fun q hq=>by cases hq;exact hgv)
  refine noT (by kernel_rfl) (G.nil (E.blkN (E.thenN (WC.region (Wa (.add rfl rfl (by omega)) rfl (Wn 1 rfl (W.nil (E.again (j+1) (.of rfl) ?_ ?_))))))))
  ·exact⟨by omega,a0,(s.le x).ch ah (by simp;omega),(t.le x).ch ah (by simp;omega),aZ.cast (by rw[<-addTo_succ _ _ j (by omega)];apply Array.ext';simp)⟩
  first|omega|(simp only[];omega)
 have a1:j=8:=by omega
 subst a1
 refine WC.exit (E.thenX (E.thenX (E.blkH (E.thenN (Sr (Wr (.loadAll ag275 (by simp[hal]) rfl (bv)) rfl ?_))))))
 refine W.ef0 rfl rfl (Ef.storeAll sz275 (by simp[hal]) rfl rfl (t) (by simp[hal]) (fun v hv=>all_u32v _ v (by simpa using hv)) ?_)
 intro a2 a3 a4
 have a5:Le w a2:=Lm.tb a4 ai ap
 refine Nx (Rt (E.retC rfl rfl a3 ag275 (by simp[hal]) ?_))
 exact⟨rfl,a5⟩
end Go.Proofs.YtocheaahlpiajaaGreatDoor

namespace Go.Proofs.YtocheaahlpiajaaGreatDoor
open Tryz
open Go Go.Sx Go.Hsp
set_option maxRecDepth 20000
theorem clone_ok {A:Option Addr}{n c:Nat}{xs:List Byte}(w:World)(hS:Sb w A n xs)(hn:n<=70368744177664):Calls prog 173 #[.slice A n c] w fun e w'=>∃A' c',e= .returned (.slice A' n c')/\Own w' w.heap.size 5 1 A' n c' (xs.map u8v)/\Le w w':=by
 refine enter func173 rfl rfl ?_
 have d:=Le.refl w
 refine Sr (Wn 1 rfl (Nx (Sq (Sr (Wn 1 rfl (Wa (.isNil underlying26 rfl) rfl (Nx (WC.condB rfl (fun f=>?_) (fun f=>?_)))))))))
 ·have hA:A=none:=by simpa using f
  subst hA
  have hl:=hS.len
  have hx:xs=[]:=by cases xs with |nil=>rfl|cons x xs=>exact absurd (hS.isSome (by rw[<-hl];simp)) (by simp)
  subst hx
  have h:n=0:=by simpa using hl.symm
  subst h
  refine Sr (Wn 1 rfl (Nx (Rt (E.thenR (E.ret1 rfl rfl ?_)))))
  exact⟨none,0,rfl,Own.empty _ _ _ _ _,d⟩
 refine Sn (Sr (W.ef rfl rfl rfl (Ef.buildSlice0 underlying26 el5 fun u i v y j=>?_)))
 have b:=d.trans j
 refine Wn 1 rfl (W.ef rfl rfl rfl (Ef.append underlying26 el5 rfl (Own.empty i w.heap.size 5 1 _) rfl ((hS.le b).src underlying26 _) (by omega) (by unfold maxLen;omega) (b.size) ?_))
 intro k l m o s z
 have t:Le w m:=b.then_ s (fun q hq=>by rw[rowOf_zero]at hq;cases hq)
 refine Wn 1 rfl (Nx (Rt (E.ret1 rfl rfl ?_)))
 exact⟨k,l,by rw[Nat.zero_add],o.cast (Nat.zero_add n) (List.nil_append _),t⟩

theorem long_ok {A:Option Addr}{n c base:Nat}{xs:List Byte}(m:Nat)(w:World)(hO:Own w base 5 1 A n c (xs.map u8v))(_hm:m<=9223372036854775807)(hn:n<=70368744177664)(hb:base<=w.heap.size):Calls prog 78 #[.slice A n c,.int .i64 (m:Int)] w fun e w'=>∃A' c',e= .returned (.slice A' (n+8) c')/\Own w' base 5 1 A' (n+8) c' ((xs++be8 m).map u8v)/\Ch w w' (rowOf A c)/\At w A c A' c':=by
 refine enter func78 rfl rfl (Sr (Wn 1 rfl (Nx (Sq (Sr (Wn 1 rfl (Nx (WC.block (WC.loop (ι:=Nat×Option Addr×Nat) (fun⟨k,b,d⟩=>[(0,.slice b (n+k) d),(1,.int .i64 (m:Int)),(5,.int .i64 (56-8*(k:Int)))]) (fun⟨k,b,d⟩ wl=>k<=8/\Own wl base 5 1 b (n+k) d ((xs++be8To m k).map u8v)/\Ch w wl (rowOf A c)/\At w A c b d) (fun⟨k,b,d⟩=>8-k) (0,A,c) ?_ ?_ ?_)))))))))
 ·exact .of rfl
 ·exact⟨by omega,hO.cast rfl (by simp[be8To]),Ch.refl _ _,At.refl _ _ _⟩
 rintro⟨k,b,d⟩ wl ⟨hk,ol,chl,atl⟩
 refine Sq (Sr (Wn 2 rfl (Nx (WC.cond rfl (fun h=>?_) (fun h=>?_)))))
 ·refine Sn (Sq (WC.block (WC.region (Wn 3 rfl (Wa (.shrN m (56-8*k) rfl rfl rfl (by omega) (by show 56-8*k<=64;omega)) rfl ?_)))))
  refine Wr (.toU8 (m>>>(56-8*k)) (isS underlying3) underlying5 rfl rfl) rfl (W.ef rfl rfl rfl (Ef.buildSlice1 underlying26 el5 rfl rfl fun v x y i f=>(W.ef rfl rfl rfl (Ef.append underlying26 el5 rfl (ol.le f) rfl (i.src1 underlying26 rfl) (by omega) (by unfold maxLen;omega) (Nat.le_trans hb (Nat.le_trans chl.size f.size)) ?_))))
  intro j l z o s t
  refine Wn 1 rfl (W.nil (E.blkN (E.thenN (WC.region (Wn 1 rfl (Wa (.sub rfl rfl (by omega)) rfl (Wn 1 rfl (W.nil (E.again (k+1,j,l) (.cons rfl (.cons rfl (.cons' rfl (int_eq (by omega)) (.nil _)))) ?_ ?_)))))))))
  ·exact⟨by omega,o.cast rfl (by rw[be8To_succ m k (by omega)];simp),(chl.trans (f.ch _)).then_ s (fun q hq=>(atl q hq).symm),atl.trans (Nat.le_trans chl.size f.size) t⟩
  first|omega|(simp only[];omega)
 have u:k=8:=by omega
 subst u
 refine WC.exit (E.thenX (E.thenX (E.blkH (E.thenN (Sr (Wn 2 rfl (Nx (Rt (E.ret1 rfl rfl ?_)))))))))
 exact⟨b,d,rfl,ol,chl,atl⟩

set_option maxHeartbeats 1000000 in
theorem sum_ok {A:Option Addr} {n c:Nat} {xs:List Byte} (w:World) (hS:Sb w A n xs) (hn:n<=35184372088832) (hc:n<=c):Calls prog 79 #[.slice A n c] w fun e w'=>e= .returned (.agg ((sum xs).map u8v).toArray)/\Le w w':=by
 have hl:=hS.len
 refine enter func79 rfl rfl ?_
 have L0:=Le.refl w
 refine Sr (W.ef rfl rfl rfl (Ef.allocA z30 fun d N O ad ae=>?_))
 have C:=L0.trans ae
 have b:Blk N d 30 ((List.replicate 32 0#8).map u8v).toArray:=ad
 refine Nx (Sr (Wn 2 rfl (Wr (.len underlying26 rfl) rfl (Wn 1 rfl (Wr (.len underlying26 rfl) rfl (Wa (.rem rfl rfl (by omega)) rfl (Wa (.sub rfl rfl (by omega)) rfl ?_)))))))
 refine Wa (.cutL (n-n%64) underlying26 sz5 rfl rfl (by omega) (by omega) (by omega)) rfl (W.cl go173 rfl rfl (clone_ok N ((hS.le C).cutL c (n-n%64) (by omega) hc) (by omega)) ?_)
 rintro _ aX ⟨A1,P,rfl,l,D⟩
 have af:=C.trans D
 have Q:=l
 have l:=l.mono C.size
 refine W.ef rfl rfl rfl (Ef.buildSlice1 underlying26 el5 rfl rfl fun aY aZ a0 ah x=>?_)
 have R:=af.trans x
 refine W.ef rfl rfl rfl (Ef.append underlying26 el5 rfl (l.le x) rfl (ah.src1 underlying26 rfl) (by omega) (by unfold maxLen;omega) (R.size) ?_)
 intro S T ai aj U ak
 have al:Le w ai:=R.then_ U (fun q hq=>(l.row hq).1)
 have m:rowOf S T≠some d:=ak.off (by have:=b.lt;have:=D.size;have:=x.size;omega) (Q.rl (by have:=b.lt;omega))
 have b:=((b.le D).le x).ch U (Q.rl (by have:=b.lt;omega))
 refine Wn 1 rfl (Nx (Sq (WC.block (WC.loop (ι:=Nat×Option Addr×Nat) (fun⟨k,i,h⟩=>[(0,.slice A n c),(2,.pointer (some ⟨d,0,none⟩)),(3,.slice i (n%64+1+k) h)]) (fun⟨k,i,h⟩ wl=>k<=noughts n/\Le w wl/\Own wl w.heap.size 5 1 i (n%64+1+k) h ((xs.drop (n-n%64)++[128]++List.replicate k 0).map u8v)/\Blk wl d 30 ((List.replicate 32 0#8).map u8v).toArray/\rowOf i h≠some d) (fun⟨k,i,h⟩=>64-k) (0,S,T) ?_ ?_ ?_))))
 ·exact .cons rfl (.cons rfl (.cons' rfl (slice_eq (by omega)) (.nil _)))
 ·exact⟨Nat.zero_le _,al,aj.cast (by omega) (by simp;rfl),b,m⟩
 rintro⟨k,i,h⟩ wl ⟨hk,Ll,ol,b,m⟩
 have a1:noughts n<=63:=by unfold noughts;omega
 refine Sq (Sr (Wn 1 rfl (Wr (.len underlying26 rfl) rfl (Wa (.rem rfl rfl (by omega)) rfl (Wn 1 rfl (Nx (WC.cond rfl (fun c0=>?_) (fun c0=>?_))))))))
 ·refine Sn (WC.block (WC.region (Wn 1 rfl (W.ef rfl rfl rfl (Ef.buildSlice1 underlying26 el5 rfl rfl fun a2 a3 a4 am o=>?_)))))
  have an:=Ll.trans o
  refine W.ef rfl rfl rfl (Ef.append underlying26 el5 rfl (ol.le o) rfl (am.src1 underlying26 rfl) (by omega) (by unfold maxLen;omega) (Nat.le_trans Ll.size o.size) ?_)
  intro ao ap aq ar V au
  have av:Le w aq:=an.then_ V (fun q hq=>(ol.row hq).1)
  refine Wn 1 rfl (W.nil (E.blkN (E.again (k+1,ao,ap) (.cons rfl (.cons rfl (.cons' rfl (slice_eq (by omega)) (.nil _)))) ?_ ?_)))
  ·exact⟨by unfold noughts at*;omega,av,ar.cast (by omega) (by simp[List.replicate_succ'];rfl),(b.le o).ch V m,au.off (by have:=b.lt;have:=o.size;omega) m⟩
  first|omega|(simp only[];omega)
 have hkn:k=noughts n:=by unfold noughts at*;omega
 subst hkn
 refine WC.exit (E.thenX (E.thenX (E.blkH (E.thenN (Sr (Wn 2 rfl (Wr (.len underlying26 rfl) rfl (Wa (.mul rfl rfl (by omega)) rfl (W.cl go78 rfl rfl (long_ok (8*n) wl ol (by omega) (by omega) Ll.size) ?_)))))))))
 rintro _ y ⟨A4,X,rfl,F,Y,a5⟩
 have Z:Le w y:=Ll.then_ Y (fun q hq=>(ol.row hq).1)
 have b:=b.ch Y m
 obtain⟨ge,aw,a6,ax,hrow⟩:=F.lit (by omega)
 subst aw
 have hce:=F.cap.1
 have hE:Sb y (some ⟨ge,0,none⟩) (n%64+1+noughts n+8) (tail xs):=F.sb.cast rfl (by simp[tail,hl])
 have htl:=tail_length xs
 have hlen:=hE.len
 rw[hlen]at htl
 refine Wn 1 rfl (Nx (Sr (W.cl go174 rfl rfl (first_ok y) ?_)))
 rintro _ a7 ⟨rfl,z⟩
 have aa:=Z.trans z
 refine W.ef rfl rfl rfl (Ef.allocA z275 fun f a8 ab ay H=>?_)
 have az:=aa.trans H
 refine W.ef0 rfl rfl (Ef.storeAll sz275 (rfl) rfl rfl (ay) (rfl) (fun v hv=>all_u32v _ v (by simpa using hv)) ?_)
 intro aA aB I
 have aC:Le w aA:=az.tb I aa ab
 have J:y.heap.size<=f:=Nat.le_trans z.size ab
 have a9:d<f:=Nat.lt_of_lt_of_le b.lt J
 have ba:ge<f:=Nat.lt_of_lt_of_le ax J
 have hgh:w.heap.size<=f:=Nat.le_trans Z.size J
 have b:=((b.le z).le H).ch I (by simp;omega)
 have hE:=((hE.le z).le H).ch I (fun q hq=>by cases hq;simp[blkOf];omega)
 refine Nx (Sq (WC.block (WC.loop (ι:=Option Addr×Nat×Nat×List Byte×List Word) (fun⟨Ab,nb,cb,ys,hh⟩=>[(0,.slice Ab nb cb),(2,.pointer (some ⟨d,0,none⟩)),(3,.slice (some ⟨ge,0,none⟩) (n%64+1+noughts n+8) X),(4,.pointer (some ⟨f,0,none⟩))]) (fun⟨Ab,nb,cb,ys,hh⟩ wp=>Sb w Ab nb ys/\nb<=cb/\hh.length=8/\mixAll hh ys=mixAll first xs/\Le w wp/\Blk wp f 275 (hh.map u32v).toArray/\Blk wp d 30 ((List.replicate 32 0#8).map u8v).toArray/\Sb wp (some ⟨ge,0,none⟩) (n%64+1+noughts n+8) (tail xs)) (fun⟨Ab,nb,cb,ys,hh⟩=>nb) (A,n,c,xs,first) ?_ ?_ ?_)))
 ·exact .of rfl
 ·exact⟨hS,hc,rfl,rfl,aC,aB,b,hE⟩
 rintro⟨Ab,nb,cb,ys,hh⟩ wp ⟨hb,hcb,hhl,hmx,Lp,bh,b,hE⟩
 have hyl:=hb.len
 refine Sq (Sr (Wn 1 rfl (Wr (.len underlying26 rfl) rfl (Wn 1 rfl (Nx (WC.cond rfl (fun P=>?_) (fun P=>?_)))))))
 ·refine Sn (Sq (WC.block (WC.draw [0,1,2,3,4] mixed (by kernel_rfl) fun w8 s=>?_)))
  have L8:=Lp.trans s
  refine Gd rfl (.loadAll ag275 (by simp[hhl]) rfl (bh.le s)) ?_
  refine Gn 1 rfl (Ga rfl (.cutH (64) underlying26 sz5 rfl rfl (rfl) (by omega)) (G.ef rfl rfl rfl rfl rfl (Ef.call go175 rfl rfl (mix_ok w8 hhl ((hb.le L8).cutH 64 (by omega)) rfl (by omega)) ?_)))
  rintro _ bb ⟨rfl,t⟩
  refine⟨_,rfl,?_⟩
  have aE:=L8.trans t
  refine⟨fun _=>t,?_⟩
  refine G.ef0 rfl rfl rfl rfl (Ef.storeAll sz275 (by simp[mix_length]) rfl rfl ((bh.le s).le t) (by simp[mix_length,hhl]) (fun v hv=>all_u32v _ v (by simpa using hv)) ?_)
  intro aF aG K
  have aH:Le w aF:=aE.then_ K (fun q hq=>by cases hq;exact hgh)
  refine noT (by kernel_rfl) (G.nil (E.blkN (E.thenN (WC.region (Wn 1 rfl (Wa (.cutL (64) underlying26 sz5 rfl rfl (rfl) (by omega) (by omega)) rfl (Wn 1 rfl (W.nil (E.again (cutA Ab cb 64 1,nb-64,cb-64,ys.drop 64,mix hh (ys.take 64)) (.of rfl) ?_ ?_)))))))))
  ·exact⟨hb.cutL cb 64 (by omega) hcb,by omega,mix_length _ _,(mixAll_step _ _ (by omega)).symm.trans hmx,aH,aG,((b.le s).le t).ch K (by simp;omega),((hE.le s).le t).ch K (fun q hq=>by cases hq;simp[blkOf];omega)⟩
  first|omega|(simp only[];omega)
 have hhe:hh=mixAll first xs:=by rw[<-hmx,mixAll_end _ _ (by omega)]
 refine WC.exit (E.thenX (E.thenX (E.blkH (E.thenN (Sq (WC.block (WC.loop (ι:=Option Addr×Nat×Nat×List Byte×List Word) (fun⟨Ab,nb,cb,ys,hh⟩=>[(2,.pointer (some ⟨d,0,none⟩)),(3,.slice Ab nb cb),(4,.pointer (some ⟨f,0,none⟩))]) (fun⟨Ab,nb,cb,ys,hh⟩ wq=>Sb wq Ab nb ys/\blkOf Ab=some ge/\nb<=cb/\nb%64=0/\hh.length=8/\mixAll hh ys=mixAll (mixAll first xs) (tail xs)/\Le w wq/\Blk wq f 275 (hh.map u32v).toArray/\Blk wq d 30 ((List.replicate 32 0#8).map u8v).toArray) (fun⟨Ab,nb,cb,ys,hh⟩=>nb) (some ⟨ge,0,none⟩,n%64+1+noughts n+8,X,tail xs,hh) ?_ ?_ ?_)))))))
 ·exact .of rfl
 ·exact⟨hE,rfl,hce,htl,hhl,by rw[hhe],Lp,bh,b⟩
 rintro⟨Ab,nb,cb,ys,hh⟩ wq ⟨hb,hbe,hcb,bc,hhl,hmx,Lq,bh,b⟩
 have hyl:=hb.len
 refine Sq (Sr (Wn 1 rfl (Wr (.len underlying26 rfl) rfl (Wn 1 rfl (Nx (WC.cond rfl (fun h=>?_) (fun h=>?_)))))))
 ·refine Sn (Sq (WC.block (WC.draw [0,1,2,3,4] mixed (by kernel_rfl) fun aI j=>?_)))
  have aJ:=Lq.trans j
  refine Gd rfl (.loadAll ag275 (by simp[hhl]) rfl (bh.le j)) ?_
  refine Gn 1 rfl (Ga rfl (.cutH (64) underlying26 sz5 rfl rfl (rfl) (by omega)) (G.ef rfl rfl rfl rfl rfl (Ef.call go175 rfl rfl (mix_ok aI hhl ((hb.le j).cutH 64 (by omega)) rfl (by omega)) ?_)))
  rintro _ bd ⟨rfl,u⟩
  refine⟨_,rfl,?_⟩
  have aK:=aJ.trans u
  refine⟨fun _=>u,?_⟩
  refine G.ef0 rfl rfl rfl rfl (Ef.storeAll sz275 (by simp[mix_length]) rfl rfl ((bh.le j).le u) (by simp[mix_length,hhl]) (fun v hv=>all_u32v _ v (by simpa using hv)) ?_)
  intro aL aM L
  have aO:Le w aL:=aK.then_ L (fun q hq=>by cases hq;exact hgh)
  refine noT (by kernel_rfl) (G.nil (E.blkN (E.thenN (WC.region (Wn 1 rfl (Wa (.cutL (64) underlying26 sz5 rfl rfl (rfl) (by omega) (by omega)) rfl (Wn 1 rfl (W.nil (E.again (cutA Ab cb 64 1,nb-64,cb-64,ys.drop 64,mix hh (ys.take 64)) (.of rfl) ?_ ?_)))))))))
  ·exact⟨(((hb.le j).le u).ch L (fun q hq=>by cases hq;rw[hbe];simp;omega)).cutL cb 64 (by omega) hcb,by rw[blkOf_cutA,hbe],by omega,by omega,mix_length _ _,(mixAll_step _ _ (by omega)).symm.trans hmx,aO,aM,((b.le j).le u).ch L (by simp;omega)⟩
  first|omega|(simp only[];omega)
 have hhe:hh=mixAll (mixAll first xs) (tail xs):=by rw[<-hmx,mixAll_end _ _ (by omega)]
 refine WC.exit (E.thenX (E.thenX (E.blkH (E.thenN (Sq (Sr (Wn 1 rfl (Nx (WC.block (WC.loop (ι:=Nat) (fun k=>[(2,.pointer (some ⟨d,0,none⟩)),(4,.pointer (some ⟨f,0,none⟩)),(48,.int .i64 (k:Int))]) (fun k wr=>k<=32/\Le w wr/\Blk wr f 275 (hh.map u32v).toArray/\Blk wr d 30 ((digestTo hh k).map u8v).toArray) (fun k=>32-k) 0 ?_ ?_ ?_))))))))))
 ·exact .of rfl
 ·exact⟨by omega,Lq,bh,b⟩
 rintro k wr ⟨hk,Lr,bh,b⟩
 have hdl:=digestTo_length hh k hk
 refine Sr (Wn 1 rfl (Nx (Sq (WC.cond rfl (fun c3=>?_) (fun c3=>?_)))))
 ·refine Sn (Sq (WC.block (Sr (Wn 2 rfl (Nx (WC.region (Wn 2 rfl (Wa (.quo rfl rfl (by omega)) rfl (Wa (.idxA1 (k/4) underlying275 sz273 rfl rfl (by omega) (by omega)) rfl (Wr (.loadB na273 rfl (bh) (getwA _ (by omega))) rfl (Wn 1 rfl (Wa (.rem rfl rfl (by omega)) rfl ?_))))))))))))
  refine Wa (.mul rfl rfl (by omega)) rfl (Wa (.sub rfl rfl (by omega)) rfl (Wa (.shr32 (24-8*(k%4)) rfl rfl (by omega) (by omega)) rfl (Wr (.u32to8 (isS underlying273) underlying5 rfl) rfl (Wa (.idxA1 (k) underlying30 sz5 rfl rfl (rfl) (by omega)) rfl (W.ef0 rfl rfl ?_)))))
  refine Ef.store sz5 rfl rfl (b) (by simp;omega) (rfl) ?_
  intro aP aQ ac
  have aR:Le w aP:=Lr.then_ ac (fun q hq=>by cases hq;exact O)
  refine W.nil (E.blkN (E.thenN (WC.region (Wa (.add rfl rfl (by omega)) rfl (Wn 1 rfl (W.nil (E.again (k+1) (.of rfl) ?_ ?_)))))))
  ·exact⟨by omega,aR,bh.ch ac (by simp;omega),aQ.cast (by rw[<-digestTo_succ hh k (by omega)];apply Array.ext';simp)⟩
  first|omega|(simp only[];omega)
 have aS:k=32:=by omega
 subst aS
 refine WC.exit (E.thenX (E.thenX (E.blkH (E.thenN (Sr (Wr (.loadAll ag30 (by simp[hdl]) rfl (b)) rfl ?_))))))
 refine W.ef0 rfl rfl (Ef.storeAll sz30 (by simp[hdl]) rfl rfl (b) (by simp) (all_u8v _) ?_)
 intro aT aU aV
 have aW:Le w aT:=Lr.then_ aV (fun q hq=>by cases hq;exact O)
 refine Nx (Rt (E.retC rfl rfl aU ag30 (by simp[hdl]) ?_))
 exact⟨by rw[Hsp.sum,<-hhe];simp[digestTo,List.take_of_length_le,digest_length],aW⟩

set_option maxHeartbeats 1000000 in
theorem tag_ok {A:Option Addr} {n c:Nat} {vs:List Value} {ps:List (List Byte)} (name:ByteArray) (nm:List Byte) (w:World) (hnm:byteCells name=nm.map u8v) (hV:Sl w 1 A n vs) (hP:Parts w vs ps) (hT:(tagBytes nm ps).length<=1099511627776):Calls prog 21 #[.string name,.slice A n c] w fun e w'=>e= .returned (.agg ((tag nm ps).map u8v).toArray)/\Le w w':=by
 have hns:name.size=nm.length:=by have:=congrArg List.length hnm;simpa[byteCells_length]using this
 have hnl:nm.length=name.size:=hns.symm
 have hvl:=hV.1
 have hpl:=hP.1
 have hpn:=tagBytes_parts nm ps
 have hle:=tagTo_le nm ps 0
 rw[tagTo_zero]at hle
 simp[be8_length]at hle
 refine enter func21 rfl rfl ?_
 have J:=Le.refl w
 refine Sr (W.ef rfl rfl rfl (Ef.allocA z30 fun d j K m L=>?_))
 have o:=J.trans L
 have b:Blk j d 30 ((List.replicate 32 0#8).map u8v).toArray:=m
 refine Nx (Sr (Wn 1 rfl (Wr (.lenStr underlying9 rfl) rfl (W.cl go78 rfl rfl (long_ok (xs:=[]) name.size j (Own.empty j w.heap.size 5 1 none) (by omega) (by omega) o.size) ?_))))
 rintro _ s ⟨N,O,rfl,t,u,P⟩
 have x:Le w s:=o.then_ u (fun q hq=>by rw[rowOf_zero]at hq;cases hq)
 have b:=b.ch u (by rw[rowOf_zero];simp)
 have f:rowOf N O≠some d:=fun he=>by have:=P.none he;have:=m.lt;omega
 refine Wn 1 rfl (W.ef rfl rfl rfl (Ef.append underlying26 el5 rfl (t) rfl (Src.ofString s underlying9 name) (by omega) (by unfold maxLen;omega) (x.size) ?_))
 intro y z Q R C S
 have T:Le w Q:=x.then_ C (fun q hq=>(t.row hq).1)
 have f:rowOf y z≠some d:=S.off (by have:=b.lt;omega) f
 have b:=b.ch C (by assumption)
 refine Wn 1 rfl (Nx (Sq (Sr (Wn 1 rfl (Wr (.len underlying157 rfl) rfl (Wn 1 rfl (Nx (WC.block (WC.loop (ι:=Nat×Option Addr×Nat) (fun⟨k,h,i⟩=>[(4,.pointer (some ⟨d,0,none⟩)),(5,.slice h (tagTo nm ps k).length i),(13,.slice A n c),(14,.int .i64 (n:Int)),(15,.int .i64 (k:Int))]) (fun⟨k,h,i⟩ wl=>k<=n/\Le w wl/\Own wl w.heap.size 5 1 h (tagTo nm ps k).length i ((tagTo nm ps k).map u8v)/\Blk wl d 30 ((List.replicate 32 0#8).map u8v).toArray/\rowOf h i≠some d) (fun⟨k,h,i⟩=>n-k) (0,y,z) ?_ ?_ ?_)))))))))
 ·exact .cons rfl (.cons' rfl (slice_eq (by rw[tagTo_zero];simp[be8_length,hnl])) (.of rfl))
 ·exact⟨Nat.zero_le _,T,R.cast (by rw[tagTo_zero];simp[be8_length,hnl]) (by rw[tagTo_zero,hnm];simp[hnl]),b,f⟩
 rintro⟨k,h,i⟩ wl ⟨hk,Ll,ol,b,f⟩
 have hTk:(tagTo nm ps k).length<=1099511627776:=Nat.le_trans (tagTo_le nm ps k) hT
 refine Sr (Wn 1 rfl (Nx (Sq (WC.cond rfl (fun U=>?_) (fun U=>?_)))))
 ·have hkn:k<n:=by omega
  obtain⟨q,hq⟩:∃q,ps[k]? =some q:=⟨_,List.getElem?_eq_getElem (by omega)⟩
  obtain⟨v,hv⟩:∃v,vs[k]? =some v:=⟨_,List.getElem?_eq_getElem (by omega)⟩
  obtain⟨Aq,cq,rfl,V⟩:=hP.2 k v q hv hq
  have hsucc:=tagTo_succ nm ps k q hq
  have an:(tagTo nm ps (k+1)).length<=1099511627776:=Nat.le_trans (tagTo_le nm ps (k+1)) hT
  have hsl:(tagTo nm ps (k+1)).length=(tagTo nm ps k).length+8+q.length:=by rw[hsucc];simp[be8_length];omega
  refine Sn (Sq (WC.block (Sr (Wa (.idxS1 (k) underlying157 sz26 rfl rfl (hV.isSome hkn (by decide)) (rfl) (by omega)) rfl (Wr (.loadS na26 rfl (hV.le Ll) (hv)) rfl (Wn 1 rfl (Nx (WC.region (Wn 2 rfl (Wr (.len underlying26 rfl) rfl (W.cl go78 rfl rfl (long_ok q.length wl ol (by omega) (by omega) Ll.size) ?_)))))))))))
  rintro _ X ⟨Y,Z,rfl,D,F,aa⟩
  have l:Le w X:=Ll.then_ F (fun q hq=>(ol.row hq).1)
  have ne0':rowOf Y Z≠some d:=aa.off (by have:=b.lt;omega) f
  have b:=b.ch F f
  refine Wn 1 rfl (W.ef rfl rfl rfl (Ef.append underlying26 el5 rfl (D) rfl ((V.le l).src underlying26 _) (by omega) (by unfold maxLen;omega) (l.size) ?_))
  intro ab ac ad ae H af
  have ah:Le w ad:=l.then_ H (fun q hq=>(D.row hq).1)
  refine Wn 1 rfl (W.nil (E.blkN (E.thenN (WC.region (Wa (.add rfl rfl (by omega)) rfl (Wn 1 rfl (W.nil (E.again (k+1,ab,ac) (.cons rfl (.cons' rfl (slice_eq (by rw[hsucc];simp[be8_length];omega)) (.of rfl))) ?_ ?_))))))))
  ·exact⟨by omega,ah,ae.cast (by rw[hsucc];simp[be8_length];omega) (by rw[hsucc];simp),b.ch H ne0',af.off (by have:=b.lt;omega) ne0'⟩
  first|omega|(simp only[];omega)
 have hkn:k=n:=by omega
 refine WC.exit (E.thenX (E.thenX (E.blkH (E.thenN (Sr (Wn 1 rfl (W.cl go79 rfl rfl (sum_ok wl ol.sb (by omega) ol.cap.1) ?_)))))))
 rintro _ ao ⟨rfl,I⟩
 have ai:=Ll.trans I
 refine W.ef0 rfl rfl (Ef.storeAll sz30 (by simp[sum_length]) rfl rfl (b.le I) (by simp[sum_length]) (all_u8v _) ?_)
 intro aj ak al
 have am:Le w aj:=ai.then_ al (fun q hq=>by cases hq;exact K)
 refine Nx (Rt (E.retC rfl rfl ak ag30 (by simp[sum_length]) ?_))
 exact⟨by rw[tag,tagTo_all nm ps k (by omega)],am⟩
end Go.Proofs.YtocheaahlpiajaaGreatDoor

namespace Go.Proofs.YtocheaahlpiajaaGreatDoor
open Go Go.Sx Go.Hsp
set_option maxRecDepth 20000
theorem tagLen2 (nm p q:List Byte):(tagBytes nm [p,q]).length=24+nm.length+p.length+q.length:=by simp[tagBytes,be8_length];omega

end Go.Proofs.YtocheaahlpiajaaGreatDoor

