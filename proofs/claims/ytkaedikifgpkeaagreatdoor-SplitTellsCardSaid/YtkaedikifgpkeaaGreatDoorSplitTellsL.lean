/- SplitTells: for every input the law answers true and leaves its arguments as they were. -/
import Derived.Test.YtkaedikifgpkeaaGreatDoorSplitTellsK
import Derived.Test.YtkaedikifgpkeaaGreatDoorProg
import Derived.KernelRfl
set_option linter.unusedVariables false
set_option linter.unusedSimpArgs false
namespace Go.Proofs.YtkaedikifgpkeaaGreatDoor
open Tryz
open Go Go.Sx
theorem mixed:prog.follows .mixedOrders=true:=by kernel_rfl
theorem el2:El prog 2 1 8 (.int .i64 0):=El.mk (by kernel_rfl) (by first|rfl|simp[Value.cells]) (by decide)
theorem z2:Zr prog 2 (.int .i64 0):=el2.zr
theorem Gx:El prog 3 1 8 (.int .i64 0):=El.mk (by kernel_rfl) (by first|rfl|simp[Value.cells]) (by decide)
theorem kR:Sz prog 3 1:=Gx.sz
theorem z3:Zr prog 3 (.int .i64 0):=Gx.zr
theorem gM:jy prog 3:=⟨_,underlying3,rfl⟩
theorem el4:El prog 4 1 1 (.bool false):=El.mk (by kernel_rfl) (by first|rfl|simp[Value.cells]) (by decide)
theorem U5:Sz prog 4 1:=el4.sz
theorem z4:Zr prog 4 (.bool false):=el4.zr
theorem ZU:jy prog 4:=⟨_,underlying4,rfl⟩
theorem vF:El prog 5 1 1 (.int .u8 0):=El.mk (by kernel_rfl) (by first|rfl|simp[Value.cells]) (by decide)
theorem xE:Sz prog 5 1:=vF.sz
theorem z5:Zr prog 5 (.int .u8 0):=vF.zr
theorem Tg:jy prog 5:=⟨_,underlying5,rfl⟩
theorem el9:El prog 9 1 16 (.string ⟨#[]⟩):=El.mk (by kernel_rfl) (by first|rfl|simp[Value.cells]) (by decide)
theorem z9:Zr prog 9 (.string ⟨#[]⟩):=el9.zr
theorem aaw:El prog 20 1 16 (.nilIface):=El.mk (by kernel_rfl) (by first|rfl|simp[Value.cells]) (by decide)
theorem z20:Zr prog 20 (.nilIface):=aaw.zr
theorem aax:El prog 22 1 24 (.slice none 0 0):=El.mk (by kernel_rfl) (by first|rfl|simp[Value.cells]) (by decide)
theorem H8:Sz prog 22 1:=aax.sz
theorem ni:jy prog 22:=⟨_,underlying22,rfl⟩
theorem XU:El prog 24 1 8 (.int .u64 0):=El.mk (by kernel_rfl) (by first|rfl|simp[Value.cells]) (by decide)
theorem XV:Sz prog 24 1:=XU.sz
theorem z24:Zr prog 24 (.int .u64 0):=XU.zr
theorem Ws:jy prog 24:=⟨_,underlying24,rfl⟩
theorem wB:El prog 25 1 8 (.int .u64 0):=El.mk (by kernel_rfl) (by first|rfl|simp[Value.cells]) (by decide)
theorem H9:Sz prog 25 1:=wB.sz
theorem Ia:jy prog 25:=⟨_,underlying25,rfl⟩
theorem XW:El prog 27 32 32 (.agg (List.replicate 32 (.int .u8 0)).toArray):=El.mk (by kernel_rfl) (by first|rfl|simp[Value.cells]) (by decide)
theorem PO:Sz prog 27 32:=XW.sz
theorem z27:Zr prog 27 (.agg (List.replicate 32 (.int .u8 0)).toArray):=XW.zr
theorem FJ:kH prog 27 32:=⟨_,underlying27,rfl,PO⟩
theorem aay:El prog 30 1 8 (.pointer none):=El.mk (by kernel_rfl) (by first|rfl|simp[Value.cells]) (by decide)
theorem aaz:Sz prog 30 1:=aay.sz
theorem Ny:jy prog 30:=⟨_,underlying30,rfl⟩
theorem XX:El prog 35 1 24 (.slice none 0 0):=El.mk (by kernel_rfl) (by first|rfl|simp[Value.cells]) (by decide)
theorem FK:Sz prog 35 1:=XX.sz
theorem z35:Zr prog 35 (.slice none 0 0):=XX.zr
theorem jl:jy prog 35:=⟨_,underlying35,rfl⟩
theorem XY:El prog 37 2 48 (.agg #[.slice none 0 0,.slice none 0 0]):=El.mk (by kernel_rfl) (by first|rfl|simp[Value.cells]) (by decide)
theorem gV:Sz prog 37 2:=XY.sz
theorem z37:Zr prog 37 (.agg #[.slice none 0 0,.slice none 0 0]):=XY.zr
theorem gQ:kH prog 37 2:=⟨_,underlying37,rfl,gV⟩
theorem aaA:El prog 46 1 8 (.nilFunc):=El.mk (by kernel_rfl) (by first|rfl|simp[Value.cells]) (by decide)
theorem z46:Zr prog 46 (.nilFunc):=aaA.zr
theorem aaB:El prog 47 1 24 (.slice none 0 0):=El.mk (by kernel_rfl) (by first|rfl|simp[Value.cells]) (by decide)
theorem Nz:Sz prog 47 1:=aaB.sz
theorem NA:jy prog 47:=⟨_,underlying47,rfl⟩
theorem Ti:El prog 50 4 80 (.agg #[.int .i64 0,.slice none 0 0,.slice none 0 0,.slice none 0 0]):=El.mk (by kernel_rfl) (by first|rfl|simp[Value.cells]) (by decide)
theorem rE:Sz prog 50 4:=Ti.sz
theorem z50:Zr prog 50 (.agg #[.int .i64 0,.slice none 0 0,.slice none 0 0,.slice none 0 0]):=Ti.zr
theorem Tj:kH prog 50 4:=⟨_,underlying50,rfl,rE⟩
theorem aaC:El prog 51 1 24 (.slice none 0 0):=El.mk (by kernel_rfl) (by first|rfl|simp[Value.cells]) (by decide)
theorem z51:Zr prog 51 (.slice none 0 0):=aaC.zr
theorem aaD:El prog 53 1 24 (.slice none 0 0):=El.mk (by kernel_rfl) (by first|rfl|simp[Value.cells]) (by decide)
theorem z53:Zr prog 53 (.slice none 0 0):=aaD.zr
theorem aaE:El prog 56 1 24 (.slice none 0 0):=El.mk (by kernel_rfl) (by first|rfl|simp[Value.cells]) (by decide)
theorem NB:Sz prog 56 1:=aaE.sz
theorem XZ:jy prog 56:=⟨_,underlying56,rfl⟩
theorem aaF:El prog 57 1 24 (.slice none 0 0):=El.mk (by kernel_rfl) (by first|rfl|simp[Value.cells]) (by decide)
theorem NC:Sz prog 57 1:=aaF.sz
theorem ND:jy prog 57:=⟨_,underlying57,rfl⟩
theorem Tk:El prog 59 2 48 (.agg #[.slice none 0 0,.slice none 0 0]):=El.mk (by kernel_rfl) (by first|rfl|simp[Value.cells]) (by decide)
theorem FL:Sz prog 59 2:=Tk.sz
theorem z59:Zr prog 59 (.agg #[.slice none 0 0,.slice none 0 0]):=Tk.zr
theorem Kb:kH prog 59 2:=⟨_,underlying59,rfl,FL⟩
theorem Tm:El prog 60 2 48 (.agg #[.slice none 0 0,.slice none 0 0]):=El.mk (by kernel_rfl) (by first|rfl|simp[Value.cells]) (by decide)
theorem FM:Sz prog 60 2:=Tm.sz
theorem z60:Zr prog 60 (.agg #[.slice none 0 0,.slice none 0 0]):=Tm.zr
theorem Kc:kH prog 60 2:=⟨_,underlying60,rfl,FM⟩
theorem X0:El prog 64 5 40 (.agg #[.int .i64 0,.int .i64 0,.int .i64 0,.int .i64 0,.int .i64 0]):=El.mk (by kernel_rfl) (by first|rfl|simp[Value.cells]) (by decide)
theorem Wt:Sz prog 64 5:=X0.sz
theorem z64:Zr prog 64 (.agg #[.int .i64 0,.int .i64 0,.int .i64 0,.int .i64 0,.int .i64 0]):=X0.zr
theorem Ib:kH prog 64 5:=⟨_,underlying64,rfl,Wt⟩
theorem zw:El prog 66 9 72 (.agg (List.replicate 9 (.int .i64 0)).toArray):=El.mk (by kernel_rfl) (by first|rfl|simp[Value.cells]) (by decide)
theorem iI:Sz prog 66 9:=zw.sz
theorem z66:Zr prog 66 (.agg (List.replicate 9 (.int .i64 0)).toArray):=zw.zr
theorem aaG:prog.eqGuardType prog.depth 66=false:=by kernel_rfl
theorem iJ:kH prog 66 9:=⟨_,underlying66,rfl,iI⟩
theorem aaH:El prog 74 3 24 (.agg #[.int .i64 0,.int .i64 0,.int .i64 0]):=El.mk (by kernel_rfl) (by first|rfl|simp[Value.cells]) (by decide)
theorem xF:Sz prog 74 3:=aaH.sz
theorem Tn:El prog 87 4 80 (.agg #[.int .i64 0,.slice none 0 0,.slice none 0 0,.slice none 0 0]):=El.mk (by kernel_rfl) (by first|rfl|simp[Value.cells]) (by decide)
theorem Tp:Sz prog 87 4:=Tn.sz
theorem z87:Zr prog 87 (.agg #[.int .i64 0,.slice none 0 0,.slice none 0 0,.slice none 0 0]):=Tn.zr
theorem PQ:El prog 94 1 8 (.int .u64 0):=El.mk (by kernel_rfl) (by first|rfl|simp[Value.cells]) (by decide)
theorem Ic:Sz prog 94 1:=PQ.sz
theorem Tq:jy prog 94:=⟨_,underlying94,rfl⟩
theorem Ke:El prog 97 1 24 (.slice none 0 0):=El.mk (by kernel_rfl) (by first|rfl|simp[Value.cells]) (by decide)
theorem Wu:Sz prog 97 1:=Ke.sz
theorem Wv:jy prog 97:=⟨_,underlying97,rfl⟩
theorem X3:El prog 100 1 8 (.map none):=El.mk (by kernel_rfl) (by first|rfl|simp[Value.cells]) (by decide)
theorem U6:Sz prog 100 1:=X3.sz
theorem BP:jy prog 100:=⟨_,underlying100,rfl⟩
theorem X4:El prog 102 1 8 (.agg #[.map none]):=El.mk (by kernel_rfl) (by first|rfl|simp[Value.cells]) (by decide)
theorem X5:Zr prog 102 (.agg #[.map none]):=X4.zr
theorem U7:El prog 109 3 24 (.agg #[.int .i64 0,.int .i64 0,.int .i64 0]):=El.mk (by kernel_rfl) (by first|rfl|simp[Value.cells]) (by decide)
theorem vQ:Sz prog 109 3:=U7.sz
theorem z109:Zr prog 109 (.agg #[.int .i64 0,.int .i64 0,.int .i64 0]):=U7.zr
theorem PR:kH prog 109 3:=⟨_,underlying109,rfl,vQ⟩
theorem U8:El prog 112 2 16 (.agg #[.int .i64 0,.int .i64 0]):=El.mk (by kernel_rfl) (by first|rfl|simp[Value.cells]) (by decide)
theorem PS:Sz prog 112 2:=U8.sz
theorem Tt:Zr prog 112 (.agg #[.int .i64 0,.int .i64 0]):=U8.zr
theorem PT:kH prog 112 2:=⟨_,underlying112,rfl,PS⟩
theorem X6:El prog 115 1 24 (.slice none 0 0):=El.mk (by kernel_rfl) (by first|rfl|simp[Value.cells]) (by decide)
theorem PU:Sz prog 115 1:=X6.sz
theorem y8:jy prog 115:=⟨_,underlying115,rfl⟩
theorem X7:El prog 117 1 24 (.agg #[.slice none 0 0]):=El.mk (by kernel_rfl) (by first|rfl|simp[Value.cells]) (by decide)
theorem z117:Zr prog 117 (.agg #[.slice none 0 0]):=X7.zr
theorem U9:El prog 122 4 80 (.agg #[.slice none 0 0,.slice none 0 0,.slice none 0 0,.int .i64 0]):=El.mk (by kernel_rfl) (by first|rfl|simp[Value.cells]) (by decide)
theorem LX:Sz prog 122 4:=U9.sz
theorem Ww:Zr prog 122 (.agg #[.slice none 0 0,.slice none 0 0,.slice none 0 0,.int .i64 0]):=U9.zr
theorem LY:kH prog 122 4:=⟨_,underlying122,rfl,LX⟩
theorem Va:El prog 123 1 8 (.nilFunc):=El.mk (by kernel_rfl) (by first|rfl|simp[Value.cells]) (by decide)
theorem X8:Sz prog 123 1:=Va.sz
theorem aaI:Zr prog 123 (.nilFunc):=Va.zr
theorem Vb:jy prog 123:=⟨_,underlying123,rfl⟩
theorem Vd:El prog 138 5 88 (.agg #[.slice none 0 0,.slice none 0 0,.slice none 0 0,.int .i64 0,.bool false]):=El.mk (by kernel_rfl) (by first|rfl|simp[Value.cells]) (by decide)
theorem BQ:Sz prog 138 5:=Vd.sz
theorem z138:Zr prog 138 (.agg #[.slice none 0 0,.slice none 0 0,.slice none 0 0,.int .i64 0,.bool false]):=Vd.zr
theorem vR:kH prog 138 5:=⟨_,underlying138,rfl,BQ⟩
theorem jH:El prog 143 1 4 (.int .u32 0):=El.mk (by kernel_rfl) (by first|rfl|simp[Value.cells]) (by decide)
theorem fP:Sz prog 143 1:=jH.sz
theorem gP:jy prog 143:=⟨_,underlying143,rfl⟩
theorem X9:El prog 144 8 8 (.agg #[.int .u8 0,.int .u8 0,.int .u8 0,.int .u8 0,.int .u8 0,.int .u8 0,.int .u8 0,.int .u8 0]):=El.mk (by kernel_rfl) (by first|rfl|simp[Value.cells]) (by decide)
theorem aaJ:Zr prog 144 (.agg #[.int .u8 0,.int .u8 0,.int .u8 0,.int .u8 0,.int .u8 0,.int .u8 0,.int .u8 0,.int .u8 0]):=X9.zr
theorem Ep:El prog 173 5 40 (.agg #[.int .i64 0,.int .i64 0,.int .i64 0,.int .i64 0,.int .i64 0]):=El.mk (by kernel_rfl) (by first|rfl|simp[Value.cells]) (by decide)
theorem y9:Sz prog 173 5:=Ep.sz
theorem z173:Zr prog 173 (.agg #[.int .i64 0,.int .i64 0,.int .i64 0,.int .i64 0,.int .i64 0]):=Ep.zr
theorem PV:kH prog 173 5:=⟨_,underlying173,rfl,y9⟩
theorem Ya:El prog 181 12 12 (.agg (List.replicate 12 (.bool false)).toArray):=El.mk (by kernel_rfl) (by first|rfl|simp[Value.cells]) (by decide)
theorem aaK:Zr prog 181 (.agg (List.replicate 12 (.bool false)).toArray):=Ya.zr
theorem Ve:El prog 194 8 32 (.agg #[.int .u32 0,.int .u32 0,.int .u32 0,.int .u32 0,.int .u32 0,.int .u32 0,.int .u32 0,.int .u32 0]):=El.mk (by kernel_rfl) (by first|rfl|simp[Value.cells]) (by decide)
theorem za:Sz prog 194 8:=Ve.sz
theorem z194:Zr prog 194 (.agg #[.int .u32 0,.int .u32 0,.int .u32 0,.int .u32 0,.int .u32 0,.int .u32 0,.int .u32 0,.int .u32 0]):=Ve.zr
theorem Er:kH prog 194 8:=⟨_,underlying194,rfl,za⟩
theorem Yb:El prog 212 1 8 (.nilFunc):=El.mk (by kernel_rfl) (by first|rfl|simp[Value.cells]) (by decide)
theorem z212:Zr prog 212 (.nilFunc):=Yb.zr
theorem Yc:El prog 213 1 16 (.nilIface):=El.mk (by kernel_rfl) (by first|rfl|simp[Value.cells]) (by decide)
theorem z213:Zr prog 213 (.nilIface):=Yc.zr
theorem Vf:El prog 228 64 256 (.agg (List.replicate 64 (.int .u32 0)).toArray):=El.mk (by kernel_rfl) (by first|rfl|simp[Value.cells]) (by decide)
theorem Ie:Sz prog 228 64:=Vf.sz
theorem z228:Zr prog 228 (.agg (List.replicate 64 (.int .u32 0)).toArray):=Vf.zr
theorem PW:kH prog 228 64:=⟨_,underlying228,rfl,Ie⟩
theorem Yd:El prog 232 1 8 (.nilFunc):=El.mk (by kernel_rfl) (by first|rfl|simp[Value.cells]) (by decide)
theorem z232:Zr prog 232 (.nilFunc):=Yd.zr
theorem go4:fK prog 4:=⟨_,func4,rfl,by decide⟩
theorem go5:fK prog 5:=⟨_,func5,rfl,by decide⟩
theorem go6:fK prog 6:=⟨_,func6,rfl,by decide⟩
theorem go7:fK prog 7:=⟨_,func7,rfl,by decide⟩
theorem go8:fK prog 8:=⟨_,func8,rfl,by decide⟩
theorem go9:fK prog 9:=⟨_,func9,rfl,by decide⟩
theorem PX:fK prog 10:=⟨_,func10,rfl,by decide⟩
theorem aaL:fK prog 11:=⟨_,func11,rfl,by decide⟩
theorem Ye:fK prog 12:=⟨_,func12,rfl,by decide⟩
theorem Yf:fK prog 13:=⟨_,func13,rfl,by decide⟩
theorem Tu:fK prog 14:=⟨_,func14,rfl,by decide⟩
theorem PY:fK prog 15:=⟨_,func15,rfl,by decide⟩
theorem Yg:fK prog 16:=⟨_,func16,rfl,by decide⟩
theorem Yh:fK prog 17:=⟨_,func17,rfl,by decide⟩
theorem aaM:fK prog 18:=⟨_,func18,rfl,by decide⟩
theorem aaN:fK prog 19:=⟨_,func19,rfl,by decide⟩
theorem aaO:fK prog 20:=⟨_,func20,rfl,by decide⟩
theorem Yi:fK prog 21:=⟨_,func21,rfl,by decide⟩
theorem Yj:fK prog 22:=⟨_,func22,rfl,by decide⟩
theorem Yk:fK prog 23:=⟨_,func23,rfl,by decide⟩
theorem aaP:fK prog 24:=⟨_,func24,rfl,by decide⟩
theorem Yl:fK prog 25:=⟨_,func25,rfl,by decide⟩
theorem aaQ:fK prog 26:=⟨_,func26,rfl,by decide⟩
theorem Ym:fK prog 27:=⟨_,func27,rfl,by decide⟩
theorem aaR:fK prog 28:=⟨_,func28,rfl,by decide⟩
theorem aaS:fK prog 29:=⟨_,func29,rfl,by decide⟩
theorem Yn:fK prog 30:=⟨_,func30,rfl,by decide⟩
theorem Yo:fK prog 31:=⟨_,func31,rfl,by decide⟩
theorem aaT:fK prog 32:=⟨_,func32,rfl,by decide⟩
theorem Wx:fK prog 33:=⟨_,func33,rfl,by decide⟩
theorem Yp:fK prog 34:=⟨_,func34,rfl,by decide⟩
theorem Yq:fK prog 35:=⟨_,func35,rfl,by decide⟩
theorem aaU:fK prog 36:=⟨_,func36,rfl,by decide⟩
theorem Wz:fK prog 37:=⟨_,func37,rfl,by decide⟩
theorem Yr:fK prog 38:=⟨_,func38,rfl,by decide⟩
theorem aaV:fK prog 39:=⟨_,func39,rfl,by decide⟩
theorem Tv:fK prog 40:=⟨_,func40,rfl,by decide⟩
theorem Yt:fK prog 41:=⟨_,func41,rfl,by decide⟩
theorem aaW:fK prog 42:=⟨_,func42,rfl,by decide⟩
theorem WA:fK prog 43:=⟨_,func43,rfl,by decide⟩
theorem WB:fK prog 44:=⟨_,func44,rfl,by decide⟩
theorem WE:fK prog 45:=⟨_,func45,rfl,by decide⟩
theorem aaX:fK prog 46:=⟨_,func46,rfl,by decide⟩
theorem Yu:fK prog 47:=⟨_,func47,rfl,by decide⟩
theorem aaY:fK prog 48:=⟨_,func48,rfl,by decide⟩
theorem aaZ:fK prog 49:=⟨_,func49,rfl,by decide⟩
theorem Yv:fK prog 50:=⟨_,func50,rfl,by decide⟩
theorem WG:fK prog 51:=⟨_,func51,rfl,by decide⟩
theorem aa0:fK prog 52:=⟨_,func52,rfl,by decide⟩
theorem aa1:fK prog 53:=⟨_,func53,rfl,by decide⟩
theorem Yw:fK prog 54:=⟨_,func54,rfl,by decide⟩
theorem WH:fK prog 55:=⟨_,func55,rfl,by decide⟩
theorem PZ:fK prog 56:=⟨_,func56,rfl,by decide⟩
theorem NF:fK prog 57:=⟨_,func57,rfl,by decide⟩
theorem WJ:fK prog 58:=⟨_,func58,rfl,by decide⟩
theorem WK:fK prog 59:=⟨_,func59,rfl,by decide⟩
theorem WL:fK prog 60:=⟨_,func60,rfl,by decide⟩
theorem P5:fK prog 61:=⟨_,func61,rfl,by decide⟩
theorem Kg:fK prog 62:=⟨_,func62,rfl,by decide⟩
theorem WM:fK prog 63:=⟨_,func63,rfl,by decide⟩
theorem WN:fK prog 64:=⟨_,func64,rfl,by decide⟩
theorem P6:fK prog 65:=⟨_,func65,rfl,by decide⟩
theorem Tw:fK prog 66:=⟨_,func66,rfl,by decide⟩
theorem aa2:fK prog 67:=⟨_,func67,rfl,by decide⟩
theorem Tx:fK prog 68:=⟨_,func68,rfl,by decide⟩
theorem Yx:fK prog 69:=⟨_,func69,rfl,by decide⟩
theorem aa3:fK prog 70:=⟨_,func70,rfl,by decide⟩
theorem aa4:fK prog 71:=⟨_,func71,rfl,by decide⟩
theorem aa5:fK prog 72:=⟨_,func72,rfl,by decide⟩
theorem aa6:fK prog 73:=⟨_,func73,rfl,by decide⟩
theorem aa7:fK prog 74:=⟨_,func74,rfl,by decide⟩
theorem aa8:fK prog 75:=⟨_,func75,rfl,by decide⟩
theorem aa9:fK prog 76:=⟨_,func76,rfl,by decide⟩
theorem Yy:fK prog 77:=⟨_,func77,rfl,by decide⟩
theorem Ty:fK prog 78:=⟨_,func78,rfl,by decide⟩
theorem aba:fK prog 79:=⟨_,func79,rfl,by decide⟩
theorem Ig:fK prog 80:=⟨_,func80,rfl,by decide⟩
theorem abb:fK prog 81:=⟨_,func81,rfl,by decide⟩
theorem Yz:fK prog 82:=⟨_,func82,rfl,by decide⟩
theorem WO:fK prog 83:=⟨_,func83,rfl,by decide⟩
theorem Kh:fK prog 84:=⟨_,func84,rfl,by decide⟩
theorem abd:fK prog 85:=⟨_,func85,rfl,by decide⟩
theorem YA:fK prog 86:=⟨_,func86,rfl,by decide⟩
theorem abe:fK prog 87:=⟨_,func87,rfl,by decide⟩
theorem YB:fK prog 88:=⟨_,func88,rfl,by decide⟩
theorem P7:fK prog 89:=⟨_,func89,rfl,by decide⟩
theorem YC:fK prog 90:=⟨_,func90,rfl,by decide⟩
theorem Ih:fK prog 91:=⟨_,func91,rfl,by decide⟩
theorem abf:fK prog 92:=⟨_,func92,rfl,by decide⟩
theorem YD:fK prog 93:=⟨_,func93,rfl,by decide⟩
theorem abg:fK prog 94:=⟨_,func94,rfl,by decide⟩
theorem Tz:fK prog 95:=⟨_,func95,rfl,by decide⟩
theorem TA:fK prog 96:=⟨_,func96,rfl,by decide⟩
theorem abh:fK prog 97:=⟨_,func97,rfl,by decide⟩
theorem TB:fK prog 98:=⟨_,func98,rfl,by decide⟩
theorem YE:fK prog 99:=⟨_,func99,rfl,by decide⟩
theorem Vg:fK prog 100:=⟨_,func100,rfl,by decide⟩
theorem YF:fK prog 101:=⟨_,func101,rfl,by decide⟩
theorem LZ:fK prog 102:=⟨_,func102,rfl,by decide⟩
theorem YG:fK prog 103:=⟨_,func103,rfl,by decide⟩
theorem YH:fK prog 104:=⟨_,func104,rfl,by decide⟩
theorem P8:fK prog 105:=⟨_,func105,rfl,by decide⟩
theorem YI:fK prog 106:=⟨_,func106,rfl,by decide⟩
theorem P9:fK prog 107:=⟨_,func107,rfl,by decide⟩
theorem Vh:fK prog 108:=⟨_,func108,rfl,by decide⟩
theorem YJ:fK prog 109:=⟨_,func109,rfl,by decide⟩
theorem YK:fK prog 110:=⟨_,func110,rfl,by decide⟩
theorem Ma:fK prog 111:=⟨_,func111,rfl,by decide⟩
theorem YL:fK prog 112:=⟨_,func112,rfl,by decide⟩
theorem YM:fK prog 113:=⟨_,func113,rfl,by decide⟩
theorem Vi:fK prog 114:=⟨_,func114,rfl,by decide⟩
theorem YN:fK prog 115:=⟨_,func115,rfl,by decide⟩
theorem Vj:fK prog 116:=⟨_,func116,rfl,by decide⟩
theorem sV:fK prog 117:=⟨_,func117,rfl,by decide⟩
theorem Ii:fK prog 118:=⟨_,func118,rfl,by decide⟩
theorem Qa:fK prog 119:=⟨_,func119,rfl,by decide⟩
theorem YO:fK prog 120:=⟨_,func120,rfl,by decide⟩
theorem Qb:fK prog 121:=⟨_,func121,rfl,by decide⟩
theorem YP:fK prog 122:=⟨_,func122,rfl,by decide⟩
theorem YQ:fK prog 123:=⟨_,func123,rfl,by decide⟩
theorem Vk:fK prog 125:=⟨_,func125,rfl,by decide⟩
theorem Vl:fK prog 126:=⟨_,func126,rfl,by decide⟩
theorem Vm:fK prog 127:=⟨_,func127,rfl,by decide⟩
theorem YR:fK prog 128:=⟨_,func128,rfl,by decide⟩
theorem Vn:fK prog 129:=⟨_,func129,rfl,by decide⟩
theorem YS:fK prog 130:=⟨_,func130,rfl,by decide⟩
theorem YT:fK prog 131:=⟨_,func131,rfl,by decide⟩
theorem Vo:fK prog 132:=⟨_,func132,rfl,by decide⟩
theorem YU:fK prog 133:=⟨_,func133,rfl,by decide⟩
theorem YV:fK prog 134:=⟨_,func134,rfl,by decide⟩
theorem YW:fK prog 135:=⟨_,func135,rfl,by decide⟩
theorem Vp:fK prog 137:=⟨_,func137,rfl,by decide⟩
theorem Vq:fK prog 138:=⟨_,func138,rfl,by decide⟩
theorem Ij:fK prog 139:=⟨_,func139,rfl,by decide⟩
theorem YX:fK prog 140:=⟨_,func140,rfl,by decide⟩
theorem Vr:fK prog 141:=⟨_,func141,rfl,by decide⟩
theorem Qc:fK prog 142:=⟨_,func142,rfl,by decide⟩
theorem Vs:fK prog 143:=⟨_,func143,rfl,by decide⟩
theorem YY:fK prog 144:=⟨_,func144,rfl,by decide⟩
theorem YZ:fK prog 145:=⟨_,func145,rfl,by decide⟩
theorem Y0:fK prog 146:=⟨_,func146,rfl,by decide⟩
theorem Vt:fK prog 147:=⟨_,func147,rfl,by decide⟩
theorem Vu:fK prog 148:=⟨_,func148,rfl,by decide⟩
theorem Qd:fK prog 149:=⟨_,func149,rfl,by decide⟩
theorem BR:fK prog 150:=⟨_,func150,rfl,by decide⟩
theorem Y1:fK prog 151:=⟨_,func151,rfl,by decide⟩
theorem Vv:fK prog 152:=⟨_,func152,rfl,by decide⟩
theorem Mc:fK prog 153:=⟨_,func153,rfl,by decide⟩
theorem Vw:fK prog 154:=⟨_,func154,rfl,by decide⟩
theorem sW:fK prog 155:=⟨_,func155,rfl,by decide⟩
theorem oZ:fK prog 156:=⟨_,func156,rfl,by decide⟩
theorem Vx:fK prog 157:=⟨_,func157,rfl,by decide⟩
theorem Vy:fK prog 158:=⟨_,func158,rfl,by decide⟩
theorem Y2:fK prog 159:=⟨_,func159,rfl,by decide⟩
theorem Vz:fK prog 160:=⟨_,func160,rfl,by decide⟩
theorem Y3:fK prog 161:=⟨_,func161,rfl,by decide⟩
theorem VA:fK prog 162:=⟨_,func162,rfl,by decide⟩
theorem Y4:fK prog 163:=⟨_,func163,rfl,by decide⟩
theorem Y5:fK prog 164:=⟨_,func164,rfl,by decide⟩
theorem VB:fK prog 165:=⟨_,func165,rfl,by decide⟩
theorem Qe:fK prog 166:=⟨_,func166,rfl,by decide⟩
theorem Y6:fK prog 167:=⟨_,func167,rfl,by decide⟩
theorem VC:fK prog 168:=⟨_,func168,rfl,by decide⟩
theorem Y7:fK prog 169:=⟨_,func169,rfl,by decide⟩
theorem Qf:fK prog 170:=⟨_,func170,rfl,by decide⟩
theorem Y8:fK prog 171:=⟨_,func171,rfl,by decide⟩
theorem Y9:fK prog 172:=⟨_,func172,rfl,by decide⟩
theorem Za:fK prog 173:=⟨_,func173,rfl,by decide⟩
theorem Qg:fK prog 174:=⟨_,func174,rfl,by decide⟩
theorem Md:fK prog 175:=⟨_,func175,rfl,by decide⟩
theorem Qh:fK prog 176:=⟨_,func176,rfl,by decide⟩
theorem VD:fK prog 177:=⟨_,func177,rfl,by decide⟩
theorem Zb:fK prog 178:=⟨_,func178,rfl,by decide⟩
theorem Zc:fK prog 179:=⟨_,func179,rfl,by decide⟩
theorem Zd:fK prog 180:=⟨_,func180,rfl,by decide⟩
theorem Ze:fK prog 181:=⟨_,func181,rfl,by decide⟩
theorem VE:fK prog 182:=⟨_,func182,rfl,by decide⟩
theorem Zf:fK prog 190:=⟨_,func190,rfl,by decide⟩
theorem Ik:fK prog 191:=⟨_,func191,rfl,by decide⟩
theorem VF:fK prog 192:=⟨_,func192,rfl,by decide⟩
theorem VG:fK prog 193:=⟨_,func193,rfl,by decide⟩
theorem Zg:fK prog 194:=⟨_,func194,rfl,by decide⟩
theorem Zh:fK prog 195:=⟨_,func195,rfl,by decide⟩
theorem Il:fK prog 196:=⟨_,func196,rfl,by decide⟩
theorem Qi:fK prog 197:=⟨_,func197,rfl,by decide⟩
theorem Qj:fK prog 198:=⟨_,func198,rfl,by decide⟩
theorem Zi:fK prog 199:=⟨_,func199,rfl,by decide⟩
theorem VH:fK prog 200:=⟨_,func200,rfl,by decide⟩
theorem Me:fK prog 201:=⟨_,func201,rfl,by decide⟩
theorem Zj:fK prog 202:=⟨_,func202,rfl,by decide⟩
theorem Zk:fK prog 203:=⟨_,func203,rfl,by decide⟩
theorem Zl:fK prog 204:=⟨_,func204,rfl,by decide⟩
theorem vS:fK prog 205:=⟨_,func205,rfl,by decide⟩
theorem Mf:fK prog 206:=⟨_,func206,rfl,by decide⟩
theorem Zm:fK prog 207:=⟨_,func207,rfl,by decide⟩
theorem Zn:fK prog 208:=⟨_,func208,rfl,by decide⟩
theorem vT:fK prog 209:=⟨_,func209,rfl,by decide⟩
theorem Zo:fK prog 210:=⟨_,func210,rfl,by decide⟩
theorem VI:fK prog 213:=⟨_,func213,rfl,by decide⟩
theorem VJ:fK prog 217:=⟨_,func217,rfl,by decide⟩
theorem Zp:fK prog 218:=⟨_,func218,rfl,by decide⟩
theorem Zq:fK prog 225:=⟨_,func225,rfl,by decide⟩
theorem VK:fK prog 227:=⟨_,func227,rfl,by decide⟩
end Go.Proofs.YtkaedikifgpkeaaGreatDoor

namespace Go.Proofs.YtkaedikifgpkeaaGreatDoor
open Tryz
open Go Go.Sx
theorem lW:qf prog 37 0 0:=⟨_,_,_,underlying37,rfl,rfl,FK,by decide⟩
theorem kN:qf prog 37 1 1:=⟨_,_,_,underlying37,rfl,rfl,FK,by decide⟩
theorem jY:JM prog 37 [(0,1),(1,1)]:=⟨_,underlying37,fun w=>by simp[FK.run]⟩
theorem Qk:qf prog 50 0 0:=⟨_,_,_,underlying50,rfl,rfl,kR,by decide⟩
theorem sj:qf prog 50 1 1:=⟨_,_,_,underlying50,rfl,rfl,H8,by decide⟩
theorem Ki:qf prog 50 2 2:=⟨_,_,_,underlying50,rfl,rfl,Nz,by decide⟩
theorem WQ:qf prog 50 3 3:=⟨_,_,_,underlying50,rfl,rfl,Nz,by decide⟩
theorem Zt:JM prog 50 [(0,1),(1,1),(2,1),(3,1)]:=⟨_,underlying50,fun w=>by simp[kR.run,H8.run,Nz.run]⟩
theorem Ql:qf prog 59 0 0:=⟨_,_,_,underlying59,rfl,rfl,NB,by decide⟩
theorem FN:qf prog 59 1 1:=⟨_,_,_,underlying59,rfl,rfl,NC,by decide⟩
theorem TC:JM prog 59 [(0,1),(1,1)]:=⟨_,underlying59,fun w=>by simp[NB.run,NC.run]⟩
theorem Qm:qf prog 60 0 0:=⟨_,_,_,underlying60,rfl,rfl,NB,by decide⟩
theorem FO:qf prog 60 1 1:=⟨_,_,_,underlying60,rfl,rfl,NC,by decide⟩
theorem TD:JM prog 60 [(0,1),(1,1)]:=⟨_,underlying60,fun w=>by simp[NB.run,NC.run]⟩
theorem FP:qf prog 64 0 0:=⟨_,_,_,underlying64,rfl,rfl,kR,by decide⟩
theorem FQ:qf prog 64 1 1:=⟨_,_,_,underlying64,rfl,rfl,kR,by decide⟩
theorem BS:qf prog 64 2 2:=⟨_,_,_,underlying64,rfl,rfl,kR,by decide⟩
theorem yA:qf prog 64 3 3:=⟨_,_,_,underlying64,rfl,rfl,kR,by decide⟩
theorem yB:qf prog 64 4 4:=⟨_,_,_,underlying64,rfl,rfl,kR,by decide⟩
theorem abj:JM prog 64 [(0,1),(1,1),(2,1),(3,1),(4,1)]:=⟨_,underlying64,fun w=>by simp[kR.run]⟩
theorem iX:qf prog 66 0 0:=⟨_,_,_,underlying66,rfl,rfl,kR,by decide⟩
theorem jK:qf prog 66 1 1:=⟨_,_,_,underlying66,rfl,rfl,kR,by decide⟩
theorem iY:qf prog 66 2 2:=⟨_,_,_,underlying66,rfl,rfl,kR,by decide⟩
theorem iF:qf prog 66 3 3:=⟨_,_,_,underlying66,rfl,rfl,kR,by decide⟩
theorem oo:qf prog 66 4 4:=⟨_,_,_,underlying66,rfl,rfl,Wt,by decide⟩
theorem Zu:JM prog 66 [(0,1),(1,1),(2,1),(3,1),(4,5)]:=⟨_,underlying66,fun w=>by simp[kR.run,Wt.run]⟩
theorem uf:qf prog 74 0 0:=⟨_,_,_,underlying74,rfl,rfl,kR,by decide⟩
theorem Qo:qf prog 74 1 1:=⟨_,_,_,underlying74,rfl,rfl,kR,by decide⟩
theorem FR:qf prog 74 2 2:=⟨_,_,_,underlying74,rfl,rfl,kR,by decide⟩
theorem WR:qf prog 87 0 0:=⟨_,_,_,underlying87,rfl,rfl,kR,by decide⟩
theorem WS:qf prog 87 1 1:=⟨_,_,_,underlying87,rfl,rfl,H8,by decide⟩
theorem WT:qf prog 87 2 2:=⟨_,_,_,underlying87,rfl,rfl,Nz,by decide⟩
theorem WU:qf prog 87 3 3:=⟨_,_,_,underlying87,rfl,rfl,Nz,by decide⟩
theorem abk:JM prog 87 [(0,1),(1,1),(2,1),(3,1)]:=⟨_,underlying87,fun w=>by simp[kR.run,H8.run,Nz.run]⟩
theorem su:qf prog 102 0 0:=⟨_,_,_,underlying102,rfl,rfl,U6,by decide⟩
theorem VL:JM prog 102 [(0,1)]:=⟨_,underlying102,fun w=>by simp[U6.run]⟩
theorem pE:qf prog 109 0 0:=⟨_,_,_,underlying109,rfl,rfl,kR,by decide⟩
theorem qK:qf prog 109 1 1:=⟨_,_,_,underlying109,rfl,rfl,kR,by decide⟩
theorem TE:qf prog 109 2 2:=⟨_,_,_,underlying109,rfl,rfl,kR,by decide⟩
theorem Es:JM prog 109 [(0,1),(1,1),(2,1)]:=⟨_,underlying109,fun w=>by simp[kR.run]⟩
theorem VM:JM prog 112 [(0,1),(1,1)]:=⟨_,underlying112,fun w=>by simp[kR.run]⟩
theorem pF:qf prog 117 0 0:=⟨_,_,_,underlying117,rfl,rfl,PU,by decide⟩
theorem VN:JM prog 117 [(0,1)]:=⟨_,underlying117,fun w=>by simp[PU.run]⟩
theorem uO:qf prog 122 0 0:=⟨_,_,_,underlying122,rfl,rfl,H8,by decide⟩
theorem AL:qf prog 122 1 1:=⟨_,_,_,underlying122,rfl,rfl,gV,by decide⟩
theorem Mg:qf prog 122 2 3:=⟨_,_,_,underlying122,rfl,rfl,kR,by decide⟩
theorem Zv:JM prog 122 [(0,1),(1,2),(3,1)]:=⟨_,underlying122,fun w=>by simp[kR.run,H8.run,gV.run]⟩
theorem nQ:qf prog 138 0 0:=⟨_,_,_,underlying138,rfl,rfl,H8,by decide⟩
theorem FT:qf prog 138 1 1:=⟨_,_,_,underlying138,rfl,rfl,gV,by decide⟩
theorem uP:qf prog 138 2 3:=⟨_,_,_,underlying138,rfl,rfl,kR,by decide⟩
theorem Mh:qf prog 138 3 4:=⟨_,_,_,underlying138,rfl,rfl,U5,by decide⟩
theorem Zw:JM prog 138 [(0,1),(1,2),(3,1),(4,1)]:=⟨_,underlying138,fun w=>by simp[kR.run,U5.run,H8.run,gV.run]⟩
theorem Mi:qf prog 173 0 0:=⟨_,_,_,underlying173,rfl,rfl,kR,by decide⟩
theorem Mj:qf prog 173 1 1:=⟨_,_,_,underlying173,rfl,rfl,kR,by decide⟩
theorem TF:qf prog 173 2 2:=⟨_,_,_,underlying173,rfl,rfl,kR,by decide⟩
theorem TG:qf prog 173 3 3:=⟨_,_,_,underlying173,rfl,rfl,kR,by decide⟩
theorem Zx:JM prog 173 [(0,1),(1,1),(2,1),(3,1),(4,1)]:=⟨_,underlying173,fun w=>by simp[kR.run]⟩
end Go.Proofs.YtkaedikifgpkeaaGreatDoor

namespace Go.Proofs.YtkaedikifgpkeaaGreatDoor
open Tryz
open Go Go.Sx Go.oF
set_option maxRecDepth 20000
theorem getD_none {l:List Nat}{j:Nat}(h:l.length<=j):l.getD j 0=0:=by rw[List.getD_eq_getElem?_getD,List.getElem?_eq_none h];rfl
theorem Et (a:Nat)(h:0<(eP a).length):(eP a).getD ((eP a).length-1) 0≠0:=by
  have hne:eP a≠[]:=fun e=>by rw[e]at h;simp at h
  have:=G6 a hne
  rw[List.getLast_eq_getElem]at this
  simpa[List.getD,show(eP a).length-1<(eP a).length by omega]using this
theorem kW (a j:Nat):(eP a).getD j 0<4294967296:=getD_lt (l8 a) j
theorem val_two (n:Nat)(h:n<18446744073709551616):val [n%4294967296,n/4294967296%4294967296]=n:=by
  simp only[val,B]
  omega
theorem WV (n:Nat):∀d∈[n%4294967296,n/4294967296%4294967296],d<B:=fun d hd=>by
  have e:B=4294967296:=rfl
  simp only[List.mem_cons,List.not_mem_nil,or_false]at hd
  omega
theorem AO (n j:Nat):(List.replicate n 0).getD j 0=0:=by
  rw[List.getD_eq_getElem?_getD,List.getElem?_replicate]
  split<;>rfl
theorem BU (n:Nat):∀d∈List.replicate n 0,d<B:=fun d hd=>by rw[(List.mem_replicate.1 hd).2];decide
theorem yC {A:Option Addr}{n c a:Nat}(w:World)(hV:Vec w dv 1 A n (eP a))(hn:n<=1000000):Calls prog 174 #[.slice A n c] w fun r w'=>r= .returned (.bool true)/\Le w w':=by
 have hl:=hV.1
 refine enter func174 rfl rfl ?_
 have b:=Le.refl w
 refine Sr (Wn 1 rfl (Nx (Sr (Wn 1 rfl (Wr (.len underlying35 rfl) rfl (Wn 1 rfl ?_))))))
 by_cases d:((n:Nat):Int)=0
 ·refine Dt d rfl rfl (Wn 9 rfl (Nx (Rt (E.fu rfl rfl ?_))))
  exact⟨rfl,b⟩
 refine Df d rfl rfl (Wn 2 rfl (Wg (.len underlying35 rfl) rfl (Wg (Any.rd (.sub rfl rfl (by omega)) _) rfl (Wg (Any.rd (.fV (n-1) underlying35 fP rfl rfl (hV.isSome fF (by omega)) (by omega) (by omega)) _) rfl (Wg (.jB (v:= .int .u32 ((((eP a).getD (n-1) 0):Nat):Int)) gP rfl (hV.le b) fF (gD (eP a) 0 (by first|omega|(simp only[List.length_cons,List.length_nil];omega))) rfl) rfl ?_)))))
 refine Wg (Any.rd (.dec (.neq rfl rfl) (dT (by have h:=Et a (by omega);rw[hl]at h;omega))) _) rfl ?_
 refine Wn 2 rfl (Nx (Rt (E.fu rfl rfl ?_)))
 exact⟨rfl,b⟩

theorem kr {A:Option Addr}{n c a:Nat}(w:World)(hV:Vec w dv 1 A n (eP a))(hn:n<=1000000):Calls prog 117 #[.slice A n c] w fun r w'=>r= .returned (.slice A n c)/\Le w w':=by
 have hl:=hV.1
 refine enter func117 rfl rfl ?_
 have b:=Le.refl w
 refine Sr (Wn 1 rfl (Nx (Sq (Sr (Wn 1 rfl (W.cl Qg rfl rfl (yC w (hV.le b) (by omega)) ?_))))))
 rintro _ e ⟨rfl,d⟩
 refine Wn 1 rfl (Nx (WC.iD rfl (Sn (Sr (Wn 2 rfl (Nx (Rt (E.fu rfl rfl ?_))))))))
 exact⟨rfl,(b.trans d)⟩

theorem yo {base:Nat}{A:Option Addr}{n c:Nat}{xs:List Nat}(w:World)(hO:eU w base 143 dv 1 A n c xs)(hb:∀d∈xs,d<B)(hn:n<=1000000):Calls prog 139 #[.slice A n c] w fun r w'=>r= .returned (.slice A (eP (val xs)).length c)/\eU w' base 143 dv 1 A (eP (val xs)).length c (eP (val xs))/\Le w w':=by
 have hl:=hO.1
 refine enter func139 rfl rfl (Sr (Wn 1 rfl (Nx (Sr (Wn 1 rfl (Wr (.len underlying35 rfl) rfl (Wn 1 rfl (Nx (Sq (WC.block (WC.loop (ι:=Nat) (fun k=>[(0,.slice A n c),(3,.int .i64 ((k:Nat):Int))]) (fun k f=>(k<=n)/\(∀j,k<=j->xs.getD j 0=0)/\Le w f/\w.heap.size<=f.heap.size/\eU f base 143 dv 1 A n c xs) (fun k=>k) n ?_ ?_ ?_)))))))))))
 ·exact .of rfl
 ·exact⟨Nat.le_refl _,(fun j hj=>getD_none (by omega)),(Le.refl w),Nat.le_refl _,hO⟩
 rintro k f ⟨hk,hz,i,u,b⟩
 refine Sq (Sr (Wn 2 rfl ?_))
 by_cases m:0<((k:Nat):Int)
 ·refine Dt m rfl rfl (Wn 2 rfl (Wg (Any.rd (.sub rfl rfl (by omega)) _) rfl (Wg (Any.rd (.fV (k-1) underlying35 fP rfl rfl (hO.vec.isSome fF (by omega)) (by omega) (by omega)) _) rfl (Wg (.jB (v:= .int .u32 (((xs.getD (k-1) 0):Nat):Int)) gP rfl b.vec fF (gD xs 0 (by omega)) rfl) rfl (Wn 2 rfl (Nx ?_))))))
  by_cases o:(((xs.getD (k-1) 0):Nat):Int)=0
  ·refine Cy rfl (dT o) (Sn (WC.block (WC.region (Wn 1 rfl (Wa (.sub rfl rfl (by omega)) rfl (Wn 1 rfl (W.nil (E.gI (E.again (k-1) (.cons rfl (.cons' rfl (int_eq (by omega)) (.nil _))) ?_ ?_)))))))))
   ·exact⟨by omega,(fun j hj=>by rcases Nat.lt_or_ge j k with h|h;(rw[show j=k-1 by omega];omega);exact hz j h),i,by have:=u;omega,b⟩
   show k-1<k;omega
  refine Cn rfl (dF o) (WC.exit (E.fC (E.fC (E.gW (E.eY (Sr (Wn 2 rfl ?_)))))))
  have y:=b.cap
  have s:=b.front k (by omega) fF
  have z:=s.1
  refine Wa (.zu k underlying35 fP rfl rfl rfl (by omega)) rfl (Wn 1 rfl (Nx (Rt (E.fu rfl rfl ?_))))
  have e:xs.take k=eP (val xs):=uH hb (by omega) hz (fun x=>by first|(exfalso;omega)|omega);have hq:=s;rw[e]at hq;have l:=hq.1;subst l;exact⟨rfl,hq,i⟩
 refine Df m rfl rfl (Wn 7 rfl (Nx (WC.iD rfl (WC.exit (E.fC (E.fC (E.gW (E.eY (Sr (Wn 2 rfl ?_))))))))))
 have C:=b.cap
 have t:=b.front k (by omega) fF
 have D:=t.1
 refine Wa (.zu k underlying35 fP rfl rfl rfl (by omega)) rfl (Wn 1 rfl (Nx (Rt (E.fu rfl rfl ?_))))
 have e:xs.take k=eP (val xs):=uH hb (by omega) hz (fun x=>by first|(exfalso;omega)|omega);have hq:=t;rw[e]at hq;have l:=hq.1;subst l;exact⟨rfl,hq,i⟩

theorem FU (a:Nat)(ha:a<18446744073709551616)(w:World):Calls prog 78 #[.int .u64 ((a:Nat):Int)] w fun r w'=>∃A c,r= .returned (.slice A (eP a).length c)/\eU w' w.heap.size 143 dv 1 A (eP a).length c (eP a)/\Le w w':=by
 refine enter func78 rfl rfl ?_
 have e:=Le.refl w
 refine Sr (Wn 1 rfl (Nx (Sr (Wn 1 rfl (Wr (.toU32 a (lY underlying24) underlying143 rfl rfl) rfl (Wn 1 rfl (Wa (.qW a 32 (a/4294967296) rfl (by first|rfl|omega) rfl rfl (by decide) rfl) rfl ?_)))))))
 refine Wr (.toU32 (a/4294967296) (lY underlying24) underlying143 rfl rfl) rfl (W.ef rfl rfl rfl (Ef.gq (len:=2) [_,_] underlying35 jH rfl (by simp[Value.cells]) rfl (by decide) (by decide) ?_))
 intro f b i d j
 have d:fA b f 143 (([(a%4294967296),((a/4294967296)%4294967296)]).map dv).flatten.toArray:=d
 have k:eU b w.heap.size 143 dv 1 (some ⟨f,0,none⟩) 2 2 ([(a%4294967296),((a/4294967296)%4294967296)]):=d.kL i fF rfl rfl (by decide)
 refine W.cl Ij rfl rfl (by have h:=yo b k (WV a) (by omega);rw[val_two a ha]at h;exact h) ?_
 rintro _ n ⟨rfl,l,m⟩
 refine Wn 1 rfl (Nx (Rt (E.fu rfl rfl ?_)))
 exact⟨_,_,rfl,(l.mono e.size),((e.trans j).trans m)⟩

theorem sw {A A2:Option Addr}{n c m c2 a b:Nat}(w:World)(hV:Vec w dv 1 A n (eP a))(hW:Vec w dv 1 A2 m (eP b))(hn:n<=100000)(hm:m<=100000):Calls prog 84 #[.slice A n c,.slice A2 m c2] w fun r w'=>∃A c,r= .returned (.slice A (eP (a*b)).length c)/\eU w' w.heap.size 143 dv 1 A (eP (a*b)).length c (eP (a*b))/\Le w w':=by
 have hl:=hV.1
 have ah:=hW.1
 have hB:B=4294967296:=rfl
 refine enter func84 rfl rfl ?_
 have J:=Le.refl w
 refine Sr (Wn 1 rfl (Nx (Sr (Wn 1 rfl (W.cl sV rfl rfl (kr w (hV.le J) (by omega)) ?_)))))
 rintro _ X ⟨rfl,K⟩
 have L:=J.trans K
 refine Wn 1 rfl (W.cl sV rfl rfl (kr X (hW.le L) (by omega)) ?_)
 rintro _ u ⟨rfl,N⟩
 have x:=L.trans N
 refine Wn 2 rfl (Nx (Sr (Wn 1 rfl (Wr (.len underlying35 rfl) rfl (Wn 1 rfl (Wr (.len underlying35 rfl) rfl (Wa (.add rfl rfl (by omega)) rfl (W.ef rfl rfl rfl ?_))))))))
 refine Ef.rA 0 (n+m) underlying35 jH fF rfl rfl (by omega) rfl (by omega) (by omega) (by unfold maxLen;omega) ?_
 intro y Y ai z C
 have Z:=x.trans C
 refine Wn 1 rfl (Nx (Sq (Sr (Wn 1 rfl (Wr (.len underlying35 rfl) rfl (Wn 1 rfl (Nx (WC.block (WC.loop (ι:=Nat×(List Nat)) (fun⟨i,out⟩=>[(1,.slice A2 m c2),(5,.slice (some ⟨y,0,none⟩) (n+m) (n+m)),(22,.slice A n c),(23,.int .i64 ((n:Nat):Int)),(24,.int .i64 ((i:Nat):Int))]) (fun⟨i,out⟩ f=>(i<=n)/\(out.length=n+m)/\(∀d∈out,d<B)/\(∀j,i+m<=j->out.getD j 0=0)/\(val out=val ((eP a).take i)*b)/\Le w f/\Y.heap.size<=f.heap.size/\eU f u.heap.size 143 dv 1 (some ⟨y,0,none⟩) (n+m) (n+m) out) (fun⟨i,out⟩=>n-i) (0,(List.replicate (n+m) 0)) ?_ ?_ ?_)))))))))
 ·exact .of rfl
 ·exact⟨Nat.zero_le _,List.length_replicate,BU _,(fun j hj=>AO _ _),by rw[ow,List.take_zero];simp[val],Z,Nat.le_refl _,z⟩
 rintro⟨i,out⟩ f ⟨hi,hol,BA,WW,hov,D,aa,O⟩
 have ab:u.heap.size<=f.heap.size:=by have:=C.size;omega
 refine Sr (Wn 1 rfl (Nx (Sq ?_)))
 by_cases P:((i:Nat):Int)<((n:Nat):Int)
 ·refine Cy rfl (dT P) (Sn (Sq (WC.block (Sr (Wn 1 rfl (Wa (.fV i underlying35 fP rfl rfl (hV.isSome fF (by omega)) rfl (by omega)) rfl (Wr (.jB (v:= .int .u32 ((((eP a).getD i 0):Nat):Int)) gP rfl (hV.le D) fF (gD (eP a) 0 (by first|omega|(simp only[List.length_cons,List.length_nil];omega))) rfl) rfl ?_)))))))
  refine Wn 2 rfl (Nx (Sr (Wn 1 rfl (Nx (Sq (Sr (Wn 1 rfl (Wr (.len underlying35 rfl) rfl (Wn 1 rfl (Nx (WC.block ?_)))))))))))
  refine WC.loop (ι:=Nat×Nat×(List Nat)) (fun⟨k,cy,e⟩=>[(1,.slice A2 m c2),(5,.slice (some ⟨y,0,none⟩) (n+m) (n+m)),(6,.int .i64 ((i:Nat):Int)),(7,.int .u32 ((((eP a).getD i 0):Nat):Int)),(8,.int .u64 ((cy:Nat):Int)),(22,.slice A n c),(23,.int .i64 ((n:Nat):Int)),(24,.int .i64 ((i:Nat):Int)),(29,.slice A2 m c2),(30,.int .i64 ((m:Nat):Int)),(31,.int .i64 ((k:Nat):Int))]) (fun⟨k,cy,e⟩ l=>(k<=m)/\(e.length=n+m)/\(∀d∈e,d<B)/\(∀j,i+m<=j->e.getD j 0=0)/\(val e+B^(i+k)*cy=val ((eP a).take i)*b+B^i*(((eP a).getD i 0)*val ((eP b).take k)))/\(cy<B)/\Le w l/\f.heap.size<=l.heap.size/\eU l u.heap.size 143 dv 1 (some ⟨y,0,none⟩) (n+m) (n+m) e) (fun⟨k,cy,e⟩=>m-k) (0,0,out) ?_ ?_ ?_
  ·exact .of rfl
  ·exact⟨Nat.zero_le _,hol,BA,WW,by simp[val,hov],by decide,D,Nat.le_refl _,O⟩
  rintro⟨k,cy,e⟩ l ⟨hk,Q,F,H,R,hcy,I,S,s⟩
  have aj:u.heap.size<=l.heap.size:=Nat.le_trans ab (by omega)
  refine Sr (Wn 1 rfl (Nx (Sq ?_)))
  by_cases T:((k:Nat):Int)<((m:Nat):Int)
  ·refine Cy rfl (dT T) ?_
   have hx:=kW a i
   have hy:=kW b k
   have ho:=getD_lt F (i+k)
   have hr:=Bp hx hy ho hcy
   have hBB:B*B=18446744073709551616:=by decide
   refine Sn (Sq (WC.block (Sr (Wn 1 rfl (Wa (.fV k underlying35 fP rfl rfl (hW.isSome fF (by omega)) rfl (by omega)) rfl (Wr (.jB (v:= .int .u32 ((((eP b).getD k 0):Nat):Int)) gP rfl (hW.le I) fF (gD (eP b) 0 (by first|omega|(simp only[List.length_cons,List.length_nil];omega))) rfl) rfl ?_))))))
   refine Wn 2 rfl (Nx (Sr (Wn 1 rfl (Wr (.yh (lY underlying143) underlying24 rfl (IntWalk.u64_in _ (by omega))) rfl (Wn 1 rfl (Wr (.yh (lY underlying143) underlying24 rfl (IntWalk.u64_in _ (by omega))) rfl (Wa (.mulN ((eP a).getD i 0) ((eP b).getD k 0) (((eP a).getD i 0)*((eP b).getD k 0)) rfl rfl rfl rfl (by omega)) rfl (Wn 3 rfl ?_))))))))
   refine Wa (.add rfl rfl (by omega)) rfl (Wa (.fV (i+k) underlying35 fP rfl rfl (z.vec.isSome fF (by omega)) (by omega) (by omega)) rfl (Wr (.jB (v:= .int .u32 (((e.getD (i+k) 0):Nat):Int)) gP rfl s.vec fF (gD e 0 (by omega)) rfl) rfl (Wr (.yh (lY underlying143) underlying24 rfl (IntWalk.u64_in _ (by omega))) rfl (Wa (.addN (((eP a).getD i 0)*((eP b).getD k 0)) (e.getD (i+k) 0) ((((eP a).getD i 0)*((eP b).getD k 0))+(e.getD (i+k) 0)) rfl rfl rfl rfl (by omega)) rfl (Wn 1 rfl ?_)))))
   refine Wa (.addN ((((eP a).getD i 0)*((eP b).getD k 0))+(e.getD (i+k) 0)) cy (((((eP a).getD i 0)*((eP b).getD k 0))+(e.getD (i+k) 0))+cy) rfl rfl rfl rfl (by omega)) rfl (Wn 1 rfl (Nx (WC.region (Wn 3 rfl (Wa (.add rfl rfl (by omega)) rfl (Wn 1 rfl (Wr (.toU32 (((((eP a).getD i 0)*((eP b).getD k 0))+(e.getD (i+k) 0))+cy) (lY underlying24) underlying143 rfl rfl) rfl (Wn 1 rfl ?_))))))))
   refine Wa (.qW (((((eP a).getD i 0)*((eP b).getD k 0))+(e.getD (i+k) 0))+cy) 32 ((((((eP a).getD i 0)*((eP b).getD k 0))+(e.getD (i+k) 0))+cy)/4294967296) rfl (by first|rfl|omega) rfl rfl (by decide) rfl) rfl ?_
   refine Wa (.fV (i+k) underlying35 fP rfl rfl (z.vec.isSome fF (by omega)) (by omega) (by omega)) rfl (W.iO rfl rfl (Ef.vE (j:=(i+k)) (o:=0) ((((((eP a).getD i 0)*((eP b).getD k 0))+(e.getD (i+k) 0))+cy)%4294967296) fP rfl (by omega) rfl s fF (gD e 0 (by omega)) (by decide) rfl rfl fun ak ac U=>(Wn 1 rfl (W.nil (E.gI (E.eY (WC.region (Wa (.add rfl rfl (by omega)) rfl (Wn 1 rfl (W.nil ?_))))))))))
   refine E.again (k+1,((((((eP a).getD i 0)*((eP b).getD k 0))+(e.getD (i+k) 0))+cy)/4294967296),(e.set (i+k) ((((((eP a).getD i 0)*((eP b).getD k 0))+(e.getD (i+k) 0))+cy)%4294967296))) (.of rfl) ?_ ?_
   ·exact⟨by omega,by simp[Q],vY F (Nat.mod_lt _ (by decide)),(fun j hj=>by rw[List.getD_eq_getElem?_getD,List.getElem?_set_ne (by omega),<-List.getD_eq_getElem?_getD];exact H j (by omega)),by rw[oz (by omega)];exact Bq (by omega) R,by omega,(I.gG U (fun q hq=>Nat.le_trans x.size (s.row hq).1)),by have:=S;have:=U.size;omega,ac⟩
   first|omega|(simp only[];omega)
  refine Cn rfl (dF T) (WC.exit (E.fC (E.fC (E.gW (E.eY (WC.region (Wn 3 rfl (Wr (.len underlying35 rfl) rfl (Wa (.add rfl rfl (by omega)) rfl (Wn 1 rfl (Wr (.toU32 cy (lY underlying24) underlying143 rfl rfl) rfl ?_)))))))))))
  refine Wa (.fV (i+m) underlying35 fP rfl rfl (z.vec.isSome fF (by omega)) (by omega) (by omega)) rfl (W.iO rfl rfl (Ef.vE (j:=(i+m)) (o:=0) (cy%4294967296) fP rfl (by omega) rfl s fF (gD e 0 (by omega)) (by decide) rfl rfl fun al ad V=>?_))
  have L5:=I.gG V (fun q hq=>Nat.le_trans x.size (s.row hq).1)
  refine W.nil (E.gI (E.eY (WC.region (Wa (.add rfl rfl (by omega)) rfl (Wn 1 rfl (W.nil (E.again (i+1,(e.set (i+m) (cy%4294967296))) (.of rfl) ?_ ?_)))))))
  ·exact⟨by omega,by simp[Q],vY F (by omega),(fun j hj=>by rw[List.getD_eq_getElem?_getD,List.getElem?_set_ne (by omega),<-List.getD_eq_getElem?_getD];exact H j (by omega)),by rw[Nat.mod_eq_of_lt (by omega),oz (by omega)];exact Sy (b':=0) (by omega) (H _ (Nat.le_refl _)) (by have t:=R;rw[show k=m by omega,List.take_of_length_le (show(eP b).length<=m by omega),iV]at t;exact t),L5,by have:=aa;have:=V.size;have:=S;have:=K.size;have:=N.size;have:=C.size;omega,ad⟩
  first|omega|(simp only[];omega)
 refine Cn rfl (dF P) (WC.exit (E.fC (E.fC (E.gW (E.eY (Sr (Wn 1 rfl (W.cl Ij rfl rfl (by have h:=yo f O BA (by omega);rw[(by have t:=hov;rw[show i=n by omega,List.take_of_length_le (by omega),iV]at t;exact t:val out=a*b)]at h;exact h) ?_))))))))
 rintro _ am ⟨rfl,ae,af⟩
 refine Wn 1 rfl (Nx (Rt (E.fu rfl rfl ?_)))
 exact⟨_,_,rfl,(ae.mono x.size),(D.trans af)⟩

theorem Im {F:Nat}{oP:Array Value}(pr:Nat->Bool)(hgo:fK prog F)(w:World)(hf:∀(d:Nat) (w1:World),0<d->d<4294967296->Le w w1->Calls prog F (#[.int .u32 ((d:Nat):Int)]++oP) w1 fun r w2=>r= .returned (.bool (pr d))/\Le w1 w2)(h0:pr 0=true):Calls prog 179 #[.func (.func F) #[] oP] w fun r w'=>∃D,r= .returned (.int .u32 ((D:Nat):Int))/\(D<4294967296/\pr D=true/\(D+1=4294967296\/pr (D+1)=false))/\Le w w':=by
 refine enter func179 rfl rfl (Sr (Wn 1 rfl (Nx (Sr (Wn 1 rfl (Nx (Sq (Sr (Wn 1 rfl (Nx (WC.block (WC.loop (ι:=Nat×Nat) (fun⟨i,d⟩=>[(0,.func (.func F) #[] oP),(3,.int .u32 ((d:Nat):Int)),(6,.int .i64 ((i:Nat):Int))]) (fun⟨i,d⟩ b=>(Gr pr i d)/\Le w b/\w.heap.size<=b.heap.size) (fun⟨i,d⟩=>32-i) (0,0) ?_ ?_ ?_))))))))))))
 ·exact .of rfl
 ·exact⟨Gr.zero h0,(Le.refl w),Nat.le_refl _⟩
 rintro⟨i,d⟩ b ⟨hg,c,f⟩
 refine Sr (Wn 1 rfl (Nx (Sq ?_)))
 by_cases h:((i:Nat):Int)<32
 ·refine Cy rfl (dT h) ?_
  have hlt:=hg.lt (by omega)
  refine Sn (Sq (WC.block (Sr (Wn 2 rfl (Nx (Sr (Wn 1 rfl (Wa (.sub rfl rfl (by omega)) rfl (Wa (.U4 (31-i) (2^(31-i)) rfl rfl (by omega) (by omega) rfl) rfl (Wn 1 rfl (Nx (Sr (Wn 3 rfl (Wa (.PG d (2^(31-i)) (d+2^(31-i)) rfl rfl rfl rfl hlt.1 hlt.2.1 (or_bit hlt.2.2.2)) rfl (W.ef rfl rfl rfl ?_)))))))))))))))
  refine Ef.xm hgo rfl rfl rfl (hf (d+2^(31-i)) _ (Nat.add_pos_right _ (Nat.two_pow_pos _)) hlt.2.2.1 c) ?_
  rintro _ l ⟨rfl,e⟩
  refine⟨_,rfl,?_⟩
  have j:=c.trans e
  refine Nx ?_
  by_cases k:(pr (d+2^(31-i)))=true
  ·refine Cy rfl k (WC.region (Wn 2 rfl (Wa (.PG d (2^(31-i)) (d+2^(31-i)) rfl rfl rfl rfl hlt.1 hlt.2.1 (or_bit hlt.2.2.2)) rfl (Wn 1 rfl (W.nil (E.gI (E.eY (WC.region (Wa (.add rfl rfl (by omega)) rfl (Wn 1 rfl (W.nil ?_)))))))))))
   refine E.again (i+1,(d+2^(31-i))) (.of rfl) ?_ ?_
   ·exact⟨hg.aah (by omega) (by first|assumption|simpa using(by assumption:¬pr (d+2^(31-i))=true)),j,by have:=f;have:=e.size;omega⟩
   first|omega|(simp only[];omega)
  refine Cn rfl (Bool.eq_false_iff.2 k) (WC.skip (E.gI (E.eY (WC.region (Wa (.add rfl rfl (by omega)) rfl (Wn 1 rfl (W.nil (E.again (i+1,d) (.of rfl) ?_ ?_))))))))
  ·exact⟨hg.noB (by omega) (by first|assumption|simpa using(by assumption:¬pr (d+2^(31-i))=true)),j,by have:=f;have:=e.size;omega⟩
  first|omega|(simp only[];omega)
 refine Cn rfl (dF h) (WC.exit (E.fC (E.fC (E.gW (E.eY (Sr (Wn 2 rfl (Nx (Rt (E.fu rfl rfl ?_))))))))))
 exact⟨d,rfl,hg.done (by omega),c⟩
end Go.Proofs.YtkaedikifgpkeaaGreatDoor

namespace Go.Proofs.YtkaedikifgpkeaaGreatDoor
open Tryz
open Go Go.Sx Go.wK
set_option maxRecDepth 20000
abbrev zw8:Array Value:=#[.int .u32 0,.int .u32 0,.int .u32 0,.int .u32 0,.int .u32 0,.int .u32 0,.int .u32 0,.int .u32 0]
theorem WX (a b c d e f g h:BitVec 32):∀v∈[iw a,iw b,iw c,iw d,iw e,iw f,iw g,iw h],v.oneCell'=true:=fun v hv=>by
  simp at hv;rcases hv with rfl|rfl|rfl|rfl|rfl|rfl|rfl|rfl<;>rfl
theorem qX (x:BitVec 32)(k:Nat)(w:World)(hk:1<=k/\k<=31):Calls prog 205 #[iw x,.int .i64 (-(k:Int))] w fun e w'=>e= .returned (iw (Ld x k))/\Le w w':=by
 have e:(18446744073709551616-k)&&&31=32-k:=by
  have h:=Nat.and_two_pow_sub_one_eq_mod (18446744073709551616-k) 5
  have b:(2^5-1:Nat)=31:=by decide
  rw[b]at h;rw[h];omega
 refine enter func205 rfl rfl (Sr (Wn 1 rfl (Nx (Sr (Wn 1 rfl (Wr (.qd (i':=((18446744073709551616-k:Nat):Int)) (lY underlying3) underlying154 rfl (by rw[wrap_u64];omega)) rfl ?_))))))
 refine Wa (.XH (18446744073709551616-k) 31 rfl rfl rfl rfl (by omega) (by decide)) rfl (Wn 1 rfl (Nx (Sr (Wn 2 rfl (Wa (.wZ (32-k) rfl rfl (by rw[e]) (by omega)) rfl ?_)))))
 refine Wn 2 rfl (Wa (.aam rfl rfl (by rw[e];omega)) rfl ?_)
 refine Wa (.xc k rfl rfl (by rw[e];omega) (by omega)) rfl ?_
 refine Wa (.BD rfl rfl) rfl (Wn 1 rfl (Nx (Rt (E.jQ rfl rfl ?_))))
 exact⟨rfl,(Le.refl w)⟩

theorem NG {A:Option Addr}{n c:Nat}{xs:List Byte}(w:World)(hS:Sb w A n xs)(hn:4<=n):Calls prog 218 #[.slice A n c] w fun e w'=>e= .returned (iw (Sd xs))/\Le w w':=by
 have hl:=hS.len
 refine enter func218 rfl rfl (WC.sr (W.run 1 rfl (W.nx (WC.seq (WC.draw [0,1,2,3,4,5,6,7,8,9,10,11,12,13,14,15,16,17,18,19,20,21,22] mixed (by kernel_rfl) fun f d=>?_)))))
 have b:=(Le.refl w).trans d
 refine G.run 1 rfl (Ga rfl (.iP 0 underlying97 xE rfl rfl (hS.isSome (by omega)) rfl (by omega)) (Gd rfl (.iK Tg rfl (hS.le b) (Hq xs (by omega))) (Gd rfl (.tY (lY underlying5) underlying143 rfl) (Ga rfl (.wZ 24 rfl rfl rfl (by decide)) (G.run 1 rfl ?_)))))
 refine Ga rfl (.iP 1 underlying97 xE rfl rfl (hS.isSome (by omega)) rfl (by omega)) (Gd rfl (.iK Tg rfl (hS.le b) (Hq xs (by omega))) (Gd rfl (.tY (lY underlying5) underlying143 rfl) (Ga rfl (.wZ 16 rfl rfl rfl (by decide)) (Ga rfl (.BD rfl rfl) (G.run 1 rfl ?_)))))
 refine Ga rfl (.iP 2 underlying97 xE rfl rfl (hS.isSome (by omega)) rfl (by omega)) (Gd rfl (.iK Tg rfl (hS.le b) (Hq xs (by omega))) (Gd rfl (.tY (lY underlying5) underlying143 rfl) (Ga rfl (.wZ 8 rfl rfl rfl (by decide)) (Ga rfl (.BD rfl rfl) (G.run 1 rfl ?_)))))
 refine Ga rfl (.iP 3 underlying97 xE rfl rfl (hS.isSome (by omega)) rfl (by omega)) (Gd rfl (.iK Tg rfl (hS.le b) (Hq xs (by omega))) (Gd rfl (.tY (lY underlying5) underlying143 rfl) (Ga rfl (.BD rfl rfl) (G.run 1 rfl (G.nil (E.eY (WC.ret (E.jQ rfl rfl ?_))))))))
 exact⟨rfl,b⟩

theorem Io {A:Option Addr}{n c:Nat}{b:List Byte}(w:World)(hS:Sb w A n b)(hn:n=64)(hc:n<=c):Calls prog 203 #[.slice A n c] w fun e w'=>e= .returned (.agg ((sched b).map iw).toArray)/\Le w w':=by
 refine enter func203 rfl rfl ?_
 have x:=Le.refl w
 refine Sr (W.ef rfl rfl rfl (Ef.fI z228 fun h ah i y z=>?_))
 have C:=x.trans z
 refine Nx (Sq (Sr (Wn 1 rfl (Nx (WC.block (WC.loop (ι:=Nat) (fun k=>[(0,.slice A n c),(2,.pointer (some ⟨h,0,none⟩)),(8,.int .i64 (k:Int))]) (fun k wl=>k<=64/\Le w wl/\fA wl h 228 (((lC b k)++List.replicate (64-k) 0#32).map iw).toArray) (fun k=>64-k) 0 ?_ ?_ ?_))))))
 ·exact .of rfl
 ·exact⟨by omega,C,y.cast rfl⟩
 rintro k wl ⟨hk,Ll,bl⟩
 have hsl:=kD b k
 refine Sr (Wn 1 rfl (Nx (Sq (WC.cond rfl (fun D=>?_) (fun D=>?_)))))
 ·refine Sn (Sq (WC.block (Sr (Wn 2 rfl (Nx (Sq (Sr (Wn 2 rfl (Nx (WC.cond rfl (fun d=>?_) (fun d=>?_)))))))))))
  ·have d:k<16:=by omega
   refine Sr (Wn 3 rfl (Wa (.mul rfl rfl (by omega)) rfl (Wa (.zt (4*k) underlying97 xE rfl rfl (by omega) (by omega) (by omega)) rfl (W.cl Zp rfl rfl (NG wl ((hS.le Ll).zt c (4*k) (by omega) hc) (by omega)) ?_))))
   rintro _ ai ⟨rfl,l⟩
   have F:=Ll.trans l
   refine Wa (.ja k underlying228 fP rfl rfl rfl (by omega)) rfl (W.iO rfl rfl (Ef.store fP rfl rfl (bl.le l) (by simp;omega) rfl ?_))
   intro H I J
   have K:Le w H:=F.gG J (fun q hq=>by cases hq;exact i)
   refine Nx (WC.exit (E.fC (E.gW (E.eY (WC.region (Wa (.add rfl rfl (by omega)) rfl (Wn 1 rfl (W.nil (E.again (k+1) (.of rfl) ?_ ?_)))))))))
   ·exact⟨by omega,K,I.cast (by rw[Hr iw (lC b k) 0#32 _ 64 k hsl (by omega)];simp[lC,d])⟩
   first|omega|(simp only[];omega)
  have d:¬k<16:=by omega
  refine Sn (Sq (WC.draw [0,1,2,3,4,5,6,7,8,9] mixed (by kernel_rfl) fun L f=>?_))
  have N:=Ll.trans f
  refine Gn 1 rfl (Ga rfl (.sub rfl rfl (by omega)) (Ga rfl (.ja (k-15) underlying228 fP rfl rfl (by omega) (by omega)) (Gd rfl (.fe gP rfl (bl.le f) (LF _ _ _ (by omega))) (Gn 1 rfl (Ga rfl (.sub rfl rfl (by omega)) ?_)))))
  refine Ga rfl (.ja (k-2) underlying228 fP rfl rfl (by omega) (by omega)) (Gd rfl (.fe gP rfl (bl.le f) (LF _ _ _ (by omega))) (Gn 2 rfl (G.nil (E.eY (Sr (Wn 1 rfl (W.cl vS rfl rfl (qX _ 7 L (by omega)) ?_)))))))
  rintro _ O ⟨rfl,m⟩
  have P:=N.trans m
  refine Wn 1 rfl (W.cl vS rfl rfl (qX _ 18 O (by omega)) ?_)
  rintro _ Q ⟨rfl,o⟩
  have R:=P.trans o
  refine Wa (.mq rfl rfl) rfl (Wn 1 rfl (Wa (.xc 3 rfl rfl rfl (by decide)) rfl (Wa (.mq rfl rfl) rfl (Wn 1 rfl (Nx (Sr (Wn 1 rfl (W.cl vS rfl rfl (qX _ 17 Q (by omega)) ?_))))))))
  rintro _ S ⟨rfl,s⟩
  have T:=R.trans s
  refine Wn 1 rfl (W.cl vS rfl rfl (qX _ 19 S (by omega)) ?_)
  rintro _ aj ⟨rfl,t⟩
  have U:=T.trans t
  refine Wa (.mq rfl rfl) rfl (Wn 1 rfl (Wa (.xc 10 rfl rfl rfl (by decide)) rfl (Wa (.mq rfl rfl) rfl (Wn 1 rfl (Nx (WC.draw [0,1,2,3,4,5,6,7,8,9,10,11,12,13,14,15] mixed (by kernel_rfl) ?_))))))
  intro w9 u
  have V:=U.trans u
  have j:=bl.le (f.trans (m.trans (o.trans (s.trans (t.trans u)))))
  refine Gn 2 rfl (Ga rfl (.sub rfl rfl (by omega)) (Ga rfl (.ja (k-16) underlying228 fP rfl rfl (by omega) (by omega)) (Gd rfl (.fe gP rfl j (LF _ _ _ (by omega))) (Gn 1 rfl (Ga rfl (.add32 rfl rfl) ?_)))))
  refine Gn 1 rfl (Ga rfl (.sub rfl rfl (by omega)) (Ga rfl (.ja (k-7) underlying228 fP rfl rfl (by omega) (by omega)) (Gd rfl (.fe gP rfl j (LF _ _ _ (by omega))) (Ga rfl (.add32 rfl rfl) (Gn 1 rfl ?_)))))
  refine Ga rfl (.add32 rfl rfl) (Ga rfl (.ja k underlying228 fP rfl rfl rfl (by omega)) (G.iO rfl rfl rfl rfl (Ef.store fP rfl rfl j (by simp;omega) rfl ?_)))
  intro X Y Z
  have aa:Le w X:=V.gG Z (fun q hq=>by cases hq;exact i)
  refine noT (by kernel_rfl) (G.nil (E.gI (E.eY (WC.region (Wa (.add rfl rfl (by omega)) rfl (Wn 1 rfl (W.nil (E.again (k+1) (.of rfl) ?_ ?_))))))))
  ·exact⟨by omega,aa,Y.cast (by rw[Hr iw (lC b k) 0#32 _ 64 k hsl (by omega)];simp[lC,d,AZ])⟩
  first|omega|(simp only[];omega)
 have ab:k=64:=by omega
 subst ab
 have bl:fA wl h 228 ((sched b).map iw).toArray:=bl.cast (by simp[sched])
 have hsl:(sched b).length=64:=kD b 64
 refine WC.exit (E.fC (E.fC (E.gW (E.eY (Sr (Wr (.fB PW (by simp[hsl]) rfl bl) rfl ?_))))))
 refine W.iO rfl rfl (Ef.storeAll Ie (by simp[hsl]) rfl rfl bl (by simp) (fun v hv=>kI _ v (by simpa using hv)) ?_)
 intro ac ad ae
 have af:Le w ac:=Ll.gG ae (fun q hq=>by cases hq;exact i)
 refine Nx (Rt (E.Ho rfl rfl ad PW (by simp[hsl]) ?_))
 exact⟨rfl,af⟩

theorem Qp (w:World):Calls prog 204 #[] w fun e w'=>e= .returned (.agg (table.map iw).toArray)/\Le w w':=by
 refine enter func204 rfl rfl ?_
 have b:=Le.refl w
 refine Sr (W.ef rfl rfl rfl (Ef.fI z228 fun m n c d f=>?_))
 have h:=b.trans f
 refine Nx (Sr (Wa (.Fs (cells:=(table.map iw).toArray) underlying228 fP z228 rfl (by kernel_rfl)) rfl (W.iO rfl rfl (Ef.storeAll Ie rfl rfl rfl d rfl (fun v hv=>kI _ v (by simpa using hv)) ?_))))
 intro i j k
 have l:Le w i:=h.gG k (fun q hq=>by cases hq;exact c)
 refine Nx (Rt (E.Ho rfl rfl j PW rfl ?_))
 exact⟨rfl,l⟩

theorem Qq (w:World):Calls prog 164 #[] w fun e w'=>e= .returned (.agg (first.map iw).toArray)/\Le w w':=by
 refine enter func164 rfl rfl ?_
 have b:=Le.refl w
 refine Sr (W.ef rfl rfl rfl (Ef.fI z194 fun m n c d f=>?_))
 have h:=b.trans f
 refine Nx (Sr (Wa (.Fs (cells:=(first.map iw).toArray) underlying194 fP z194 rfl (by kernel_rfl)) rfl (W.iO rfl rfl (Ef.storeAll za rfl rfl rfl d rfl (fun v hv=>kI _ v (by simpa using hv)) ?_))))
 intro i j k
 have l:Le w i:=h.gG k (fun q hq=>by cases hq;exact c)
 refine Nx (Rt (E.Ho rfl rfl j Er rfl ?_))
 exact⟨rfl,l⟩

set_option maxHeartbeats 1000000 in
theorem Qr {A:Option Addr} {n c:Nat} {b:List Byte} {h:List Word} (w:World) (hl:h.length=8) (hS:Sb w A n b) (hn:n=64) (hc:n<=c):Calls prog 165 #[.agg (h.map iw).toArray,.slice A n c] w fun e w'=>e= .returned (.agg ((mix h b).map iw).toArray)/\Le w w':=by
 have hsl:(sched b).length=64:=kD b 64
 unfold mix
 refine enter func165 rfl rfl ?_
 have L0:=Le.refl w
 refine Sr (W.ef rfl rfl rfl (Ef.iM rfl fun y a6 a7 u an=>?_))
 have ai:=L0.trans an
 refine W.ef rfl rfl rfl (Ef.fI z194 fun z ao ap R m=>?_)
 have aj:=ai.trans m
 refine Nx (Sr (Wn 1 rfl (W.cl Zk rfl rfl (Io ao (hS.le aj) hn hc) ?_)))
 rintro _ aq ⟨rfl,f⟩
 have ar:=aj.trans f
 refine W.cl Zl rfl rfl (Qp aq) ?_
 rintro _ a8 ⟨rfl,k⟩
 have ak:=ar.trans k
 refine W.ef rfl rfl rfl (Ef.fI z228 fun S a9 au T o=>?_)
 have al:=ak.trans o
 refine W.ef rfl rfl rfl (Ef.fI z228 fun U ba av aw C=>?_)
 have ax:=al.trans C
 refine W.iO rfl rfl (Ef.storeAll Ie (by simp[hsl]) rfl rfl (T.le C) (by simp[hsl]) (fun v hv=>kI _ v (by simpa using hv)) ?_)
 intro ay az D
 have aA:Le w ay:=ax.tb D ak au
 refine W.iO rfl rfl (Ef.storeAll Ie rfl rfl rfl (aw.ch D (by simp;have:=T.lt;omega)) rfl (fun v hv=>kI _ v (by simpa using hv)) ?_)
 intro aB V F
 have X:Le w aB:=aA.tb F al av
 have L:=az.ch F (by simp;have:=T.lt;omega)
 refine Nx (Sr (Wr (.fB Er (by simp[hl]) rfl (((((((u.le m).le f).le k).le o).le C).ch D (by simp;have:=u.lt;have:=m.size;have:=f.size;have:=k.size;omega)).ch F (by simp;have:=u.lt;have:=m.size;have:=f.size;have:=k.size;have:=o.size;omega))) rfl ?_))
 have N:=((((((u.le m).le f).le k).le o).le C).ch D (by simp;have:=u.lt;have:=m.size;have:=f.size;have:=k.size;omega)).ch F (by simp;have:=u.lt;have:=m.size;have:=f.size;have:=k.size;have:=o.size;omega)
 have O:=(((((R.le f).le k).le o).le C).ch D (by simp;have:=R.lt;have:=f.size;have:=k.size;omega)).ch F (by simp;have:=R.lt;have:=f.size;have:=k.size;have:=o.size;omega)
 refine W.ef rfl rfl rfl (Ef.fI z194 fun l bb am aC H=>?_)
 have aE:=X.trans H
 refine W.iO rfl rfl (Ef.storeAll za (by simp[hl]) rfl rfl aC (by simp[hl]) (fun v hv=>kI _ v (by simpa using hv)) ?_)
 intro aF aG I
 have aH:Le w aF:=aE.tb I X am
 have s:=(N.le H).ch I (by simp;have:=N.lt;omega)
 have t:=(O.le H).ch I (by simp;have:=O.lt;omega)
 have P:=(L.le H).ch I (by simp;have:=L.lt;omega)
 have Q:=(V.le H).ch I (by simp;have:=V.lt;omega)
 have n2:y<l:=by have:=N.lt;omega
 have n4:z<l:=by have:=O.lt;omega
 have n5:S<l:=by have:=L.lt;omega
 have n6:U<l:=by have:=V.lt;omega
 have hgv:w.heap.size<=l:=Nat.le_trans X.size am
 clear N O L
 refine Nx (Sq (Sr (Wn 1 rfl (Nx (WC.block (WC.loop (ι:=Nat) (fun i=>[(2,.pointer (some ⟨y,0,none⟩)),(4,.pointer (some ⟨z,0,none⟩)),(5,.pointer (some ⟨S,0,none⟩)),(6,.pointer (some ⟨U,0,none⟩)),(7,.pointer (some ⟨l,0,none⟩)),(18,.int .i64 (i:Int))]) (fun i wl=>i<=64/\Le w wl/\fA wl y 194 (h.map iw).toArray/\fA wl z 194 zw8/\fA wl S 228 ((sched b).map iw).toArray/\fA wl U 228 (table.map iw).toArray/\fA wl l 194 ((jX h (sched b) i).map iw).toArray) (fun i=>64-i) 0 ?_ ?_ ?_))))))
 ·exact .of rfl
 ·exact⟨by omega,aH,s,t,P,Q,aG⟩
 rintro i wl ⟨hi,Ll,s,t,P,Q,bv⟩
 have hvl:=sS h (sched b) hl i
 obtain⟨v,hv⟩:∃v,v=jX h (sched b) i:=⟨_,rfl⟩
 rw[<-hv]at bv hvl
 refine Sr (Wn 1 rfl (Nx (Sq (WC.cond rfl (fun c0=>?_) (fun c0=>?_)))))
 ·refine Sn (Sq (WC.block (Sr (Wn 2 rfl (Nx (Sq (WC.draw [0,1,3,4,7,8,2,5,6,9,10,11] mixed (by kernel_rfl) fun w6 Y=>?_)))))))
  have L6:=Ll.trans Y
  have Z:=bv.le Y
  refine Ga rfl (.ja 4 underlying194 fP rfl rfl rfl (by decide)) (Gd rfl (.fe gP rfl Z (kC _ (by omega))) (Ga rfl (.ja 4 underlying194 fP rfl rfl rfl (by decide)) (Gd rfl (.fe gP rfl Z (kC _ (by omega))) (Ga rfl (.ja 4 underlying194 fP rfl rfl rfl (by decide)) (Gd rfl (.fe gP rfl Z (kC _ (by omega))) ?_)))))
  refine G.ef rfl rfl rfl rfl rfl (Ef.call vS rfl rfl (qX _ 6 w6 (by omega)) ?_)
  rintro _ aI ⟨rfl,aa⟩
  refine⟨_,rfl,?_⟩
  have aJ:=L6.trans aa
  refine⟨fun _=>aa,?_⟩
  refine G.ef rfl rfl rfl rfl rfl (Ef.call vS rfl rfl (qX _ 11 aI (by omega)) ?_)
  rintro _ aK ⟨rfl,ab⟩
  refine⟨_,rfl,?_⟩
  have aL:=aJ.trans ab
  refine⟨fun _=>ab,?_⟩
  refine Ga rfl (.mq rfl rfl) (G.ef rfl rfl rfl rfl rfl (Ef.call vS rfl rfl (qX _ 25 aK (by omega)) ?_))
  rintro _ bc ⟨rfl,ac⟩
  refine⟨_,rfl,?_⟩
  have aM:=aL.trans ac
  refine⟨fun _=>ac,?_⟩
  refine Ga rfl (.mq rfl rfl) (Gn 1 rfl (G.nil (E.eY (Sq (WC.draw [0,1,2,3,4,5,6,7,8,9,10,11,12,13,14,15,16,17,18,19,20,21,22,23,24] mixed (by kernel_rfl) fun w7 d7=>?_)))))
  have LL:=Y.trans (aa.trans (ab.trans (ac.trans d7)))
  have J:=bv.le LL
  refine Ga rfl (.ja 7 underlying194 fP rfl rfl rfl (by decide)) (Gd rfl (.fe gP rfl J (kC _ (by omega))) (Gn 1 rfl (Ga rfl (.add32 rfl rfl) (Ga rfl (.ja 6 underlying194 fP rfl rfl rfl (by decide)) (Gd rfl (.fe gP rfl J (kC _ (by omega))) ?_)))))
  refine Ga rfl (.ja 4 underlying194 fP rfl rfl rfl (by decide)) (Gd rfl (.fe gP rfl J (kC _ (by omega))) (Ga rfl (.ja 5 underlying194 fP rfl rfl rfl (by decide)) (Gd rfl (.fe gP rfl J (kC _ (by omega))) (Ga rfl (.ja 6 underlying194 fP rfl rfl rfl (by decide)) (Gd rfl (.fe gP rfl J (kC _ (by omega))) ?_)))))
  refine Ga rfl (.mq rfl rfl) (Ga rfl (.vL rfl rfl) (Ga rfl (.mq rfl rfl) (Ga rfl (.add32 rfl rfl) (Gn 1 rfl (Ga rfl (.ja i underlying228 fP rfl rfl rfl (by omega)) ?_)))))
  refine Gd rfl (.fe gP rfl (Q.le LL) (kC _ (by show i<64;omega))) ?_
  refine Ga rfl (.add32 rfl rfl) (Gn 1 rfl (Ga rfl (.ja i underlying228 fP rfl rfl rfl (by omega)) (Gd rfl (.fe gP rfl (P.le LL) (kC _ (by rw[hsl];omega))) ?_)))
  refine Ga rfl (.add32 rfl rfl) (Gn 1 rfl (G.nil (E.eY (Sq (WC.draw [0,1,3,4,7,8,2,5,6,9,10,11] mixed (by kernel_rfl) fun w8 d8=>?_)))))
  have L8:=(aM.trans d7).trans d8
  have LL:=LL.trans d8
  have v8:=bv.le LL
  refine Ga rfl (.ja 0 underlying194 fP rfl rfl rfl (by decide)) (Gd rfl (.fe gP rfl v8 (kC _ (by omega))) (Ga rfl (.ja 0 underlying194 fP rfl rfl rfl (by decide)) (Gd rfl (.fe gP rfl v8 (kC _ (by omega))) (Ga rfl (.ja 0 underlying194 fP rfl rfl rfl (by decide)) (Gd rfl (.fe gP rfl v8 (kC _ (by omega))) ?_)))))
  refine G.ef rfl rfl rfl rfl rfl (Ef.call vS rfl rfl (qX _ 2 w8 (by omega)) ?_)
  rintro _ aO ⟨rfl,ad⟩
  refine⟨_,rfl,?_⟩
  have aP:=L8.trans ad
  refine⟨fun _=>ad,?_⟩
  refine G.ef rfl rfl rfl rfl rfl (Ef.call vS rfl rfl (qX _ 13 aO (by omega)) ?_)
  rintro _ aQ ⟨rfl,ae⟩
  refine⟨_,rfl,?_⟩
  have aR:=aP.trans ae
  refine⟨fun _=>ae,?_⟩
  refine Ga rfl (.mq rfl rfl) (G.ef rfl rfl rfl rfl rfl (Ef.call vS rfl rfl (qX _ 22 aQ (by omega)) ?_))
  rintro _ bd ⟨rfl,af⟩
  refine⟨_,rfl,?_⟩
  have aS:=aR.trans af
  refine⟨fun _=>af,?_⟩
  refine Ga rfl (.mq rfl rfl) (Gn 1 rfl (G.nil (E.eY (Sr ?_))))
  have LL:=LL.trans (ad.trans (ae.trans af))
  have d:=bv.le LL
  refine Wa (.ja 0 underlying194 fP rfl rfl rfl (by decide)) rfl (Wr (.fe gP rfl d (kC _ (by omega))) rfl (Wa (.ja 1 underlying194 fP rfl rfl rfl (by decide)) rfl (Wr (.fe gP rfl d (kC _ (by omega))) rfl (Wa (.vL rfl rfl) rfl (Wa (.ja 2 underlying194 fP rfl rfl rfl (by decide)) rfl ?_)))))
  refine Wr (.fe gP rfl d (kC _ (by omega))) rfl (Wa (.ja 0 underlying194 fP rfl rfl rfl (by decide)) rfl (Wr (.fe gP rfl d (kC _ (by omega))) rfl (Wa (.ja 1 underlying194 fP rfl rfl rfl (by decide)) rfl (Wr (.fe gP rfl d (kC _ (by omega))) rfl (Wa (.BD rfl rfl) rfl ?_)))))
  refine Wa (.vL rfl rfl) rfl (Wa (.BD rfl rfl) rfl (Wn 1 rfl (Nx (WC.region (Wn 2 rfl (Wa (.add32 rfl rfl) rfl (Wn 1 rfl (Wa (.add32 rfl rfl) rfl ?_))))))))
  refine Wa (.ja 0 underlying194 fP rfl rfl rfl (by decide)) rfl (Wr (.fe gP rfl d (kC _ (by omega))) rfl (Wa (.ja 1 underlying194 fP rfl rfl rfl (by decide)) rfl (Wr (.fe gP rfl d (kC _ (by omega))) rfl (Wa (.ja 2 underlying194 fP rfl rfl rfl (by decide)) rfl (Wr (.fe gP rfl d (kC _ (by omega))) rfl ?_)))))
  refine Wa (.ja 3 underlying194 fP rfl rfl rfl (by decide)) rfl (Wr (.fe gP rfl d (kC _ (by omega))) rfl (Wn 1 rfl (Wa (.add32 rfl rfl) rfl (Wa (.ja 4 underlying194 fP rfl rfl rfl (by decide)) rfl (Wr (.fe gP rfl d (kC _ (by omega))) rfl ?_)))))
  refine Wa (.ja 5 underlying194 fP rfl rfl rfl (by decide)) rfl (Wr (.fe gP rfl d (kC _ (by omega))) rfl (Wa (.ja 6 underlying194 fP rfl rfl rfl (by decide)) rfl (Wr (.fe gP rfl d (kC _ (by omega))) rfl (Wa (.Ps [_,_,_,_,_,_,_,_] underlying194 fP z194 rfl (WX _ _ _ _ _ _ _ _) rfl rfl) rfl ?_))))
  have e2:=s.le LL
  have e4:=t.le LL
  have e5:=P.le LL
  have e6:=Q.le LL
  refine W.iO rfl rfl (Ef.storeAll za rfl rfl rfl d (by simp[hvl]) (fun v hv=>WX _ _ _ _ _ _ _ _ v (by simpa using hv)) ?_)
  intro aT aU K
  have aV:Le w aT:=aS.gG K (fun q hq=>by cases hq;exact hgv)
  refine W.nil (E.gI (E.eY (WC.region (Wa (.add rfl rfl (by omega)) rfl (Wn 1 rfl (W.nil (E.again (i+1) (.of rfl) ?_ ?_)))))))
  ·exact⟨by omega,aV,e2.ch K (by simp;omega),e4.ch K (by simp;omega),e5.ch K (by simp;omega),e6.ch K (by simp;omega),aU.cast (by rw[jX,<-hv];rfl)⟩
  first|omega|(simp only[];omega)
 rw[hv]at bv hvl
 have aW:i=64:=by omega
 subst aW
 refine WC.exit (E.fC (E.fC (E.gW (E.eY (Sq (Sr (Wn 1 rfl (Nx (WC.block (WC.loop (ι:=Nat) (fun j=>[(2,.pointer (some ⟨y,0,none⟩)),(4,.pointer (some ⟨z,0,none⟩)),(7,.pointer (some ⟨l,0,none⟩)),(104,.int .i64 (j:Int))]) (fun j wm=>j<=8/\Le w wm/\fA wm y 194 (h.map iw).toArray/\fA wm z 194 zw8/\fA wm l 194 ((qE (jX h (sched b) 64) h j).map iw).toArray) (fun j=>8-j) 0 ?_ ?_ ?_))))))))))
 ·exact .of rfl
 ·exact⟨by omega,Ll,s,t,bv.cast (by rw[A7 _ _ hvl])⟩
 rintro j wm ⟨hj,Lm,s,t,bv⟩
 have hal:=lZ (jX h (sched b) 64) h j
 refine Sr (Wn 1 rfl (Nx (Sq (WC.cond rfl (fun c1=>?_) (fun c1=>?_)))))
 ·refine Sn (Sq (WC.block (Sr (Wn 2 rfl (Nx (WC.draw [0,1,2,3,4,5,6,7,8] mixed (by kernel_rfl) fun be x=>?_))))))
  have aX:=Lm.trans x
  refine Gn 1 rfl (Ga rfl (.ja j underlying194 fP rfl rfl rfl (by omega)) (Gd rfl (.fe gP rfl (bv.le x) ((kC _ (by omega)).trans (by rw[GG _ _ _ _ (by omega),if_neg (by omega)]))) ?_))
  refine Gn 1 rfl (Ga rfl (.ja j underlying194 fP rfl rfl rfl (by omega)) (Gd rfl (.fe gP rfl (s.le x) (kC _ (by omega))) (Ga rfl (.add32 rfl rfl) (Ga rfl (.ja j underlying194 fP rfl rfl rfl (by omega)) (G.iO rfl rfl rfl rfl ?_)))))
  refine Ef.store fP rfl rfl (bv.le x) (by simp;omega) rfl ?_
  intro aY aZ ah
  have a0:Le w aY:=aX.gG ah (fun q hq=>by cases hq;exact hgv)
  refine noT (by kernel_rfl) (G.nil (E.gI (E.eY (WC.region (Wa (.add rfl rfl (by omega)) rfl (Wn 1 rfl (W.nil (E.again (j+1) (.of rfl) ?_ ?_))))))))
  ·exact⟨by omega,a0,(s.le x).ch ah (by simp;omega),(t.le x).ch ah (by simp;omega),aZ.cast (by rw[<-A8 _ _ j (by omega)];apply Array.ext';simp)⟩
  first|omega|(simp only[];omega)
 have a1:j=8:=by omega
 subst a1
 refine WC.exit (E.fC (E.fC (E.gW (E.eY (Sr (Wr (.fB Er (by simp[hal]) rfl bv) rfl ?_))))))
 refine W.iO rfl rfl (Ef.storeAll za (by simp[hal]) rfl rfl t (by simp[hal]) (fun v hv=>kI _ v (by simpa using hv)) ?_)
 intro a2 a3 a4
 have a5:Le w a2:=Lm.tb a4 ai ap
 refine Nx (Rt (E.Ho rfl rfl a3 Er (by simp[hal]) ?_))
 exact⟨rfl,a5⟩
end Go.Proofs.YtkaedikifgpkeaaGreatDoor

namespace Go.Proofs.YtkaedikifgpkeaaGreatDoor
open Tryz
open Go Go.Sx Go.wK
set_option maxRecDepth 20000
theorem Qs {A:Option Addr}{n c:Nat}{xs:List Byte}(w:World)(hS:Sb w A n xs)(hn:n<=70368744177664):Calls prog 163 #[.slice A n c] w fun e w'=>∃A' c',e= .returned (.slice A' n c')/\Own w' w.heap.size 5 1 A' n c' (xs.map jM)/\Le w w':=by
 refine enter func163 rfl rfl ?_
 have d:=Le.refl w
 refine Sr (Wn 1 rfl (Nx (Sq (Sr (Wn 1 rfl (Wa (.isNil underlying97 rfl) rfl (Nx (WC.oV rfl (fun f=>?_) (fun f=>?_)))))))))
 ·have hA:A=none:=by simpa using f
  subst hA
  have hl:=hS.len
  have hx:xs=[]:=by cases xs with |nil=>rfl|cons x xs=>exact absurd (hS.isSome (by rw[<-hl];simp)) (by simp)
  subst hx
  have h:n=0:=by simpa using hl.symm
  subst h
  refine Sr (Wn 1 rfl (Nx (Rt (E.eX (E.jQ rfl rfl ?_)))))
  exact⟨none,0,rfl,Own.empty _ _ _ _ _,d⟩
 refine Sn (Sr (W.ef rfl rfl rfl (Ef.kU underlying97 vF fun u i v y j=>?_)))
 have b:=d.trans j
 refine Wn 1 rfl (W.ef rfl rfl rfl (Ef.append underlying97 vF rfl (Own.empty i w.heap.size 5 1 _) rfl ((hS.le b).src underlying97 _) (by omega) (by unfold maxLen;omega) b.size ?_))
 intro k l m o s z
 have t:Le w m:=b.gG s (fun q hq=>by rw[iL]at hq;cases hq)
 refine Wn 1 rfl (Nx (Rt (E.jQ rfl rfl ?_)))
 exact⟨k,l,by rw[Nat.zero_add],o.cast (Nat.zero_add n) (List.nil_append _),t⟩

theorem FV {A:Option Addr}{n c base:Nat}{xs:List Byte}(m:Nat)(w:World)(hO:Own w base 5 1 A n c (xs.map jM))(_hm:m<=9223372036854775807)(hn:n<=70368744177664)(hb:base<=w.heap.size):Calls prog 105 #[.slice A n c,.int .i64 (m:Int)] w fun e w'=>∃A' c',e= .returned (.slice A' (n+8) c')/\Own w' base 5 1 A' (n+8) c' ((xs++wL m).map jM)/\Ch w w' (rowOf A c)/\At w A c A' c':=by
 refine enter func105 rfl rfl (Sr (Wn 1 rfl (Nx (Sq (Sr (Wn 1 rfl (Nx (WC.block (WC.loop (ι:=Nat×Option Addr×Nat) (fun⟨k,b,d⟩=>[(0,.slice b (n+k) d),(1,.int .i64 (m:Int)),(5,.int .i64 (56-8*(k:Int)))]) (fun⟨k,b,d⟩ wl=>k<=8/\Own wl base 5 1 b (n+k) d ((xs++ny m k).map jM)/\Ch w wl (rowOf A c)/\At w A c b d) (fun⟨k,b,d⟩=>8-k) (0,A,c) ?_ ?_ ?_)))))))))
 ·exact .of rfl
 ·exact⟨by omega,hO.cast rfl (by simp[ny]),Ch.refl _ _,At.refl _ _ _⟩
 rintro⟨k,b,d⟩ wl ⟨hk,ol,ZV,atl⟩
 refine Sq (Sr (Wn 2 rfl (Nx (WC.cond rfl (fun h=>?_) (fun h=>?_)))))
 ·refine Sn (Sq (WC.block (WC.region (Wn 3 rfl (Wa (.Nq m (56-8*k) rfl rfl rfl (by omega) (by show 56-8*k<=64;omega)) rfl ?_)))))
  refine Wr (.toU8 (m>>>(56-8*k)) (lY underlying3) underlying5 rfl rfl) rfl (W.ef rfl rfl rfl (Ef.jm underlying97 vF rfl rfl fun v x y i f=>(W.ef rfl rfl rfl (Ef.append underlying97 vF rfl (ol.le f) rfl (i.DN underlying97 rfl) (by omega) (by unfold maxLen;omega) (Nat.le_trans hb (Nat.le_trans ZV.size f.size)) ?_))))
  intro j l z o s t
  refine Wn 1 rfl (W.nil (E.gI (E.eY (WC.region (Wn 1 rfl (Wa (.sub rfl rfl (by omega)) rfl (Wn 1 rfl (W.nil (E.again (k+1,j,l) (.cons rfl (.cons rfl (.cons' rfl (int_eq (by omega)) (.nil _)))) ?_ ?_)))))))))
  ·exact⟨by omega,o.cast rfl (by rw[pV m k (by omega)];simp),(ZV.trans (f.ch _)).gG s (fun q hq=>(atl q hq).symm),atl.trans (Nat.le_trans ZV.size f.size) t⟩
  first|omega|(simp only[];omega)
 have u:k=8:=by omega
 subst u
 refine WC.exit (E.fC (E.fC (E.gW (E.eY (Sr (Wn 2 rfl (Nx (Rt (E.jQ rfl rfl ?_)))))))))
 exact⟨b,d,rfl,ol,ZV,atl⟩

set_option maxHeartbeats 1000000 in
theorem WY {A:Option Addr} {n c:Nat} {xs:List Byte} (w:World) (hS:Sb w A n xs) (hn:n<=35184372088832) (hc:n<=c):Calls prog 106 #[.slice A n c] w fun e w'=>e= .returned (.agg ((sum xs).map jM).toArray)/\Le w w':=by
 have hl:=hS.len
 refine enter func106 rfl rfl ?_
 have L0:=Le.refl w
 refine Sr (W.ef rfl rfl rfl (Ef.fI z27 fun d N O ad ae=>?_))
 have C:=L0.trans ae
 have b:fA N d 27 ((List.replicate 32 0#8).map jM).toArray:=ad
 refine Nx (Sr (Wn 2 rfl (Wr (.len underlying97 rfl) rfl (Wn 1 rfl (Wr (.len underlying97 rfl) rfl (Wa (.rem rfl rfl (by omega)) rfl (Wa (.sub rfl rfl (by omega)) rfl ?_)))))))
 refine Wa (.zt (n-n%64) underlying97 xE rfl rfl (by omega) (by omega) (by omega)) rfl (W.cl Y4 rfl rfl (Qs N ((hS.le C).zt c (n-n%64) (by omega) hc) (by omega)) ?_)
 rintro _ aX ⟨A1,P,rfl,l,D⟩
 have af:=C.trans D
 have Q:=l
 have l:=l.mono C.size
 refine W.ef rfl rfl rfl (Ef.jm underlying97 vF rfl rfl fun aY aZ a0 ah x=>?_)
 have R:=af.trans x
 refine W.ef rfl rfl rfl (Ef.append underlying97 vF rfl (l.le x) rfl (ah.DN underlying97 rfl) (by omega) (by unfold maxLen;omega) R.size ?_)
 intro S T ai aj U ak
 have al:Le w ai:=R.gG U (fun q hq=>(l.row hq).1)
 have m:rowOf S T≠some d:=ak.off (by have:=b.lt;have:=D.size;have:=x.size;omega) (Q.rl (by have:=b.lt;omega))
 have b:=((b.le D).le x).ch U (Q.rl (by have:=b.lt;omega))
 refine Wn 1 rfl (Nx (Sq (WC.block (WC.loop (ι:=Nat×Option Addr×Nat) (fun⟨k,i,h⟩=>[(0,.slice A n c),(2,.pointer (some ⟨d,0,none⟩)),(3,.slice i (n%64+1+k) h)]) (fun⟨k,i,h⟩ wl=>k<=noughts n/\Le w wl/\Own wl w.heap.size 5 1 i (n%64+1+k) h ((xs.drop (n-n%64)++[128]++List.replicate k 0).map jM)/\fA wl d 27 ((List.replicate 32 0#8).map jM).toArray/\rowOf i h≠some d) (fun⟨k,i,h⟩=>64-k) (0,S,T) ?_ ?_ ?_))))
 ·exact .cons rfl (.cons rfl (.cons' rfl (kJ (by omega)) (.nil _)))
 ·exact⟨Nat.zero_le _,al,aj.cast (by omega) (by simp;rfl),b,m⟩
 rintro⟨k,i,h⟩ wl ⟨hk,Ll,ol,b,m⟩
 have a1:noughts n<=63:=by unfold noughts;omega
 refine Sq (Sr (Wn 1 rfl (Wr (.len underlying97 rfl) rfl (Wa (.rem rfl rfl (by omega)) rfl (Wn 1 rfl (Nx (WC.cond rfl (fun c0=>?_) (fun c0=>?_))))))))
 ·refine Sn (WC.block (WC.region (Wn 1 rfl (W.ef rfl rfl rfl (Ef.jm underlying97 vF rfl rfl fun a2 a3 a4 am o=>?_)))))
  have an:=Ll.trans o
  refine W.ef rfl rfl rfl (Ef.append underlying97 vF rfl (ol.le o) rfl (am.DN underlying97 rfl) (by omega) (by unfold maxLen;omega) (Nat.le_trans Ll.size o.size) ?_)
  intro ao ap aq ar V au
  have av:Le w aq:=an.gG V (fun q hq=>(ol.row hq).1)
  refine Wn 1 rfl (W.nil (E.gI (E.again (k+1,ao,ap) (.cons rfl (.cons rfl (.cons' rfl (kJ (by omega)) (.nil _)))) ?_ ?_)))
  ·exact⟨by unfold noughts at*;omega,av,ar.cast (by omega) (by simp[List.replicate_succ'];rfl),(b.le o).ch V m,au.off (by have:=b.lt;have:=o.size;omega) m⟩
  first|omega|(simp only[];omega)
 have hkn:k=noughts n:=by unfold noughts at*;omega
 subst hkn
 refine WC.exit (E.fC (E.fC (E.gW (E.eY (Sr (Wn 2 rfl (Wr (.len underlying97 rfl) rfl (Wa (.mul rfl rfl (by omega)) rfl (W.cl P8 rfl rfl (FV (8*n) wl ol (by omega) (by omega) Ll.size) ?_)))))))))
 rintro _ y ⟨A4,X,rfl,F,Y,a5⟩
 have Z:Le w y:=Ll.gG Y (fun q hq=>(ol.row hq).1)
 have b:=b.ch Y m
 obtain⟨ge,aw,a6,ax,hrow⟩:=F.lit (by omega)
 subst aw
 have hce:=F.cap.1
 have hE:Sb y (some ⟨ge,0,none⟩) (n%64+1+noughts n+8) (tail xs):=F.sb.cast rfl (by simp[tail,hl])
 have htl:=GH xs
 have hlen:=hE.len
 rw[hlen]at htl
 refine Wn 1 rfl (Nx (Sr (W.cl Y5 rfl rfl (Qq y) ?_)))
 rintro _ a7 ⟨rfl,z⟩
 have aa:=Z.trans z
 refine W.ef rfl rfl rfl (Ef.fI z194 fun f a8 ab ay H=>?_)
 have az:=aa.trans H
 refine W.iO rfl rfl (Ef.storeAll za rfl rfl rfl ay rfl (fun v hv=>kI _ v (by simpa using hv)) ?_)
 intro aA aB I
 have aC:Le w aA:=az.tb I aa ab
 have J:y.heap.size<=f:=Nat.le_trans z.size ab
 have a9:d<f:=Nat.lt_of_lt_of_le b.lt J
 have ba:ge<f:=Nat.lt_of_lt_of_le ax J
 have hgh:w.heap.size<=f:=Nat.le_trans Z.size J
 have b:=((b.le z).le H).ch I (by simp;omega)
 have hE:=((hE.le z).le H).ch I (fun q hq=>by cases hq;simp[kT];omega)
 refine Nx (Sq (WC.block (WC.loop (ι:=Option Addr×Nat×Nat×List Byte×List Word) (fun⟨Ab,nb,cb,ys,hh⟩=>[(0,.slice Ab nb cb),(2,.pointer (some ⟨d,0,none⟩)),(3,.slice (some ⟨ge,0,none⟩) (n%64+1+noughts n+8) X),(4,.pointer (some ⟨f,0,none⟩))]) (fun⟨Ab,nb,cb,ys,hh⟩ wp=>Sb w Ab nb ys/\nb<=cb/\hh.length=8/\jG hh ys=jG first xs/\Le w wp/\fA wp f 194 (hh.map iw).toArray/\fA wp d 27 ((List.replicate 32 0#8).map jM).toArray/\Sb wp (some ⟨ge,0,none⟩) (n%64+1+noughts n+8) (tail xs)) (fun⟨Ab,nb,cb,ys,hh⟩=>nb) (A,n,c,xs,first) ?_ ?_ ?_)))
 ·exact .of rfl
 ·exact⟨hS,hc,rfl,rfl,aC,aB,b,hE⟩
 rintro⟨Ab,nb,cb,ys,hh⟩ wp ⟨hb,hcb,R7,hmx,Lp,bh,b,hE⟩
 have hyl:=hb.len
 refine Sq (Sr (Wn 1 rfl (Wr (.len underlying97 rfl) rfl (Wn 1 rfl (Nx (WC.cond rfl (fun P=>?_) (fun P=>?_)))))))
 ·refine Sn (Sq (WC.block (WC.draw [0,1,2,3,4] mixed (by kernel_rfl) fun w8 s=>?_)))
  have L8:=Lp.trans s
  refine Gd rfl (.fB Er (by simp[R7]) rfl (bh.le s)) ?_
  refine Gn 1 rfl (Ga rfl (.zu 64 underlying97 xE rfl rfl rfl (by omega)) (G.ef rfl rfl rfl rfl rfl (Ef.call VB rfl rfl (Qr w8 R7 ((hb.le L8).zu 64 (by omega)) rfl (by omega)) ?_)))
  rintro _ bb ⟨rfl,t⟩
  refine⟨_,rfl,?_⟩
  have aE:=L8.trans t
  refine⟨fun _=>t,?_⟩
  refine G.iO rfl rfl rfl rfl (Ef.storeAll za (by simp[mX]) rfl rfl ((bh.le s).le t) (by simp[mX,R7]) (fun v hv=>kI _ v (by simpa using hv)) ?_)
  intro aF aG K
  have aH:Le w aF:=aE.gG K (fun q hq=>by cases hq;exact hgh)
  refine noT (by kernel_rfl) (G.nil (E.gI (E.eY (WC.region (Wn 1 rfl (Wa (.zt 64 underlying97 xE rfl rfl rfl (by omega) (by omega)) rfl (Wn 1 rfl (W.nil (E.again (pq Ab cb 64 1,nb-64,cb-64,ys.drop 64,mix hh (ys.take 64)) (.of rfl) ?_ ?_)))))))))
  ·exact⟨hb.zt cb 64 (by omega) hcb,by omega,mX _ _,(oC _ _ (by omega)).symm.trans hmx,aH,aG,((b.le s).le t).ch K (by simp;omega),((hE.le s).le t).ch K (fun q hq=>by cases hq;simp[kT];omega)⟩
  first|omega|(simp only[];omega)
 have Zy:hh=jG first xs:=by rw[<-hmx,pW _ _ (by omega)]
 refine WC.exit (E.fC (E.fC (E.gW (E.eY (Sq (WC.block (WC.loop (ι:=Option Addr×Nat×Nat×List Byte×List Word) (fun⟨Ab,nb,cb,ys,hh⟩=>[(2,.pointer (some ⟨d,0,none⟩)),(3,.slice Ab nb cb),(4,.pointer (some ⟨f,0,none⟩))]) (fun⟨Ab,nb,cb,ys,hh⟩ wq=>Sb wq Ab nb ys/\kT Ab=some ge/\nb<=cb/\nb%64=0/\hh.length=8/\jG hh ys=jG (jG first xs) (tail xs)/\Le w wq/\fA wq f 194 (hh.map iw).toArray/\fA wq d 27 ((List.replicate 32 0#8).map jM).toArray) (fun⟨Ab,nb,cb,ys,hh⟩=>nb) (some ⟨ge,0,none⟩,n%64+1+noughts n+8,X,tail xs,hh) ?_ ?_ ?_)))))))
 ·exact .of rfl
 ·exact⟨hE,rfl,hce,htl,R7,by rw[Zy],Lp,bh,b⟩
 rintro⟨Ab,nb,cb,ys,hh⟩ wq ⟨hb,hbe,hcb,bc,R7,hmx,Lq,bh,b⟩
 have hyl:=hb.len
 refine Sq (Sr (Wn 1 rfl (Wr (.len underlying97 rfl) rfl (Wn 1 rfl (Nx (WC.cond rfl (fun h=>?_) (fun h=>?_)))))))
 ·refine Sn (Sq (WC.block (WC.draw [0,1,2,3,4] mixed (by kernel_rfl) fun aI j=>?_)))
  have aJ:=Lq.trans j
  refine Gd rfl (.fB Er (by simp[R7]) rfl (bh.le j)) ?_
  refine Gn 1 rfl (Ga rfl (.zu 64 underlying97 xE rfl rfl rfl (by omega)) (G.ef rfl rfl rfl rfl rfl (Ef.call VB rfl rfl (Qr aI R7 ((hb.le j).zu 64 (by omega)) rfl (by omega)) ?_)))
  rintro _ bd ⟨rfl,u⟩
  refine⟨_,rfl,?_⟩
  have aK:=aJ.trans u
  refine⟨fun _=>u,?_⟩
  refine G.iO rfl rfl rfl rfl (Ef.storeAll za (by simp[mX]) rfl rfl ((bh.le j).le u) (by simp[mX,R7]) (fun v hv=>kI _ v (by simpa using hv)) ?_)
  intro aL aM L
  have aO:Le w aL:=aK.gG L (fun q hq=>by cases hq;exact hgh)
  refine noT (by kernel_rfl) (G.nil (E.gI (E.eY (WC.region (Wn 1 rfl (Wa (.zt 64 underlying97 xE rfl rfl rfl (by omega) (by omega)) rfl (Wn 1 rfl (W.nil (E.again (pq Ab cb 64 1,nb-64,cb-64,ys.drop 64,mix hh (ys.take 64)) (.of rfl) ?_ ?_)))))))))
  ·exact⟨(((hb.le j).le u).ch L (fun q hq=>by cases hq;rw[hbe];simp;omega)).zt cb 64 (by omega) hcb,by rw[JZ,hbe],by omega,by omega,mX _ _,(oC _ _ (by omega)).symm.trans hmx,aO,aM,((b.le j).le u).ch L (by simp;omega)⟩
  first|omega|(simp only[];omega)
 have Zy:hh=jG (jG first xs) (tail xs):=by rw[<-hmx,pW _ _ (by omega)]
 refine WC.exit (E.fC (E.fC (E.gW (E.eY (Sq (Sr (Wn 1 rfl (Nx (WC.block (WC.loop (ι:=Nat) (fun k=>[(2,.pointer (some ⟨d,0,none⟩)),(4,.pointer (some ⟨f,0,none⟩)),(48,.int .i64 (k:Int))]) (fun k wr=>k<=32/\Le w wr/\fA wr f 194 (hh.map iw).toArray/\fA wr d 27 ((nL hh k).map jM).toArray) (fun k=>32-k) 0 ?_ ?_ ?_))))))))))
 ·exact .of rfl
 ·exact⟨by omega,Lq,bh,b⟩
 rintro k wr ⟨hk,Lr,bh,b⟩
 have hdl:=sU hh k hk
 refine Sr (Wn 1 rfl (Nx (Sq (WC.cond rfl (fun c3=>?_) (fun c3=>?_)))))
 ·refine Sn (Sq (WC.block (Sr (Wn 2 rfl (Nx (WC.region (Wn 2 rfl (Wa (.quo rfl rfl (by omega)) rfl (Wa (.ja (k/4) underlying194 fP rfl rfl (by omega) (by omega)) rfl (Wr (.fe gP rfl bh (kC _ (by omega))) rfl (Wn 1 rfl (Wa (.rem rfl rfl (by omega)) rfl ?_))))))))))))
  refine Wa (.mul rfl rfl (by omega)) rfl (Wa (.sub rfl rfl (by omega)) rfl (Wa (.xc (24-8*(k%4)) rfl rfl (by omega) (by omega)) rfl (Wr (.Pp (lY underlying143) underlying5 rfl) rfl (Wa (.ja k underlying27 xE rfl rfl rfl (by omega)) rfl (W.iO rfl rfl ?_)))))
  refine Ef.store xE rfl rfl b (by simp;omega) rfl ?_
  intro aP aQ ac
  have aR:Le w aP:=Lr.gG ac (fun q hq=>by cases hq;exact O)
  refine W.nil (E.gI (E.eY (WC.region (Wa (.add rfl rfl (by omega)) rfl (Wn 1 rfl (W.nil (E.again (k+1) (.of rfl) ?_ ?_)))))))
  ·exact⟨by omega,aR,bh.ch ac (by simp;omega),aQ.cast (by rw[<-vH hh k (by omega)];apply Array.ext';simp)⟩
  first|omega|(simp only[];omega)
 have aS:k=32:=by omega
 subst aS
 refine WC.exit (E.fC (E.fC (E.gW (E.eY (Sr (Wr (.fB FJ (by simp[hdl]) rfl b) rfl ?_))))))
 refine W.iO rfl rfl (Ef.storeAll PO (by simp[hdl]) rfl rfl b (by simp) (uN _) ?_)
 intro aT aU aV
 have aW:Le w aT:=Lr.gG aV (fun q hq=>by cases hq;exact O)
 refine Nx (Rt (E.Ho rfl rfl aU FJ (by simp[hdl]) ?_))
 exact⟨by rw[wK.sum,<-Zy];simp[nL,List.take_of_length_le,mG],aW⟩

set_option maxHeartbeats 1000000 in
theorem Kj {A:Option Addr} {n c:Nat} {vs:List Value} {ps:List (List Byte)} (name:ByteArray) (nm:List Byte) (w:World) (hnm:byteCells name=nm.map jM) (hV:Sl w 1 A n vs) (hP:Parts w vs ps) (hT:(kE nm ps).length<=1099511627776):Calls prog 51 #[.string name,.slice A n c] w fun e w'=>e= .returned (.agg ((tag nm ps).map jM).toArray)/\Le w w':=by
 have hns:name.size=nm.length:=by have:=congrArg List.length hnm;simpa[byteCells_length]using this
 have hnl:nm.length=name.size:=hns.symm
 have hvl:=hV.1
 have hpl:=hP.1
 have hpn:=tL nm ps
 have hle:=qZ nm ps 0
 rw[lI]at hle
 simp[iA]at hle
 refine enter func51 rfl rfl ?_
 have J:=Le.refl w
 refine Sr (W.ef rfl rfl rfl (Ef.fI z27 fun d j K m L=>?_))
 have o:=J.trans L
 have b:fA j d 27 ((List.replicate 32 0#8).map jM).toArray:=m
 refine Nx (Sr (Wn 1 rfl (Wr (.Po underlying9 rfl) rfl (W.cl P8 rfl rfl (FV (xs:=[]) name.size j (Own.empty j w.heap.size 5 1 none) (by omega) (by omega) o.size) ?_))))
 rintro _ s ⟨N,O,rfl,t,u,P⟩
 have x:Le w s:=o.gG u (fun q hq=>by rw[iL]at hq;cases hq)
 have b:=b.ch u (by rw[iL];simp)
 have f:rowOf N O≠some d:=fun he=>by have:=P.none he;have:=m.lt;omega
 refine Wn 1 rfl (W.ef rfl rfl rfl (Ef.append underlying97 vF rfl t rfl (Src.ofString s underlying9 name) (by omega) (by unfold maxLen;omega) x.size ?_))
 intro y z Q R C S
 have T:Le w Q:=x.gG C (fun q hq=>(t.row hq).1)
 have f:rowOf y z≠some d:=S.off (by have:=b.lt;omega) f
 have b:=b.ch C (by assumption)
 refine Wn 1 rfl (Nx (Sq (Sr (Wn 1 rfl (Wr (.len underlying151 rfl) rfl (Wn 1 rfl (Nx (WC.block (WC.loop (ι:=Nat×Option Addr×Nat) (fun⟨k,h,i⟩=>[(4,.pointer (some ⟨d,0,none⟩)),(5,.slice h (lD nm ps k).length i),(13,.slice A n c),(14,.int .i64 (n:Int)),(15,.int .i64 (k:Int))]) (fun⟨k,h,i⟩ wl=>k<=n/\Le w wl/\Own wl w.heap.size 5 1 h (lD nm ps k).length i ((lD nm ps k).map jM)/\fA wl d 27 ((List.replicate 32 0#8).map jM).toArray/\rowOf h i≠some d) (fun⟨k,h,i⟩=>n-k) (0,y,z) ?_ ?_ ?_)))))))))
 ·exact .cons rfl (.cons' rfl (kJ (by rw[lI];simp[iA,hnl])) (.of rfl))
 ·exact⟨Nat.zero_le _,T,R.cast (by rw[lI];simp[iA,hnl]) (by rw[lI,hnm];simp[hnl]),b,f⟩
 rintro⟨k,h,i⟩ wl ⟨hk,Ll,ol,b,f⟩
 have hTk:(lD nm ps k).length<=1099511627776:=Nat.le_trans (qZ nm ps k) hT
 refine Sr (Wn 1 rfl (Nx (Sq (WC.cond rfl (fun U=>?_) (fun U=>?_)))))
 ·have hkn:k<n:=by omega
  obtain⟨q,hq⟩:∃q,ps[k]? =some q:=⟨_,List.getElem?_eq_getElem (by omega)⟩
  obtain⟨v,hv⟩:∃v,vs[k]? =some v:=⟨_,List.getElem?_eq_getElem (by omega)⟩
  obtain⟨Aq,cq,rfl,V⟩:=hP.2 k v q hv hq
  have hsucc:=A9 nm ps k q hq
  have an:(lD nm ps (k+1)).length<=1099511627776:=Nat.le_trans (qZ nm ps (k+1)) hT
  have hsl:(lD nm ps (k+1)).length=(lD nm ps k).length+8+q.length:=by rw[hsucc];simp[iA];omega
  refine Sn (Sq (WC.block (Sr (Wa (.iP k underlying151 Wu rfl rfl (hV.isSome hkn (by decide)) rfl (by omega)) rfl (Wr (.iK Wv rfl (hV.le Ll) hv) rfl (Wn 1 rfl (Nx (WC.region (Wn 2 rfl (Wr (.len underlying97 rfl) rfl (W.cl P8 rfl rfl (FV q.length wl ol (by omega) (by omega) Ll.size) ?_)))))))))))
  rintro _ X ⟨Y,Z,rfl,D,F,aa⟩
  have l:Le w X:=Ll.gG F (fun q hq=>(ol.row hq).1)
  have Zz:rowOf Y Z≠some d:=aa.off (by have:=b.lt;omega) f
  have b:=b.ch F f
  refine Wn 1 rfl (W.ef rfl rfl rfl (Ef.append underlying97 vF rfl D rfl ((V.le l).src underlying97 _) (by omega) (by unfold maxLen;omega) l.size ?_))
  intro ab ac ad ae H af
  have ah:Le w ad:=l.gG H (fun q hq=>(D.row hq).1)
  refine Wn 1 rfl (W.nil (E.gI (E.eY (WC.region (Wa (.add rfl rfl (by omega)) rfl (Wn 1 rfl (W.nil (E.again (k+1,ab,ac) (.cons rfl (.cons' rfl (kJ (by rw[hsucc];simp[iA];omega)) (.of rfl))) ?_ ?_))))))))
  ·exact⟨by omega,ah,ae.cast (by rw[hsucc];simp[iA];omega) (by rw[hsucc];simp),b.ch H Zz,af.off (by have:=b.lt;omega) Zz⟩
  first|omega|(simp only[];omega)
 have hkn:k=n:=by omega
 refine WC.exit (E.fC (E.fC (E.gW (E.eY (Sr (Wn 1 rfl (W.cl YI rfl rfl (WY wl ol.sb (by omega) ol.cap.1) ?_)))))))
 rintro _ ao ⟨rfl,I⟩
 have ai:=Ll.trans I
 refine W.iO rfl rfl (Ef.storeAll PO (by simp[mY]) rfl rfl (b.le I) (by simp[mY]) (uN _) ?_)
 intro aj ak al
 have am:Le w aj:=ai.gG al (fun q hq=>by cases hq;exact K)
 refine Nx (Rt (E.Ho rfl rfl ak FJ (by simp[mY]) ?_))
 exact⟨by rw[tag,DZ nm ps k (by omega)],am⟩
end Go.Proofs.YtkaedikifgpkeaaGreatDoor

namespace Go.Proofs.YtkaedikifgpkeaaGreatDoor
open Go Go.Sx Go.wK
set_option maxRecDepth 20000
theorem xG (nm p q:List Byte):(kE nm [p,q]).length=24+nm.length+p.length+q.length:=by simp[kE,iA];omega
















end Go.Proofs.YtkaedikifgpkeaaGreatDoor

namespace Go.Proofs.YtkaedikifgpkeaaGreatDoor
open Tryz
open Go Go.Sx Go.wK
set_option maxRecDepth 20000
theorem mQ (x:BitVec 32)(k:Nat)(w:World)(hk:1<=k/\k<=31):Calls prog 209 #[iw x,.int .i64 (k:Int)] w fun e w'=>e= .returned (iw (Ld x k))/\Le w w':=by
 refine enter func209 rfl rfl (WC.sr (W.run 1 rfl (W.nx (WC.seq (WC.draw [0,1,2,3,4,5,6,7,8] mixed (by kernel_rfl) fun d b=>?_)))))
 have c:=(Le.refl w).trans b
 refine G.run 2 rfl (Ga rfl (.xc k rfl rfl rfl (by omega)) (G.run 2 rfl (Ga rfl (.sub rfl rfl (by omega)) (Ga rfl (.wZ (32-k) rfl rfl (by omega) (by omega)) (Ga rfl (.BD rfl rfl) ?_)))))
 refine G.run 1 rfl (G.nil (E.eY (WC.ret (E.jQ rfl rfl ?_))))
 exact⟨by rw[O9],c⟩

theorem Kk (w:World):Calls prog 172 #[] w fun e w'=>∃A' c',e= .returned (.slice A' 8 c')/\Own w' w.heap.size 143 1 A' 8 c' (first.map iw)/\Le w w':=by
 refine enter func172 rfl rfl ?_
 have b:=Le.refl w
 refine Sr (Wn 1 rfl (Nx (Sr (W.ef rfl rfl rfl (Ef.jT (first.map iw) underlying35 jH (by kernel_rfl) (kI _) rfl (by decide) (by decide) fun i j c d f=>?_)))))
 have h:=b.trans f
 refine Wn 1 rfl (Nx (Rt (E.jQ rfl rfl ?_)))
 exact⟨_,_,rfl,d.own (s:=1) (n:=8) c rfl (by unfold maxLen;omega),h⟩

theorem Qt (w:World):Calls prog 208 #[] w fun e w'=>∃A' c',e= .returned (.slice A' 64 c')/\Own w' w.heap.size 143 1 A' 64 c' (table.map iw)/\Le w w':=by
 refine enter func208 rfl rfl ?_
 have b:=Le.refl w
 refine Sr (Wn 1 rfl (Nx (Sr (W.ef rfl rfl rfl (Ef.jT (table.map iw) underlying35 jH (by kernel_rfl) (kI _) rfl (by decide) (by decide) fun i j c d f=>?_)))))
 have h:=b.trans f
 refine Wn 1 rfl (Nx (Rt (E.jQ rfl rfl ?_)))
 exact⟨_,_,rfl,d.own (s:=1) (n:=64) c rfl (by unfold maxLen;omega),h⟩

theorem NH {A:Option Addr}{n c:Nat}{b:List Byte}(w:World)(hS:Sb w A n b)(hn:n=64):Calls prog 207 #[.slice A n c] w fun e w'=>∃A' c',e= .returned (.slice A' 64 c')/\Own w' w.heap.size 143 1 A' 64 c' ((sched b).map iw)/\Le w w':=by
 have hbl:=hS.len
 refine enter func207 rfl rfl (Sr (Wn 1 rfl (Nx (Sr (Wn 1 rfl (Nx (Sq (Sr (Wn 1 rfl (Nx (WC.block (WC.loop (ι:=Nat×Option Addr×Nat) (fun⟨k,f,d⟩=>[(0,.slice A n c),(3,.slice f k d),(4,.int .i64 (k:Int))]) (fun⟨k,f,d⟩ wl=>k<=16/\Le w wl/\Own wl w.heap.size 143 1 f k d ((lC b k).map iw)) (fun⟨k,f,d⟩=>16-k) (0,none,0) ?_ ?_ ?_))))))))))))
 ·exact .of rfl
 ·exact⟨by omega,(Le.refl w),Own.empty _ _ _ _ _⟩
 rintro⟨k,f,d⟩ wl ⟨hk,Ll,ol⟩
 refine Sq (Sr (Wn 2 rfl (Nx (WC.cond rfl (fun C=>?_) (fun C=>?_)))))
 ·refine Sn (Sq (WC.block (WC.draw [0,1,2,3,4,5,6,7,8,9,10,11,12,13,14,15,16,17,18,19,20,21,22,23,24,25,26,27,28,29,30,31,32,33,34,35,36] mixed (by kernel_rfl) fun w5 o=>?_)))
  have h:=Ll.trans o
  refine Gn 3 rfl (Ga rfl (.mul rfl rfl (by omega)) (Ga rfl (.iP (4*k) underlying97 xE rfl rfl (hS.isSome (by omega)) (by omega) (by omega)) (Gd rfl (.iK Tg rfl (hS.le h) (Hq b (by omega))) (Gd rfl (.tY (lY underlying5) underlying143 rfl) (Ga rfl (.wZ 24 rfl rfl rfl (by decide)) ?_)))))
  refine Gn 2 rfl (Ga rfl (.mul rfl rfl (by omega)) (Ga rfl (.add rfl rfl (by omega)) (Ga rfl (.iP (4*k+1) underlying97 xE rfl rfl (hS.isSome (by omega)) (by omega) (by omega)) (Gd rfl (.iK Tg rfl (hS.le h) (Hq b (by omega))) (Gd rfl (.tY (lY underlying5) underlying143 rfl) ?_)))))
  refine Ga rfl (.wZ 16 rfl rfl rfl (by decide)) (Ga rfl (.BD rfl rfl) (Gn 2 rfl (Ga rfl (.mul rfl rfl (by omega)) (Ga rfl (.add rfl rfl (by omega)) (Ga rfl (.iP (4*k+2) underlying97 xE rfl rfl (hS.isSome (by omega)) (by omega) (by omega)) ?_)))))
  refine Gd rfl (.iK Tg rfl (hS.le h) (Hq b (by omega))) (Gd rfl (.tY (lY underlying5) underlying143 rfl) (Ga rfl (.wZ 8 rfl rfl rfl (by decide)) (Ga rfl (.BD rfl rfl) (Gn 2 rfl (Ga rfl (.mul rfl rfl (by omega)) ?_)))))
  refine Ga rfl (.add rfl rfl (by omega)) (Ga rfl (.iP (4*k+3) underlying97 xE rfl rfl (hS.isSome (by omega)) (by omega) (by omega)) (Gd rfl (.iK Tg rfl (hS.le h) (Hq b (by omega))) (Gd rfl (.tY (lY underlying5) underlying143 rfl) (Ga rfl (.BD rfl rfl) (G.ef rfl rfl rfl rfl rfl ?_)))))
  refine Ef.jm underlying35 jH rfl rfl fun af ah ai D i=>?_
  have s:=h.trans i
  refine⟨fun _=>i,?_⟩
  refine G.ef rfl rfl rfl rfl rfl (Ef.append underlying35 jH rfl ((ol.le o).le i) rfl (D.DN underlying35 rfl) (by omega) (by unfold maxLen;omega) s.size ?_)
  intro F H I J K aj
  have L:Le w I:=s.gG K (fun q hq=>(ol.row hq).1)
  refine noT (by kernel_rfl) (Gn 1 rfl (G.nil (E.gI (E.eY (WC.region (Wn 1 rfl (Wa (.add rfl rfl (by omega)) rfl (Wn 1 rfl (W.nil (E.again (k+1,F,H) (.of rfl) ?_ ?_))))))))))
  ·exact⟨by omega,L,J.cast rfl (by rw[lC,if_pos (by omega),Nj];simp)⟩
  first|omega|(simp only[];omega)
 have N:k=16:=by omega
 subst N
 refine WC.exit (E.fC (E.fC (E.gW (E.eY (Sq (Sr (Wn 1 rfl (Nx (WC.block (WC.loop (ι:=Nat×Option Addr×Nat) (fun⟨k,f,d⟩=>[(3,.slice f k d),(5,.int .i64 (k:Int))]) (fun⟨k,f,d⟩ wm=>16<=k/\k<=64/\Le w wm/\Own wm w.heap.size 143 1 f k d ((lC b k).map iw)) (fun⟨k,f,d⟩=>64-k) (16,f,d) ?_ ?_ ?_))))))))))
 ·exact .of rfl
 ·exact⟨by omega,by omega,Ll,ol⟩
 rintro⟨k,f,d⟩ wm ⟨ak,hk,Lm,ol⟩
 have hsl:=kD b k
 refine Sq (Sr (Wn 2 rfl (Nx (WC.cond rfl (fun d=>?_) (fun d=>?_)))))
 ·refine Sn (Sq (WC.block (Sr (Wn 2 rfl (Wa (.sub rfl rfl (by omega)) rfl (Wa (.iP (k-15) underlying35 fP rfl rfl (ol.sl.isSome (j:=0) (by omega) (by decide)) (by omega) (by omega)) rfl (Wr (.iK gP rfl ol.sl (mh _ (by omega))) rfl (Wn 1 rfl (Nx (Sr (Wn 2 rfl (Wa (.sub rfl rfl (by omega)) rfl ?_))))))))))))
  refine Wa (.iP (k-2) underlying35 fP rfl rfl (ol.sl.isSome (j:=0) (by omega) (by decide)) (by omega) (by omega)) rfl (Wr (.iK gP rfl ol.sl (mh _ (by omega))) rfl (Wn 1 rfl (Nx (Sr (Wn 1 rfl (W.cl vT rfl rfl (mQ _ 7 wm (by omega)) ?_))))))
  rintro _ O ⟨rfl,t⟩
  have P:=Lm.trans t
  refine Wn 1 rfl (W.cl vT rfl rfl (mQ _ 18 O (by omega)) ?_)
  rintro _ Q ⟨rfl,u⟩
  have R:=P.trans u
  refine Wa (.mq rfl rfl) rfl (Wn 1 rfl (Wa (.xc 3 rfl rfl rfl (by decide)) rfl (Wa (.mq rfl rfl) rfl (Wn 1 rfl (Nx (Sr (Wn 1 rfl (W.cl vT rfl rfl (mQ _ 17 Q (by omega)) ?_))))))))
  rintro _ S ⟨rfl,v⟩
  have T:=R.trans v
  refine Wn 1 rfl (W.cl vT rfl rfl (mQ _ 19 S (by omega)) ?_)
  rintro _ al ⟨rfl,x⟩
  have U:=T.trans x
  refine Wa (.mq rfl rfl) rfl (Wn 1 rfl (Wa (.xc 10 rfl rfl rfl (by decide)) rfl (Wa (.mq rfl rfl) rfl (Wn 1 rfl (Nx (WC.draw [0,1,2,3,4,5,6,7,8,9,10,11,12,13,14,15,16,17,18] mixed (by kernel_rfl) ?_))))))
  intro am y
  have V:=U.trans y
  have l:=ol.le (t.trans (u.trans (v.trans (x.trans y))))
  refine Gn 3 rfl (Ga rfl (.sub rfl rfl (by omega)) (Ga rfl (.iP (k-16) underlying35 fP rfl rfl (ol.sl.isSome (j:=0) (by omega) (by decide)) (by omega) (by omega)) (Gd rfl (.iK gP rfl l.sl (mh _ (by omega))) (Gn 1 rfl (Ga rfl (.add32 rfl rfl) ?_)))))
  refine Gn 2 rfl (Ga rfl (.sub rfl rfl (by omega)) (Ga rfl (.iP (k-7) underlying35 fP rfl rfl (ol.sl.isSome (j:=0) (by omega) (by decide)) (by omega) (by omega)) (Gd rfl (.iK gP rfl l.sl (mh _ (by omega))) (Ga rfl (.add32 rfl rfl) (Gn 1 rfl ?_)))))
  refine Ga rfl (.add32 rfl rfl) (G.ef rfl rfl rfl rfl rfl (Ef.jm underlying35 jH rfl rfl fun an ao ap X m=>?_))
  have z:=V.trans m
  refine⟨fun _=>m,?_⟩
  refine G.ef rfl rfl rfl rfl rfl (Ef.append underlying35 jH rfl (l.le m) rfl (X.DN underlying35 rfl) (by omega) (by unfold maxLen;omega) z.size ?_)
  intro Y Z aa ab ac aq
  have ad:Le w aa:=z.gG ac (fun q hq=>(ol.row hq).1)
  refine noT (by kernel_rfl) (Gn 1 rfl (G.nil (E.gI (E.eY (WC.region (Wn 1 rfl (Wa (.add rfl rfl (by omega)) rfl (Wn 1 rfl (W.nil (E.again (k+1,Y,Z) (.of rfl) ?_ ?_))))))))))
  ·exact⟨by omega,by omega,ad,ab.cast rfl (by rw[lC,if_neg (by omega),AZ];simp)⟩
  first|omega|(simp only[];omega)
 have ae:k=64:=by omega
 subst ae
 refine WC.exit (E.fC (E.fC (E.gW (E.eY (Sr (Wn 2 rfl (Nx (Rt (E.jQ rfl rfl ?_)))))))))
 exact⟨_,_,rfl,ol,Lm⟩

set_option maxHeartbeats 1000000 in
theorem NI {A Ab:Option Addr} {c nb cb:Nat} {b:List Byte} {h:List Word} (w:World) (hl:h.length=8) (hH:Sl w 1 A 8 (h.map iw)) (hS:Sb w Ab nb b) (hn:nb=64):Calls prog 173 #[.slice A 8 c,.slice Ab nb cb] w fun e w'=>∃A' c',e= .returned (.slice A' 8 c')/\Own w' w.heap.size 143 1 A' 8 c' ((mix h b).map iw)/\Le w w':=by
 have hsl:(sched b).length=64:=kD b 64
 unfold mix
 refine enter func173 rfl rfl ?_
 have Q:=Le.refl w
 refine Sr (Wn 1 rfl (Nx (Sr (Wn 1 rfl (W.cl Zm rfl rfl (NH w (hS.le Q) hn) ?_)))))
 rintro _ ad ⟨A5,c5,rfl,o5,ae⟩
 have af:=Q.trans ae
 refine Wn 1 rfl (Nx (Sr (W.cl Zn rfl rfl (Qt ad) ?_)))
 rintro _ aK ⟨A6,c6,rfl,o6,R⟩
 have ah:=af.trans R
 refine Wn 1 rfl (Nx (Sr (W.ef rfl rfl rfl (Ef.kU underlying35 jH fun aL ai aM aO u=>?_))))
 have x:=ah.trans u
 refine Wn 1 rfl (W.ef rfl rfl rfl (Ef.append underlying35 jH rfl (Own.empty ai w.heap.size 143 1 _) rfl ((hH.le x).src underlying35 (by decide) _ (kI _)) (by omega) (by unfold maxLen;omega) x.size ?_))
 intro aj ak S al y aP
 have T:Le w S:=x.gG y (fun q hq=>by rw[iL]at hq;cases hq)
 have U:=((o5.le (R.trans u)).ch y (fun q hq=>by rw[iL]at hq;cases hq)).sl
 have V:=((o6.le u).ch y (fun q hq=>by rw[iL]at hq;cases hq)).sl
 refine Wn 1 rfl (Nx (Sq (Sr (Wn 1 rfl (Nx (WC.block (WC.loop (ι:=Nat×Option Addr×Nat) (fun⟨i,m,f⟩=>[(0,.slice A 8 c),(5,.slice A5 64 c5),(6,.slice A6 64 c6),(7,.slice m 8 f),(8,.int .i64 (i:Int))]) (fun⟨i,m,f⟩ wl=>i<=64/\Le S wl/\Own wl w.heap.size 143 1 m 8 f ((jX h (sched b) i).map iw)) (fun⟨i,m,f⟩=>64-i) (0,aj,ak) ?_ ?_ ?_)))))))
 ·exact .of rfl
 ·exact⟨by omega,Le.refl _,al.cast rfl (List.nil_append _)⟩
 rintro⟨i,m,f⟩ wl ⟨hi,Ll,ov⟩
 have hvl:=sS h (sched b) hl i
 obtain⟨v,hv⟩:∃v,v=jX h (sched b) i:=⟨_,rfl⟩
 rw[<-hv]at ov hvl
 have d:m.isSome=true:=ov.sl.isSome (j:=0) (by omega) (by decide)
 refine Sq (Sr (Wn 2 rfl (Nx (WC.cond rfl (fun c0=>?_) (fun c0=>?_)))))
 ·refine Sn (Sq (WC.block (Sq (WC.draw [0,1,2,4,5,6,9,10,11,3,7,8,12,13,14] mixed (by kernel_rfl) fun w7 z=>?_))))
  have L7:=(T.trans Ll).trans z
  have C:=(ov.le z).sl
  refine Gn 1 rfl (Ga rfl (.iP 4 underlying35 fP rfl rfl d rfl (by decide)) (Gd rfl (.iK gP rfl C (mh _ (by omega))) (Gn 1 rfl (Ga rfl (.iP 4 underlying35 fP rfl rfl d rfl (by decide)) (Gd rfl (.iK gP rfl C (mh _ (by omega))) ?_)))))
  refine Gn 1 rfl (Ga rfl (.iP 4 underlying35 fP rfl rfl d rfl (by decide)) (Gd rfl (.iK gP rfl C (mh _ (by omega))) (G.ef rfl rfl rfl rfl rfl (Ef.call vT rfl rfl (mQ _ 6 w7 (by omega)) ?_))))
  rintro _ am ⟨rfl,D⟩
  refine⟨_,rfl,?_⟩
  have an:=L7.trans D
  refine⟨fun _=>D,?_⟩
  refine G.ef rfl rfl rfl rfl rfl (Ef.call vT rfl rfl (mQ _ 11 am (by omega)) ?_)
  rintro _ ao ⟨rfl,F⟩
  refine⟨_,rfl,?_⟩
  have ap:=an.trans F
  refine⟨fun _=>F,?_⟩
  refine Ga rfl (.mq rfl rfl) (G.ef rfl rfl rfl rfl rfl (Ef.call vT rfl rfl (mQ _ 25 ao (by omega)) ?_))
  rintro _ aQ ⟨rfl,H⟩
  refine⟨_,rfl,?_⟩
  have aq:=ap.trans H
  refine⟨fun _=>H,?_⟩
  refine Ga rfl (.mq rfl rfl) (Gn 1 rfl (G.nil (E.eY (Sq (WC.draw [0,1,2,3,4,5,6,7,8,9,10,11,12,13,14,15,16] mixed (by kernel_rfl) fun w8 X=>?_)))))
  have LL:=z.trans (D.trans (F.trans (H.trans X)))
  have t:=(ov.le LL).sl
  refine Gn 1 rfl (Ga rfl (.iP 4 underlying35 fP rfl rfl d rfl (by decide)) (Gd rfl (.iK gP rfl t (mh _ (by omega))) (Gn 1 rfl (Ga rfl (.iP 5 underlying35 fP rfl rfl d rfl (by decide)) (Gd rfl (.iK gP rfl t (mh _ (by omega))) ?_)))))
  refine Ga rfl (.vL rfl rfl) (Gn 1 rfl (Ga rfl (.iP 4 underlying35 fP rfl rfl d rfl (by decide)) (Gd rfl (.iK gP rfl t (mh _ (by omega))) (Ga rfl (.Pt rfl) (Gn 1 rfl ?_)))))
  refine Ga rfl (.iP 6 underlying35 fP rfl rfl d rfl (by decide)) (Gd rfl (.iK gP rfl t (mh _ (by omega))) (Ga rfl (.vL rfl rfl) (Ga rfl (.mq rfl rfl) (Gn 1 rfl (G.nil (E.eY (Sq (WC.draw [0,1,2,3,4,5,6,7,8,9,10,11,12,13,14,15,16,17] mixed (by kernel_rfl) ?_))))))))
  intro w9 Y
  have LL:=LL.trans Y
  have v9:=(ov.le LL).sl
  refine Gn 1 rfl (Ga rfl (.iP 7 underlying35 fP rfl rfl d rfl (by decide)) (Gd rfl (.iK gP rfl v9 (mh _ (by omega))) (Gn 1 rfl (Ga rfl (.add32 rfl rfl) (Gn 1 rfl ?_)))))
  refine Ga rfl (.add32 rfl rfl) (Gn 2 rfl (Ga rfl (.iP i underlying35 fP rfl rfl (V.isSome (j:=0) (by omega) (by decide)) rfl (by omega)) (Gd rfl (.iK gP rfl (V.le (Ll.trans LL)) (mh _ (by show i<64;omega))) ?_)))
  refine Ga rfl (.add32 rfl rfl) (Gn 2 rfl (Ga rfl (.iP i underlying35 fP rfl rfl (U.isSome (j:=0) (by omega) (by decide)) rfl (by omega)) (Gd rfl (.iK gP rfl (U.le (Ll.trans LL)) (mh _ (by rw[hsl];omega))) ?_)))
  refine Ga rfl (.add32 rfl rfl) (Gn 1 rfl (G.nil (E.eY (Sq (WC.draw [0,1,2,4,5,6,9,10,11,3,7,8,12,13,14] mixed (by kernel_rfl) fun ar Z=>?_)))))
  have au:=((aq.trans X).trans Y).trans Z
  have LL:=LL.trans Z
  have I:=(ov.le LL).sl
  refine Gn 1 rfl (Ga rfl (.iP 0 underlying35 fP rfl rfl d rfl (by decide)) (Gd rfl (.iK gP rfl I (mh _ (by omega))) (Gn 1 rfl (Ga rfl (.iP 0 underlying35 fP rfl rfl d rfl (by decide)) (Gd rfl (.iK gP rfl I (mh _ (by omega))) ?_)))))
  refine Gn 1 rfl (Ga rfl (.iP 0 underlying35 fP rfl rfl d rfl (by decide)) (Gd rfl (.iK gP rfl I (mh _ (by omega))) (G.ef rfl rfl rfl rfl rfl (Ef.call vT rfl rfl (mQ _ 2 ar (by omega)) ?_))))
  rintro _ av ⟨rfl,J⟩
  refine⟨_,rfl,?_⟩
  have aw:=au.trans J
  refine⟨fun _=>J,?_⟩
  refine G.ef rfl rfl rfl rfl rfl (Ef.call vT rfl rfl (mQ _ 13 av (by omega)) ?_)
  rintro _ ax ⟨rfl,K⟩
  refine⟨_,rfl,?_⟩
  have ay:=aw.trans K
  refine⟨fun _=>K,?_⟩
  refine Ga rfl (.mq rfl rfl) (G.ef rfl rfl rfl rfl rfl (Ef.call vT rfl rfl (mQ _ 22 ax (by omega)) ?_))
  rintro _ aR ⟨rfl,L⟩
  refine⟨_,rfl,?_⟩
  have az:=ay.trans L
  refine⟨fun _=>L,?_⟩
  refine Ga rfl (.mq rfl rfl) (Gn 1 rfl (G.nil (E.eY (Sq (WC.draw [0,1,2,3,4,5,6,7,8,9,10,11,12,13,14,15,16,17,18,19,20,21,22,23] mixed (by kernel_rfl) fun aS aa=>?_)))))
  have LL:=LL.trans (J.trans (K.trans (L.trans aa)))
  have o:=(ov.le LL).sl
  refine Gn 1 rfl (Ga rfl (.iP 0 underlying35 fP rfl rfl d rfl (by decide)) (Gd rfl (.iK gP rfl o (mh _ (by omega))) (Gn 1 rfl (Ga rfl (.iP 1 underlying35 fP rfl rfl d rfl (by decide)) (Gd rfl (.iK gP rfl o (mh _ (by omega))) ?_)))))
  refine Ga rfl (.vL rfl rfl) (Gn 1 rfl (Ga rfl (.iP 0 underlying35 fP rfl rfl d rfl (by decide)) (Gd rfl (.iK gP rfl o (mh _ (by omega))) (Gn 1 rfl (Ga rfl (.iP 2 underlying35 fP rfl rfl d rfl (by decide)) ?_)))))
  refine Gd rfl (.iK gP rfl o (mh _ (by omega))) (Ga rfl (.vL rfl rfl) (Ga rfl (.mq rfl rfl) (Gn 1 rfl (Ga rfl (.iP 1 underlying35 fP rfl rfl d rfl (by decide)) (Gd rfl (.iK gP rfl o (mh _ (by omega))) ?_)))))
  refine Gn 1 rfl (Ga rfl (.iP 2 underlying35 fP rfl rfl d rfl (by decide)) (Gd rfl (.iK gP rfl o (mh _ (by omega))) (Ga rfl (.vL rfl rfl) (Ga rfl (.mq rfl rfl) (Gn 1 rfl (G.nil (E.eY ?_)))))))
  refine WC.draw [0,1,2,3,4,5,6,7,8,9,10,11,12,13,14,15,16,17,18,19,20,21,22,23,24,25,26,27,28,29] mixed (by kernel_rfl) fun aT N=>?_
  have ab:=(az.trans aa).trans N
  have l:=(ov.le (LL.trans N)).sl
  refine Gn 2 rfl (Ga rfl (.add32 rfl rfl) (Gn 1 rfl (Ga rfl (.add32 rfl rfl) (Gn 1 rfl (Ga rfl (.iP 0 underlying35 fP rfl rfl d rfl (by decide)) ?_)))))
  refine Gd rfl (.iK gP rfl l (mh _ (by omega))) (Gn 1 rfl (Ga rfl (.iP 1 underlying35 fP rfl rfl d rfl (by decide)) (Gd rfl (.iK gP rfl l (mh _ (by omega))) (Gn 1 rfl (Ga rfl (.iP 2 underlying35 fP rfl rfl d rfl (by decide)) ?_)))))
  refine Gd rfl (.iK gP rfl l (mh _ (by omega))) (Gn 1 rfl (Ga rfl (.iP 3 underlying35 fP rfl rfl d rfl (by decide)) (Gd rfl (.iK gP rfl l (mh _ (by omega))) (Gn 1 rfl (Ga rfl (.add32 rfl rfl) ?_)))))
  refine Gn 1 rfl (Ga rfl (.iP 4 underlying35 fP rfl rfl d rfl (by decide)) (Gd rfl (.iK gP rfl l (mh _ (by omega))) (Gn 1 rfl (Ga rfl (.iP 5 underlying35 fP rfl rfl d rfl (by decide)) (Gd rfl (.iK gP rfl l (mh _ (by omega))) ?_)))))
  refine Gn 1 rfl (Ga rfl (.iP 6 underlying35 fP rfl rfl d rfl (by decide)) (Gd rfl (.iK gP rfl l (mh _ (by omega))) (G.ef rfl rfl rfl rfl rfl (Ef.jT [_,_,_,_,_,_,_,_] underlying35 jH rfl (WX _ _ _ _ _ _ _ _) rfl (by decide) (by decide) fun aU aV aA aB O=>?_))))
  have aW:=ab.trans O
  refine⟨fun _=>O,?_⟩
  refine Gn 1 rfl (G.nil (E.gI (E.eY (WC.region (Wn 1 rfl (Wa (.add rfl rfl (by omega)) rfl (Wn 1 rfl (W.nil (E.again (i+1,_,_) (.of rfl) ?_ ?_)))))))))
  ·exact⟨by omega,Ll.trans (LL.trans (N.trans O)),(aB.own (s:=1) (n:=8) (Nat.le_trans ab.size aA) rfl (by unfold maxLen;omega)).cast rfl (by rw[jX,<-hv,stepW];simp[Ni,Sv])⟩
  first|omega|(simp only[];omega)
 rw[hv]at ov hvl
 have aC:i=64:=by omega
 subst aC
 obtain⟨g7,rfl,aE,_,_⟩:=ov.lit (by omega)
 refine WC.exit (E.fC (E.fC (E.gW (E.eY (Sq (Sr (Wn 1 rfl (Nx (WC.block (WC.loop (ι:=Nat) (fun j=>[(0,.slice A 8 c),(7,.slice (some ⟨g7,0,none⟩) 8 f),(14,.int .i64 (j:Int))]) (fun j wm=>j<=8/\Le w wm/\Own wm w.heap.size 143 1 (some ⟨g7,0,none⟩) 8 f ((qE (jX h (sched b) 64) h j).map iw)) (fun j=>8-j) 0 ?_ ?_ ?_))))))))))
 ·exact .of rfl
 ·exact⟨by omega,(T.trans Ll),ov.cast rfl (by rw[A7 _ _ hvl])⟩
 rintro j wm ⟨hj,Lm,ov⟩
 have hal:=lZ (jX h (sched b) 64) h j
 refine Sq (Sr (Wn 2 rfl (Nx (WC.cond rfl (fun c1=>?_) (fun c1=>?_)))))
 ·refine Sn (Sq (WC.block (WC.draw [0,1,2,3,4,5,6,7,8,9,10,11,12] mixed (by kernel_rfl) fun aX P=>?_)))
  have ac:=Lm.trans P
  refine Gn 4 rfl (Ga rfl (.iP j underlying35 fP rfl rfl rfl rfl (by omega)) (Gd rfl (.iK gP rfl ((ov.le P).sl) ((mh (qE (jX h (sched b) 64) h j) (k:=j) (by omega)).trans (by rw[GG _ _ _ _ (by omega),if_neg (by omega)]))) ?_))
  refine Gn 2 rfl (Ga rfl (.iP j underlying35 fP rfl rfl (hH.isSome (j:=0) (by omega) (by decide)) rfl (by omega)) (Gd rfl (.iK gP rfl (hH.le ac) (mh _ (by omega))) (Ga rfl (.add32 rfl rfl) (Ga rfl (.Hm j underlying35 fP rfl rfl rfl (by omega)) (G.iO rfl rfl rfl rfl ?_)))))
  refine Ef.V8 fP rfl rfl (ov.le P) (by omega) rfl fun aF aG aH=>?_
  have aI:Le w aF:=ac.gG aH (fun q hq=>by cases hq;exact aE)
  refine noT (by kernel_rfl) (G.nil (E.gI (E.eY (WC.region (Wn 1 rfl (Wa (.add rfl rfl (by omega)) rfl (Wn 1 rfl (W.nil (E.again (j+1) (.of rfl) ?_ ?_)))))))))
  ·exact⟨by omega,aI,aG.cast rfl (by rw[<-A8 _ _ j (by omega)];simp)⟩
  first|omega|(simp only[];omega)
 have aJ:j=8:=by omega
 subst aJ
 refine WC.exit (E.fC (E.fC (E.gW (E.eY (Sr (Wn 2 rfl (Nx (Rt (E.jQ rfl rfl ?_)))))))))
 exact⟨_,_,rfl,ov,Lm⟩

theorem Ip (m:Nat)(w:World)(_hm:m<18446744073709551616):Calls prog 114 #[.int .u64 (m:Int)] w fun e w'=>∃A' c',e= .returned (.slice A' 8 c')/\Own w' w.heap.size 5 1 A' 8 c' ((wL m).map jM)/\Le w w':=by
 refine enter func114 rfl rfl (Sr (Wn 1 rfl (Nx (Sr (Wn 1 rfl (Nx (Sq (Sr (Wn 1 rfl (Nx (WC.block (WC.loop (ι:=Nat×Option Addr×Nat) (fun⟨k,b,c⟩=>[(0,.int .u64 (m:Int)),(3,.slice b k c),(4,.int .i64 (56-8*(k:Int)))]) (fun⟨k,b,c⟩ wl=>k<=8/\Le w wl/\Own wl w.heap.size 5 1 b k c ((ny m k).map jM)) (fun⟨k,b,c⟩=>8-k) (0,none,0) ?_ ?_ ?_))))))))))))
 ·exact .of rfl
 ·exact⟨by omega,(Le.refl w),Own.empty _ _ _ _ _⟩
 rintro⟨k,b,c⟩ wl ⟨hk,Ll,ol⟩
 refine Sq (Sr (Wn 2 rfl (Nx (WC.cond rfl (fun h=>?_) (fun h=>?_)))))
 ·refine Sn (Sq (WC.block (WC.region (Wn 3 rfl (Wa (.Nq m (56-8*k) rfl rfl rfl (by omega) (by show 56-8*k<=64;omega)) rfl ?_)))))
  refine Wr (.toU8 (m>>>(56-8*k)) (lY underlying24) underlying5 rfl rfl) rfl (W.ef rfl rfl rfl (Ef.jm underlying97 vF rfl rfl fun v x y i d=>?_))
  have f:=Ll.trans d
  refine W.ef rfl rfl rfl (Ef.append underlying97 vF rfl (ol.le d) rfl (i.DN underlying97 rfl) (by omega) (by unfold maxLen;omega) f.size ?_)
  intro j l n o s z
  have t:Le w n:=f.gG s (fun q hq=>(ol.row hq).1)
  refine Wn 1 rfl (W.nil (E.gI (E.eY (WC.region (Wn 1 rfl (Wa (.sub rfl rfl (by omega)) rfl (Wn 1 rfl (W.nil (E.again (k+1,j,l) (.cons rfl (.cons rfl (.cons' rfl (int_eq (by omega)) (.nil _)))) ?_ ?_)))))))))
  ·exact⟨by omega,t,o.cast rfl (by rw[pV m k (by omega)];simp)⟩
  first|omega|(simp only[];omega)
 have u:k=8:=by omega
 subst u
 refine WC.exit (E.fC (E.fC (E.gW (E.eY (Sr (Wn 2 rfl (Nx (Rt (E.jQ rfl rfl ?_)))))))))
 exact⟨_,_,rfl,ol,Ll⟩

theorem Kl {A:Option Addr}{n c:Nat}{xs:List Byte}(w:World)(hS:Sb w A n xs)(hn:n<=35184372088832):Calls prog 171 #[.slice A n c] w fun e w'=>∃A' c',e= .returned (.slice A' (n+1+noughts n+8) c')/\Own w' w.heap.size 5 1 A' (n+1+noughts n+8) c' ((wT xs).map jM)/\Le w w':=by
 have hl:=hS.len
 have t:noughts n<=63:=by unfold noughts;omega
 refine enter func171 rfl rfl ?_
 have u:=Le.refl w
 refine Sr (Wn 1 rfl (Nx (Sr (W.ef rfl rfl rfl (Ef.kU underlying97 vF fun ae v af ah x=>?_)))))
 have f:=u.trans x
 refine Wn 1 rfl (W.ef rfl rfl rfl (Ef.append underlying97 vF rfl (Own.empty v w.heap.size 5 1 _) rfl ((hS.le f).src underlying97 _) (by omega) (by unfold maxLen;omega) f.size ?_))
 intro ai aj y h z ak
 have C:Le w y:=f.gG z (fun q hq=>by rw[iL]at hq;cases hq)
 refine Wn 1 rfl (Nx (Sr (Wn 1 rfl (W.ef rfl rfl rfl (Ef.jm underlying97 vF rfl rfl fun al am an D i=>?_)))))
 have j:=C.trans i
 refine W.ef rfl rfl rfl (Ef.append underlying97 vF rfl (h.le i) rfl (D.DN underlying97 rfl) (by omega) (by unfold maxLen;omega) j.size ?_)
 intro F H I J K ao
 have L:Le w I:=j.gG K (fun q hq=>(h.row hq).1)
 refine Wn 1 rfl (Nx (Sq (WC.block (WC.loop (ι:=Nat×Option Addr×Nat) (fun⟨k,b,d⟩=>[(0,.slice A n c),(3,.slice b (n+1+k) d)]) (fun⟨k,b,d⟩ wl=>k<=noughts n/\Le w wl/\Own wl w.heap.size 5 1 b (n+1+k) d ((xs++[128]++List.replicate k 0).map jM)) (fun⟨k,b,d⟩=>64-k) (0,F,H) ?_ ?_ ?_))))
 ·exact .cons rfl (.cons' rfl (kJ (by omega)) (.nil _))
 ·exact⟨Nat.zero_le _,L,J.cast (by omega) (by simp;rfl)⟩
 rintro⟨k,b,d⟩ wl ⟨hk,Ll,ol⟩
 have t:noughts n<=63:=by unfold noughts;omega
 refine Sq (Sr (Wn 1 rfl (Wr (.len underlying97 rfl) rfl (Wa (.rem rfl rfl (by omega)) rfl (Wn 1 rfl (Nx (WC.cond rfl (fun N=>?_) (fun N=>?_))))))))
 ·refine Sn (WC.block (WC.region (Wn 1 rfl (W.ef rfl rfl rfl (Ef.jm underlying97 vF rfl rfl fun ap aq ar O l=>?_)))))
  have m:=Ll.trans l
  refine W.ef rfl rfl rfl (Ef.append underlying97 vF rfl (ol.le l) rfl (O.DN underlying97 rfl) (by omega) (by unfold maxLen;omega) m.size ?_)
  intro P Q R S T au
  have U:Le w R:=m.gG T (fun q hq=>(ol.row hq).1)
  refine Wn 1 rfl (W.nil (E.gI (E.again (k+1,P,Q) (.cons rfl (.cons' rfl (kJ (by omega)) (.nil _))) ?_ ?_)))
  ·exact⟨by unfold noughts at*;omega,U,S.cast (by omega) (by simp[List.replicate_succ'];rfl)⟩
  first|omega|(simp only[];omega)
 have hkn:k=noughts n:=by unfold noughts at*;omega
 subst hkn
 refine WC.exit (E.fC (E.fC (E.gW (E.eY (Sr (Wn 1 rfl (Wr (.len underlying97 rfl) rfl (Wr (.qd (i':=(n:Int)) (lY underlying3) underlying24 rfl (by rw[wrap_u64];omega)) rfl ?_))))))))
 refine Wa (.aan rfl rfl (by omega)) rfl (Wn 1 rfl (Nx (Sq (Sr (Wn 1 rfl (Nx (WC.block (WC.loop (ι:=Nat×Option Addr×Nat) (fun⟨k,b,cz⟩=>[(3,.slice b (n+1+noughts n+k) cz),(4,.int .u64 (8*(n:Int))),(5,.int .i64 (56-8*(k:Int)))]) (fun⟨k,b,cz⟩ wm=>k<=8/\Le w wm/\Own wm w.heap.size 5 1 b (n+1+noughts n+k) cz ((xs++[128]++List.replicate (noughts n) 0++ny (8*n) k).map jM)) (fun⟨k,b,cz⟩=>8-k) (0,b,d) ?_ ?_ ?_))))))))
 ·exact .of rfl
 ·exact⟨by omega,Ll,ol.cast rfl (by simp[ny])⟩
 rintro⟨k,b,cz⟩ wm ⟨hk,Lm,ol⟩
 refine Sq (Sr (Wn 2 rfl (Nx (WC.cond rfl (fun d=>?_) (fun d=>?_)))))
 ·refine Sn (Sq (WC.block (WC.region (Wn 3 rfl (Wa (.Nq (8*n) (56-8*k) rfl (by omega) rfl (by omega) (by show 56-8*k<=64;omega)) rfl ?_)))))
  refine Wr (.toU8 ((8*n)>>>(56-8*k)) (lY underlying24) underlying5 rfl rfl) rfl (W.ef rfl rfl rfl (Ef.jm underlying97 vF rfl rfl fun av aw ax V o=>?_))
  have s:=Lm.trans o
  refine W.ef rfl rfl rfl (Ef.append underlying97 vF rfl (ol.le o) rfl (V.DN underlying97 rfl) (by omega) (by unfold maxLen;omega) s.size ?_)
  intro X Y Z aa ab ay
  have ac:Le w Z:=s.gG ab (fun q hq=>(ol.row hq).1)
  refine Wn 1 rfl (W.nil (E.gI (E.eY (WC.region (Wn 1 rfl (Wa (.sub rfl rfl (by omega)) rfl (Wn 1 rfl (W.nil (E.again (k+1,X,Y) (.cons rfl (.cons rfl (.cons' rfl (int_eq (by omega)) (.nil _)))) ?_ ?_)))))))))
  ·exact⟨by omega,ac,aa.cast rfl (by rw[pV (8*n) k (by omega)];simp)⟩
  first|omega|(simp only[];omega)
 have ad:k=8:=by omega
 subst ad
 refine WC.exit (E.fC (E.fC (E.gW (E.eY (Sr (Wn 2 rfl (Nx (Rt (E.jQ rfl rfl ?_)))))))))
 exact⟨_,_,rfl,ol.cast rfl (by rw[wT,hl];rfl),Lm⟩

set_option maxHeartbeats 1000000 in
theorem TH {A:Option Addr} {n c:Nat} {xs:List Byte} (w:World) (hS:Sb w A n xs) (hn:n<=35184372088832):Calls prog 115 #[.slice A n c] w fun e w'=>e= .returned (.agg ((sum xs).map jM).toArray)/\Le w w':=by
 have aj:noughts n<=63:=by unfold noughts;omega
 refine enter func115 rfl rfl ?_
 have H:=Le.refl w
 refine Sr (W.ef rfl rfl rfl (Ef.fI z27 fun h u I v J=>?_))
 have x:=H.trans J
 have d:fA u h 27 ((List.replicate 32 0#8).map jM).toArray:=v
 refine Nx (Sr (Wn 1 rfl (W.cl Y8 rfl rfl (Kl u (hS.le x) hn) ?_)))
 rintro _ K ⟨L,i,rfl,y,o⟩
 have O:=x.trans o
 have hP:=y.sb
 have hPl:=hP.len
 have hPm:=Pb xs
 have hPc:=y.cap
 rw[hPl]at hPm
 obtain⟨N,hN⟩:∃N,N=n+1+noughts n+8:=⟨_,rfl⟩
 rw[<-hN]at hP hPl hPm hPc ⊢
 refine Wn 1 rfl (Nx (Sr (W.cl Y9 rfl rfl (Kk K) ?_)))
 rintro _ P ⟨Q,R,rfl,S,l⟩
 have f:=O.trans l
 refine Wn 1 rfl (Nx (Sq (Sr (Wn 1 rfl (Nx (WC.block (WC.loop (ι:=Nat×Option Addr×Nat×List Word) (fun⟨j,Ah,ch,hh⟩=>[(2,.pointer (some ⟨h,0,none⟩)),(3,.slice L N i),(4,.slice Ah 8 ch),(5,.int .i64 (64*(j:Int)))]) (fun⟨j,Ah,ch,hh⟩ wl=>64*j<=N/\Le P wl/\hh.length=8/\Sl wl 1 Ah 8 (hh.map iw)/\jG hh ((wT xs).drop (64*j))=jG first (wT xs)) (fun⟨j,Ah,ch,hh⟩=>N-64*j) (0,Q,R,first) ?_ ?_ ?_)))))))
 ·exact .of rfl
 ·exact⟨by omega,Le.refl _,rfl,S.sl,rfl⟩
 rintro⟨j,Ah,ch,hh⟩ wl ⟨hj,Ll,R7,sh,hmx⟩
 refine Sq (Sr (Wn 2 rfl (Wr (.len underlying97 rfl) rfl (Wn 1 rfl (Nx (WC.cond rfl (fun T=>?_) (fun T=>?_)))))))
 ·have hjN:64*j+64<=N:=by omega
  refine Sn (Sq (WC.block (WC.region (Wn 4 rfl (Wa (.add rfl rfl (by omega)) rfl (Wa (.cut (64*j) (64*j+64) underlying97 xE rfl rfl (by omega) rfl (by omega) (by omega) (by omega)) rfl (W.cl Za rfl rfl (NI wl R7 sh (((hP.le (l.trans Ll)).cut i (64*j) (64*j+64) (by omega) (by omega) hPc.1).cast rfl (show _=((wT xs).drop (64*j)).take 64 by rw[show 64*j+64-64*j=64 by omega])) (by omega)) ?_)))))))
  rintro _ ak ⟨U,V,rfl,X,z⟩
  have al:=(f.trans Ll).trans z
  refine Wn 1 rfl (W.nil (E.gI (E.eY (WC.region (Wn 1 rfl (Wa (.add rfl rfl (by omega)) rfl (Wn 1 rfl (W.nil (E.again (j+1,U,V,mix hh (((wT xs).drop (64*j)).take 64)) (.cons rfl (.cons rfl (.cons rfl (.cons' rfl (int_eq (by omega)) (.nil _))))) ?_ ?_)))))))))
  ·exact⟨by omega,Ll.trans z,mX _ _,X.sl,by rw[<-hmx,oC hh ((wT xs).drop (64*j)) (by rw[List.length_drop];omega),List.drop_drop]<;>(try congr 2)<;>(try omega)⟩
  first|omega|(simp only[];omega)
 have hjN:64*j=N:=by omega
 have Zy:hh=jG first (wT xs):=by rw[<-hmx,pW _ _ (by rw[List.length_drop];omega)]
 refine WC.exit (E.fC (E.fC (E.gW (E.eY (Sr (W.ef rfl rfl rfl (Ef.fI z27 fun b C s Y t=>?_)))))))
 have D:=(f.trans Ll).trans t
 have m:fA C b 27 ((List.replicate 32 0#8).map jM).toArray:=Y
 have d:=d.le (o.trans (l.trans (Ll.trans t)))
 have am:h<b:=by have:=v.lt;have:=o.size;have:=l.size;have:=Ll.size;omega
 refine Nx (Sq (Sr ?_))
 have abl:kT Ah≠some b:=by
  obtain⟨ad,rfl,Z⟩:=sh.2 0 (iw (hh.getD 0 0)) (mh _ (by omega))
  have:=block_lt_of_cell Z
  simp[kT]at this ⊢;have h0:(ad.add 0).block=ad.block:=by simp[Addr.add]
  omega
 refine Wn 1 rfl (Nx (WC.block (WC.loop (ι:=Nat) (fun k=>[(2,.pointer (some ⟨h,0,none⟩)),(4,.slice Ah 8 ch),(6,.pointer (some ⟨b,0,none⟩)),(7,.int .i64 (k:Int))]) (fun k wr=>k<=32/\Ch C wr (some b)/\fA wr b 27 ((nL hh k).map jM).toArray) (fun k=>32-k) 0 ?_ ?_ ?_)))
 ·exact .of rfl
 ·exact⟨by omega,Ch.refl _ _,m⟩
 rintro k wr ⟨hk,Cr,m⟩
 have hdl:=sU hh k hk
 have d:=d.ch Cr (by simp;omega)
 have sh:=(sh.le t).ch Cr (fun q hq=>by cases hq;exact abl)
 refine Sq (Sr (Wn 2 rfl (Nx (WC.cond rfl (fun i=>?_) (fun i=>?_)))))
 ·refine Sn (Sq (WC.block (WC.region (Wn 3 rfl (Wa (.quo rfl rfl (by omega)) rfl (Wa (.iP (k/4) underlying35 fP rfl rfl (sh.isSome (j:=0) (by omega) (by decide)) (by omega) (by omega)) rfl (Wr (.iK gP rfl sh (mh _ (by omega))) rfl (Wn 1 rfl (Wa (.rem rfl rfl (by omega)) rfl ?_)))))))))
  refine Wa (.mul rfl rfl (by omega)) rfl (Wa (.sub rfl rfl (by omega)) rfl (Wa (.xc (24-8*(k%4)) rfl rfl (by omega) (by omega)) rfl (Wr (.Pp (lY underlying143) underlying5 rfl) rfl (Wa (.ja k underlying27 xE rfl rfl rfl (by omega)) rfl (W.iO rfl rfl ?_)))))
  refine Ef.store xE rfl rfl m (by simp;omega) rfl ?_
  intro aa ab F
  have an:Le w aa:=(D.gG Cr (fun q hq=>by cases hq;exact Nat.le_trans (f.trans Ll).size s)).gG F (fun q hq=>by cases hq;exact Nat.le_trans (f.trans Ll).size s)
  refine W.nil (E.gI (E.eY (WC.region (Wn 1 rfl (Wa (.add rfl rfl (by omega)) rfl (Wn 1 rfl (W.nil (E.again (k+1) (.of rfl) ?_ ?_))))))))
  ·exact⟨by omega,Cr.trans F,ab.cast (by rw[<-vH hh k (by omega)];apply Array.ext';simp)⟩
  first|omega|(simp only[];omega)
 have ac:k=32:=by omega
 subst ac
 refine WC.exit (E.fC (E.fC (E.gW (E.eY (Sr (Wr (.fB FJ (by simp[hdl]) rfl m) rfl ?_))))))
 refine W.iO rfl rfl (Ef.storeAll PO (by simp[hdl]) rfl rfl d (by simp[hdl]) (uN _) ?_)
 intro ae af ah
 have ai:Le w ae:=(D.gG Cr (fun q hq=>by cases hq;exact Nat.le_trans (f.trans Ll).size s)).gG ah (fun q hq=>by cases hq;exact I)
 refine Nx (Rt (E.Ho rfl rfl af FJ (by simp[hdl]) ?_))
 exact⟨by rw[Sw,<-Zy];simp[nL,List.take_of_length_le,mG],ai⟩
end Go.Proofs.YtkaedikifgpkeaaGreatDoor

namespace Go.Proofs.YtkaedikifgpkeaaGreatDoor
open Tryz
open Go Go.Sx Go.wK
set_option maxRecDepth 20000
set_option maxHeartbeats 1000000 in
theorem FW {A:Option Addr} {n c:Nat} {vs:List Value} {ps:List (List Byte)} (name:ByteArray) (nm:List Byte) (w:World) (hnm:byteCells name=nm.map jM) (hV:Sl w 1 A n vs) (hP:Parts w vs ps) (hT:(kE nm ps).length<=1099511627776):Calls prog 55 #[.string name,.slice A n c] w fun e w'=>e= .returned (.agg ((tag nm ps).map jM).toArray)/\Le w w':=by
 have hns:name.size=nm.length:=by have:=congrArg List.length hnm;simpa[byteCells_length]using this
 have hnl:nm.length=name.size:=hns.symm
 have hvl:=hV.1
 have hpl:=hP.1
 have hpn:=tL nm ps
 have hle:=qZ nm ps 0
 rw[lI]at hle
 simp[iA]at hle
 refine enter func55 rfl rfl ?_
 have H:=Le.refl w
 refine Sr (W.ef rfl rfl rfl (Ef.fI z27 fun z j I C J=>?_))
 have b:=H.trans J
 have o:fA j z 27 ((List.replicate 32 0#8).map jM).toArray:=C
 have aj:=o.lt
 refine Nx (Sr (Wn 1 rfl (Wr (.Po underlying9 rfl) rfl (Wr (.qd (i':=(name.size:Int)) (lY underlying3) underlying24 rfl (by rw[wrap_u64];omega)) rfl ?_))))
 refine W.cl Vi rfl rfl (Ip name.size j (by omega)) ?_
 rintro _ ak ⟨A1,c1,rfl,l,m⟩
 have K:=b.trans m
 refine Wn 1 rfl (W.ef rfl rfl rfl (Ef.Pv underlying9 underlying97 underlying5 rfl fun A2 c2 al L _ d=>?_))
 have N:=K.trans d
 refine W.ef rfl rfl rfl (Ef.append underlying97 vF rfl (l.le d) rfl (L.src underlying97 (by decide) _ (fun u hu=>by rw[hnm]at hu;exact uN _ u hu)) (by omega) (by unfold maxLen;omega) (Nat.le_trans m.size d.size) ?_)
 intro O P Q R s am
 have an:Le w Q:=N.gG s (fun q hq=>Nat.le_trans b.size (l.row hq).1)
 have S:=R.mono (Nat.le_refl _)
 have o:=o.le (m.trans d)|>.ch s (l.rl (by omega))
 refine Wn 1 rfl (Nx (Sq (Sr (Wn 1 rfl (Nx (WC.block (WC.loop (ι:=Nat×Option Addr×Nat) (fun⟨k,f,h⟩=>[(1,.slice A n c),(4,.pointer (some ⟨z,0,none⟩)),(5,.slice f (lD nm ps k).length h),(6,.int .i64 (k:Int))]) (fun⟨k,f,h⟩ wl=>k<=n/\Le j wl/\Own wl j.heap.size 5 1 f (lD nm ps k).length h ((lD nm ps k).map jM)) (fun⟨k,f,h⟩=>n-k) (0,O,P) ?_ ?_ ?_)))))))
 ·exact .cons rfl (.cons rfl (.cons' rfl (kJ (by rw[lI];simp[iA,hnl])) (.cons rfl (.nil _))))
 ·exact⟨Nat.zero_le _,(m.trans d).gG s (fun q hq=>(l.row hq).1),S.cast (by rw[lI];simp[iA,hnl]) (by rw[lI,hnm,hnl];simp)⟩
 rintro⟨k,f,h⟩ wl ⟨hk,Ll,ol⟩
 have hTk:(lD nm ps k).length<=1099511627776:=Nat.le_trans (qZ nm ps k) hT
 refine Sq (Sr (Wn 2 rfl (Wr (.len underlying151 rfl) rfl (Wn 1 rfl (Nx (WC.cond rfl (fun T=>?_) (fun T=>?_)))))))
 ·have hkn:k<n:=by omega
  obtain⟨q,hq⟩:∃q,ps[k]? =some q:=⟨_,List.getElem?_eq_getElem (by omega)⟩
  obtain⟨v,hv⟩:∃v,vs[k]? =some v:=⟨_,List.getElem?_eq_getElem (by omega)⟩
  obtain⟨Aq,cq,rfl,U⟩:=hP.2 k v q hv hq
  have hsucc:=A9 nm ps k q hq
  have ao:(lD nm ps (k+1)).length<=1099511627776:=Nat.le_trans (qZ nm ps (k+1)) hT
  have hsl:(lD nm ps (k+1)).length=(lD nm ps k).length+8+q.length:=by rw[hsucc];simp[iA];omega
  refine Sn (Sq (WC.block (Sr (Wn 2 rfl (Wa (.iP k underlying151 Wu rfl rfl (hV.isSome hkn (by decide)) rfl (by omega)) rfl (Wr (.iK Wv rfl (hV.le (b.trans Ll)) hv) rfl (Wr (.len underlying97 rfl) rfl (Wr (.qd (i':=(q.length:Int)) (lY underlying3) underlying24 rfl (by rw[wrap_u64];omega)) rfl ?_))))))))
  refine W.cl Vi rfl rfl (Ip q.length wl (by omega)) ?_
  rintro _ ap ⟨A4,c4,rfl,V,i⟩
  have X:=(b.trans Ll).trans i
  refine Wn 1 rfl (Nx (Sr (Wn 2 rfl (W.ef rfl rfl rfl (Ef.append underlying97 vF rfl (ol.le i) rfl (V.sb.src underlying97 _) (by omega) (by unfold maxLen;omega) (Nat.le_trans Ll.size i.size) ?_)))))
  intro aq ar Y t x au
  have y:Le w Y:=X.gG x (fun q hq=>Nat.le_trans b.size (ol.row hq).1)
  refine Wn 1 rfl (Nx (WC.region (Wn 3 rfl (Wa (.iP k underlying151 Wu rfl rfl (hV.isSome hkn (by decide)) rfl (by omega)) rfl (Wr (.iK Wv rfl (hV.le y) hv) rfl (W.ef rfl rfl rfl (Ef.append underlying97 vF rfl t rfl ((U.le y).src underlying97 _) (by omega) (by unfold maxLen;omega) (Nat.le_trans (Nat.le_trans Ll.size i.size) x.size) ?_)))))))
  intro Z aa ab ac D av
  have aw:Le w ab:=y.gG D (fun q hq=>Nat.le_trans b.size (t.row hq).1)
  refine Wn 1 rfl (W.nil (E.gI (E.eY (WC.region (Wn 1 rfl (Wa (.add rfl rfl (by omega)) rfl (Wn 1 rfl (W.nil (E.again (k+1,Z,aa) (.cons rfl (.cons rfl (.cons' rfl (kJ (by rw[hsucc];simp[iA];omega)) (.cons rfl (.nil _))))) ?_ ?_)))))))))
  ·exact⟨by omega,(Le.gG (Le.gG (Ll.trans i) x (fun q hq=>(ol.row hq).1)) D (fun q hq=>(t.row hq).1)),ac.cast (by rw[hsucc];simp[iA];omega) (by rw[hsucc];simp)⟩
  first|omega|(simp only[];omega)
 have hkn:k=n:=by omega
 refine WC.exit (E.fC (E.fC (E.gW (E.eY (Sr (Wn 1 rfl (W.cl YN rfl rfl (TH wl ol.sb (by omega)) ?_)))))))
 rintro _ ax ⟨rfl,F⟩
 have ad:=(b.trans Ll).trans F
 refine W.iO rfl rfl (Ef.storeAll PO (by simp[mY]) rfl rfl (C.le (Ll.trans F)) (by simp[mY]) (uN _) ?_)
 intro ae af ah
 have ai:Le w ae:=ad.gG ah (fun q hq=>by cases hq;exact I)
 refine Nx (Rt (E.Ho rfl rfl af FJ (by simp[mY]) ?_))
 exact⟨by rw[tag,DZ nm ps k (by omega)],ai⟩




end Go.Proofs.YtkaedikifgpkeaaGreatDoor

