/- LedgerSplices: for every input the law answers true and leaves its arguments as they were. -/
import Derived.Test.YtcaehidaejhdfaaGreatLedgerSplicesK
import Derived.Test.YtcaehidaejhdfaaGreatProg
import Derived.KernelRfl
set_option linter.unusedVariables false
set_option linter.unusedSimpArgs false
namespace Go.Proofs.YtcaehidaejhdfaaGreat
open Tryz
open Go Go.Sx
theorem mixed:prog.follows .mixedOrders=true:=by kernel_rfl
theorem el2:El prog 2 1 8 (.int .i64 0):=El.mk (by kernel_rfl) (by first|rfl|simp[Value.cells]) (by decide)
theorem z2:Zr prog 2 (.int .i64 0):=el2.zr
theorem Mf:El prog 3 1 8 (.int .i64 0):=El.mk (by kernel_rfl) (by first|rfl|simp[Value.cells]) (by decide)
theorem kz:Sz prog 3 1:=Mf.sz
theorem z3:Zr prog 3 (.int .i64 0):=Mf.zr
theorem j5:lV prog 3:=⟨_,underlying3,rfl⟩
theorem el4:El prog 4 1 1 (.bool false):=El.mk (by kernel_rfl) (by first|rfl|simp[Value.cells]) (by decide)
theorem sz4:Sz prog 4 1:=el4.sz
theorem z4:Zr prog 4 (.bool false):=el4.zr
theorem na4:lV prog 4:=⟨_,underlying4,rfl⟩
theorem wV:El prog 5 1 1 (.int .u8 0):=El.mk (by kernel_rfl) (by first|rfl|simp[Value.cells]) (by decide)
theorem vJ:Sz prog 5 1:=wV.sz
theorem z5:Zr prog 5 (.int .u8 0):=wV.zr
theorem IB:lV prog 5:=⟨_,underlying5,rfl⟩
theorem el9:El prog 9 1 16 (.string ⟨#[]⟩):=El.mk (by kernel_rfl) (by first|rfl|simp[Value.cells]) (by decide)
theorem z9:Zr prog 9 (.string ⟨#[]⟩):=el9.zr
theorem aac:El prog 22 32 32 (.agg (List.replicate 32 (.int .u8 0)).toArray):=El.mk (by kernel_rfl) (by first|rfl|simp[Value.cells]) (by decide)
theorem z22:Zr prog 22 (.agg (List.replicate 32 (.int .u8 0)).toArray):=aac.zr
theorem Xx:El prog 23 32 32 (.agg (List.replicate 32 (.int .u8 0)).toArray):=El.mk (by kernel_rfl) (by first|rfl|simp[Value.cells]) (by decide)
theorem zx:Sz prog 23 32:=Xx.sz
theorem z23:Zr prog 23 (.agg (List.replicate 32 (.int .u8 0)).toArray):=Xx.zr
theorem sV:mq prog 23 32:=⟨_,underlying23,rfl,zx⟩
theorem Xy:El prog 24 64 64 (.agg (List.replicate 64 (.int .u8 0)).toArray):=El.mk (by kernel_rfl) (by first|rfl|simp[Value.cells]) (by decide)
theorem aad:Sz prog 24 64:=Xy.sz
theorem z24:Zr prog 24 (.agg (List.replicate 64 (.int .u8 0)).toArray):=Xy.zr
theorem EF:El prog 25 1 4 (.int .u32 0):=El.mk (by kernel_rfl) (by first|rfl|simp[Value.cells]) (by decide)
theorem lq:Sz prog 25 1:=EF.sz
theorem z25:Zr prog 25 (.int .u32 0):=EF.zr
theorem lQ:lV prog 25:=⟨_,underlying25,rfl⟩
theorem Xz:El prog 26 1 24 (.slice none 0 0):=El.mk (by kernel_rfl) (by first|rfl|simp[Value.cells]) (by decide)
theorem XA:Sz prog 26 1:=Xz.sz
theorem z26:Zr prog 26 (.slice none 0 0):=Xz.zr
theorem Vz:lV prog 26:=⟨_,underlying26,rfl⟩
theorem XB:El prog 27 1 2 (.int .u16 0):=El.mk (by kernel_rfl) (by first|rfl|simp[Value.cells]) (by decide)
theorem aae:Sz prog 27 1:=XB.sz
theorem z27:Zr prog 27 (.int .u16 0):=XB.zr
theorem aaf:lV prog 27:=⟨_,underlying27,rfl⟩
theorem aag:El prog 28 102 144 (.agg #[.int .u8 0,.int .u8 0,.int .u8 0,.int .u8 0,.int .u8 0,.int .u8 0,.int .u8 0,.int .u8 0,.int .u8 0,.int .u8 0,.int .u8 0,.int .u8 0,.int .u8 0,.int .u8 0,.int .u8 0,.int .u8 0,.int .u8 0,.int .u8 0,.int .u8 0,.int .u8 0,.int .u8 0,.int .u8 0,.int .u8 0,.int .u8 0,.int .u8 0,.int .u8 0,.int .u8 0,.int .u8 0,.int .u8 0,.int .u8 0,.int .u8 0,.int .u8 0,.int .u8 0,.int .u8 0,.int .u8 0,.int .u8 0,.int .u8 0,.int .u8 0,.int .u8 0,.int .u8 0,.int .u8 0,.int .u8 0,.int .u8 0,.int .u8 0,.int .u8 0,.int .u8 0,.int .u8 0,.int .u8 0,.int .u8 0,.int .u8 0,.int .u8 0,.int .u8 0,.int .u8 0,.int .u8 0,.int .u8 0,.int .u8 0,.int .u8 0,.int .u8 0,.int .u8 0,.int .u8 0,.int .u8 0,.int .u8 0,.int .u8 0,.int .u8 0,.int .u32 0,.int .u32 0,.int .u8 0,.int .u8 0,.slice none 0 0,.int .u16 0,.int .u8 0,.int .u8 0,.int .u8 0,.int .u8 0,.int .u8 0,.int .u8 0,.int .u8 0,.int .u8 0,.int .u8 0,.int .u8 0,.int .u8 0,.int .u8 0,.int .u8 0,.int .u8 0,.int .u8 0,.int .u8 0,.int .u8 0,.int .u8 0,.int .u8 0,.int .u8 0,.int .u8 0,.int .u8 0,.int .u8 0,.int .u8 0,.int .u8 0,.int .u8 0,.int .u8 0,.int .u8 0,.int .u8 0,.int .u8 0,.int .u8 0,.int .u8 0]):=El.mk (by kernel_rfl) (by first|rfl|simp[Value.cells]) (by decide)
theorem z28:Zr prog 28 (.agg #[.int .u8 0,.int .u8 0,.int .u8 0,.int .u8 0,.int .u8 0,.int .u8 0,.int .u8 0,.int .u8 0,.int .u8 0,.int .u8 0,.int .u8 0,.int .u8 0,.int .u8 0,.int .u8 0,.int .u8 0,.int .u8 0,.int .u8 0,.int .u8 0,.int .u8 0,.int .u8 0,.int .u8 0,.int .u8 0,.int .u8 0,.int .u8 0,.int .u8 0,.int .u8 0,.int .u8 0,.int .u8 0,.int .u8 0,.int .u8 0,.int .u8 0,.int .u8 0,.int .u8 0,.int .u8 0,.int .u8 0,.int .u8 0,.int .u8 0,.int .u8 0,.int .u8 0,.int .u8 0,.int .u8 0,.int .u8 0,.int .u8 0,.int .u8 0,.int .u8 0,.int .u8 0,.int .u8 0,.int .u8 0,.int .u8 0,.int .u8 0,.int .u8 0,.int .u8 0,.int .u8 0,.int .u8 0,.int .u8 0,.int .u8 0,.int .u8 0,.int .u8 0,.int .u8 0,.int .u8 0,.int .u8 0,.int .u8 0,.int .u8 0,.int .u8 0,.int .u32 0,.int .u32 0,.int .u8 0,.int .u8 0,.slice none 0 0,.int .u16 0,.int .u8 0,.int .u8 0,.int .u8 0,.int .u8 0,.int .u8 0,.int .u8 0,.int .u8 0,.int .u8 0,.int .u8 0,.int .u8 0,.int .u8 0,.int .u8 0,.int .u8 0,.int .u8 0,.int .u8 0,.int .u8 0,.int .u8 0,.int .u8 0,.int .u8 0,.int .u8 0,.int .u8 0,.int .u8 0,.int .u8 0,.int .u8 0,.int .u8 0,.int .u8 0,.int .u8 0,.int .u8 0,.int .u8 0,.int .u8 0,.int .u8 0,.int .u8 0]):=aag.zr
theorem aah:El prog 29 102 144 (.agg #[.int .u8 0,.int .u8 0,.int .u8 0,.int .u8 0,.int .u8 0,.int .u8 0,.int .u8 0,.int .u8 0,.int .u8 0,.int .u8 0,.int .u8 0,.int .u8 0,.int .u8 0,.int .u8 0,.int .u8 0,.int .u8 0,.int .u8 0,.int .u8 0,.int .u8 0,.int .u8 0,.int .u8 0,.int .u8 0,.int .u8 0,.int .u8 0,.int .u8 0,.int .u8 0,.int .u8 0,.int .u8 0,.int .u8 0,.int .u8 0,.int .u8 0,.int .u8 0,.int .u8 0,.int .u8 0,.int .u8 0,.int .u8 0,.int .u8 0,.int .u8 0,.int .u8 0,.int .u8 0,.int .u8 0,.int .u8 0,.int .u8 0,.int .u8 0,.int .u8 0,.int .u8 0,.int .u8 0,.int .u8 0,.int .u8 0,.int .u8 0,.int .u8 0,.int .u8 0,.int .u8 0,.int .u8 0,.int .u8 0,.int .u8 0,.int .u8 0,.int .u8 0,.int .u8 0,.int .u8 0,.int .u8 0,.int .u8 0,.int .u8 0,.int .u8 0,.int .u32 0,.int .u32 0,.int .u8 0,.int .u8 0,.slice none 0 0,.int .u16 0,.int .u8 0,.int .u8 0,.int .u8 0,.int .u8 0,.int .u8 0,.int .u8 0,.int .u8 0,.int .u8 0,.int .u8 0,.int .u8 0,.int .u8 0,.int .u8 0,.int .u8 0,.int .u8 0,.int .u8 0,.int .u8 0,.int .u8 0,.int .u8 0,.int .u8 0,.int .u8 0,.int .u8 0,.int .u8 0,.int .u8 0,.int .u8 0,.int .u8 0,.int .u8 0,.int .u8 0,.int .u8 0,.int .u8 0,.int .u8 0,.int .u8 0,.int .u8 0]):=El.mk (by kernel_rfl) (by first|rfl|simp[Value.cells]) (by decide)
theorem aai:Sz prog 29 102:=aah.sz
theorem aaj:mq prog 29 102:=⟨_,underlying29,rfl,aai⟩
theorem aak:El prog 30 1 24 (.slice none 0 0):=El.mk (by kernel_rfl) (by first|rfl|simp[Value.cells]) (by decide)
theorem aal:Sz prog 30 1:=aak.sz
theorem FF:lV prog 30:=⟨_,underlying30,rfl⟩
theorem aam:El prog 31 1 24 (.slice none 0 0):=El.mk (by kernel_rfl) (by first|rfl|simp[Value.cells]) (by decide)
theorem Nv:Sz prog 31 1:=aam.sz
theorem sW:lV prog 31:=⟨_,underlying31,rfl⟩
theorem aan:El prog 32 3 56 (.agg #[.slice none 0 0,.slice none 0 0,.int .i64 0]):=El.mk (by kernel_rfl) (by first|rfl|simp[Value.cells]) (by decide)
theorem z32:Zr prog 32 (.agg #[.slice none 0 0,.slice none 0 0,.int .i64 0]):=aan.zr
theorem XC:El prog 33 3 56 (.agg #[.slice none 0 0,.slice none 0 0,.int .i64 0]):=El.mk (by kernel_rfl) (by first|rfl|simp[Value.cells]) (by decide)
theorem qW:Sz prog 33 3:=XC.sz
theorem z33:Zr prog 33 (.agg #[.slice none 0 0,.slice none 0 0,.int .i64 0]):=XC.zr
theorem Nw:mq prog 33 3:=⟨_,underlying33,rfl,qW⟩
theorem aao:El prog 34 6 112 (.agg #[.slice none 0 0,.slice none 0 0,.int .i64 0,.slice none 0 0,.slice none 0 0,.int .i64 0]):=El.mk (by kernel_rfl) (by first|rfl|simp[Value.cells]) (by decide)
theorem aap:Sz prog 34 6:=aao.sz
theorem Ti:mq prog 34 6:=⟨_,underlying34,rfl,aap⟩
theorem aaq:El prog 35 1 8 (.nilFunc):=El.mk (by kernel_rfl) (by first|rfl|simp[Value.cells]) (by decide)
theorem z35:Zr prog 35 (.nilFunc):=aaq.zr
theorem aar:El prog 36 33 40 (.agg #[.int .u8 0,.int .u8 0,.int .u8 0,.int .u8 0,.int .u8 0,.int .u8 0,.int .u8 0,.int .u8 0,.int .u8 0,.int .u8 0,.int .u8 0,.int .u8 0,.int .u8 0,.int .u8 0,.int .u8 0,.int .u8 0,.int .u8 0,.int .u8 0,.int .u8 0,.int .u8 0,.int .u8 0,.int .u8 0,.int .u8 0,.int .u8 0,.int .u8 0,.int .u8 0,.int .u8 0,.int .u8 0,.int .u8 0,.int .u8 0,.int .u8 0,.int .u8 0,.int .i64 0]):=El.mk (by kernel_rfl) (by first|rfl|simp[Value.cells]) (by decide)
theorem z36:Zr prog 36 (.agg #[.int .u8 0,.int .u8 0,.int .u8 0,.int .u8 0,.int .u8 0,.int .u8 0,.int .u8 0,.int .u8 0,.int .u8 0,.int .u8 0,.int .u8 0,.int .u8 0,.int .u8 0,.int .u8 0,.int .u8 0,.int .u8 0,.int .u8 0,.int .u8 0,.int .u8 0,.int .u8 0,.int .u8 0,.int .u8 0,.int .u8 0,.int .u8 0,.int .u8 0,.int .u8 0,.int .u8 0,.int .u8 0,.int .u8 0,.int .u8 0,.int .u8 0,.int .u8 0,.int .i64 0]):=aar.zr
theorem Tj:El prog 37 33 40 (.agg #[.int .u8 0,.int .u8 0,.int .u8 0,.int .u8 0,.int .u8 0,.int .u8 0,.int .u8 0,.int .u8 0,.int .u8 0,.int .u8 0,.int .u8 0,.int .u8 0,.int .u8 0,.int .u8 0,.int .u8 0,.int .u8 0,.int .u8 0,.int .u8 0,.int .u8 0,.int .u8 0,.int .u8 0,.int .u8 0,.int .u8 0,.int .u8 0,.int .u8 0,.int .u8 0,.int .u8 0,.int .u8 0,.int .u8 0,.int .u8 0,.int .u8 0,.int .u8 0,.int .i64 0]):=El.mk (by kernel_rfl) (by first|rfl|simp[Value.cells]) (by decide)
theorem Jz:Sz prog 37 33:=Tj.sz
theorem z37:Zr prog 37 (.agg #[.int .u8 0,.int .u8 0,.int .u8 0,.int .u8 0,.int .u8 0,.int .u8 0,.int .u8 0,.int .u8 0,.int .u8 0,.int .u8 0,.int .u8 0,.int .u8 0,.int .u8 0,.int .u8 0,.int .u8 0,.int .u8 0,.int .u8 0,.int .u8 0,.int .u8 0,.int .u8 0,.int .u8 0,.int .u8 0,.int .u8 0,.int .u8 0,.int .u8 0,.int .u8 0,.int .u8 0,.int .u8 0,.int .u8 0,.int .u8 0,.int .u8 0,.int .u8 0,.int .i64 0]):=Tj.zr
theorem Ny:mq prog 37 33:=⟨_,underlying37,rfl,Jz⟩
theorem Hu:El prog 39 1 8 (.int .u64 0):=El.mk (by kernel_rfl) (by first|rfl|simp[Value.cells]) (by decide)
theorem sZ:Sz prog 39 1:=Hu.sz
theorem qj:lV prog 39:=⟨_,underlying39,rfl⟩
theorem XD:El prog 41 5 40 (.agg #[.int .u64 0,.int .u64 0,.int .u64 0,.int .u64 0,.int .u64 0]):=El.mk (by kernel_rfl) (by first|rfl|simp[Value.cells]) (by decide)
theorem Bb:Sz prog 41 5:=XD.sz
theorem z41:Zr prog 41 (.agg #[.int .u64 0,.int .u64 0,.int .u64 0,.int .u64 0,.int .u64 0]):=XD.zr
theorem PX:mq prog 41 5:=⟨_,underlying41,rfl,Bb⟩
theorem aas:El prog 42 10 80 (.agg (List.replicate 10 (.int .u64 0)).toArray):=El.mk (by kernel_rfl) (by first|rfl|simp[Value.cells]) (by decide)
theorem XE:Sz prog 42 10:=aas.sz
theorem XF:El prog 44 6 48 (.agg #[.int .i64 0,.int .i64 0,.int .i64 0,.int .i64 0,.int .i64 0,.int .i64 0]):=El.mk (by kernel_rfl) (by first|rfl|simp[Value.cells]) (by decide)
theorem rD:Sz prog 44 6:=XF.sz
theorem z44:Zr prog 44 (.agg #[.int .i64 0,.int .i64 0,.int .i64 0,.int .i64 0,.int .i64 0,.int .i64 0]):=XF.zr
theorem FH:mq prog 44 6:=⟨_,underlying44,rfl,rD⟩
theorem aat:El prog 45 12 96 (.agg (List.replicate 12 (.int .i64 0)).toArray):=El.mk (by kernel_rfl) (by first|rfl|simp[Value.cells]) (by decide)
theorem VA:Sz prog 45 12:=aat.sz
theorem VB:mq prog 45 12:=⟨_,underlying45,rfl,VA⟩
theorem aau:El prog 46 57 232 (.agg #[.int .u8 0,.int .u8 0,.int .u8 0,.int .u8 0,.int .u8 0,.int .u8 0,.int .u8 0,.int .u8 0,.int .u8 0,.int .u8 0,.int .u8 0,.int .u8 0,.int .u8 0,.int .u8 0,.int .u8 0,.int .u8 0,.int .u8 0,.int .u8 0,.int .u8 0,.int .u8 0,.int .u8 0,.int .u8 0,.int .u8 0,.int .u8 0,.int .u8 0,.int .u8 0,.int .u8 0,.int .u8 0,.int .u8 0,.int .u8 0,.int .u8 0,.int .u8 0,.int .i64 0,.int .i64 0,.int .u64 0,.int .u64 0,.int .u64 0,.int .u64 0,.int .u64 0,.int .u64 0,.int .u64 0,.int .u64 0,.int .u64 0,.int .u64 0,.int .i64 0,.int .i64 0,.int .i64 0,.int .i64 0,.int .i64 0,.int .i64 0,.int .i64 0,.int .i64 0,.int .i64 0,.int .i64 0,.int .i64 0,.int .i64 0,.int .i64 0]):=El.mk (by kernel_rfl) (by first|rfl|simp[Value.cells]) (by decide)
theorem z46:Zr prog 46 (.agg #[.int .u8 0,.int .u8 0,.int .u8 0,.int .u8 0,.int .u8 0,.int .u8 0,.int .u8 0,.int .u8 0,.int .u8 0,.int .u8 0,.int .u8 0,.int .u8 0,.int .u8 0,.int .u8 0,.int .u8 0,.int .u8 0,.int .u8 0,.int .u8 0,.int .u8 0,.int .u8 0,.int .u8 0,.int .u8 0,.int .u8 0,.int .u8 0,.int .u8 0,.int .u8 0,.int .u8 0,.int .u8 0,.int .u8 0,.int .u8 0,.int .u8 0,.int .u8 0,.int .i64 0,.int .i64 0,.int .u64 0,.int .u64 0,.int .u64 0,.int .u64 0,.int .u64 0,.int .u64 0,.int .u64 0,.int .u64 0,.int .u64 0,.int .u64 0,.int .i64 0,.int .i64 0,.int .i64 0,.int .i64 0,.int .i64 0,.int .i64 0,.int .i64 0,.int .i64 0,.int .i64 0,.int .i64 0,.int .i64 0,.int .i64 0,.int .i64 0]):=aau.zr
theorem XG:El prog 47 57 232 (.agg #[.int .u8 0,.int .u8 0,.int .u8 0,.int .u8 0,.int .u8 0,.int .u8 0,.int .u8 0,.int .u8 0,.int .u8 0,.int .u8 0,.int .u8 0,.int .u8 0,.int .u8 0,.int .u8 0,.int .u8 0,.int .u8 0,.int .u8 0,.int .u8 0,.int .u8 0,.int .u8 0,.int .u8 0,.int .u8 0,.int .u8 0,.int .u8 0,.int .u8 0,.int .u8 0,.int .u8 0,.int .u8 0,.int .u8 0,.int .u8 0,.int .u8 0,.int .u8 0,.int .i64 0,.int .i64 0,.int .u64 0,.int .u64 0,.int .u64 0,.int .u64 0,.int .u64 0,.int .u64 0,.int .u64 0,.int .u64 0,.int .u64 0,.int .u64 0,.int .i64 0,.int .i64 0,.int .i64 0,.int .i64 0,.int .i64 0,.int .i64 0,.int .i64 0,.int .i64 0,.int .i64 0,.int .i64 0,.int .i64 0,.int .i64 0,.int .i64 0]):=El.mk (by kernel_rfl) (by first|rfl|simp[Value.cells]) (by decide)
theorem yQ:Sz prog 47 57:=XG.sz
theorem z47:Zr prog 47 (.agg #[.int .u8 0,.int .u8 0,.int .u8 0,.int .u8 0,.int .u8 0,.int .u8 0,.int .u8 0,.int .u8 0,.int .u8 0,.int .u8 0,.int .u8 0,.int .u8 0,.int .u8 0,.int .u8 0,.int .u8 0,.int .u8 0,.int .u8 0,.int .u8 0,.int .u8 0,.int .u8 0,.int .u8 0,.int .u8 0,.int .u8 0,.int .u8 0,.int .u8 0,.int .u8 0,.int .u8 0,.int .u8 0,.int .u8 0,.int .u8 0,.int .u8 0,.int .u8 0,.int .i64 0,.int .i64 0,.int .u64 0,.int .u64 0,.int .u64 0,.int .u64 0,.int .u64 0,.int .u64 0,.int .u64 0,.int .u64 0,.int .u64 0,.int .u64 0,.int .i64 0,.int .i64 0,.int .i64 0,.int .i64 0,.int .i64 0,.int .i64 0,.int .i64 0,.int .i64 0,.int .i64 0,.int .i64 0,.int .i64 0,.int .i64 0,.int .i64 0]):=XG.zr
theorem pU:mq prog 47 57:=⟨_,underlying47,rfl,yQ⟩
theorem aav:El prog 48 1 8 (.int .u64 0):=El.mk (by kernel_rfl) (by first|rfl|simp[Value.cells]) (by decide)
theorem Hw:Sz prog 48 1:=aav.sz
theorem Nz:lV prog 48:=⟨_,underlying48,rfl⟩
theorem XH:El prog 50 37 72 (.agg #[.int .u64 0,.int .u64 0,.int .u64 0,.int .u64 0,.int .u64 0,.int .u8 0,.int .u8 0,.int .u8 0,.int .u8 0,.int .u8 0,.int .u8 0,.int .u8 0,.int .u8 0,.int .u8 0,.int .u8 0,.int .u8 0,.int .u8 0,.int .u8 0,.int .u8 0,.int .u8 0,.int .u8 0,.int .u8 0,.int .u8 0,.int .u8 0,.int .u8 0,.int .u8 0,.int .u8 0,.int .u8 0,.int .u8 0,.int .u8 0,.int .u8 0,.int .u8 0,.int .u8 0,.int .u8 0,.int .u8 0,.int .u8 0,.int .u8 0]):=El.mk (by kernel_rfl) (by first|rfl|simp[Value.cells]) (by decide)
theorem PY:Sz prog 50 37:=XH.sz
theorem z50:Zr prog 50 (.agg #[.int .u64 0,.int .u64 0,.int .u64 0,.int .u64 0,.int .u64 0,.int .u8 0,.int .u8 0,.int .u8 0,.int .u8 0,.int .u8 0,.int .u8 0,.int .u8 0,.int .u8 0,.int .u8 0,.int .u8 0,.int .u8 0,.int .u8 0,.int .u8 0,.int .u8 0,.int .u8 0,.int .u8 0,.int .u8 0,.int .u8 0,.int .u8 0,.int .u8 0,.int .u8 0,.int .u8 0,.int .u8 0,.int .u8 0,.int .u8 0,.int .u8 0,.int .u8 0,.int .u8 0,.int .u8 0,.int .u8 0,.int .u8 0,.int .u8 0]):=XH.zr
theorem VC:mq prog 50 37:=⟨_,underlying50,rfl,PY⟩
theorem XI:El prog 51 74 144 (.agg #[.int .u64 0,.int .u64 0,.int .u64 0,.int .u64 0,.int .u64 0,.int .u8 0,.int .u8 0,.int .u8 0,.int .u8 0,.int .u8 0,.int .u8 0,.int .u8 0,.int .u8 0,.int .u8 0,.int .u8 0,.int .u8 0,.int .u8 0,.int .u8 0,.int .u8 0,.int .u8 0,.int .u8 0,.int .u8 0,.int .u8 0,.int .u8 0,.int .u8 0,.int .u8 0,.int .u8 0,.int .u8 0,.int .u8 0,.int .u8 0,.int .u8 0,.int .u8 0,.int .u8 0,.int .u8 0,.int .u8 0,.int .u8 0,.int .u8 0,.int .u64 0,.int .u64 0,.int .u64 0,.int .u64 0,.int .u64 0,.int .u8 0,.int .u8 0,.int .u8 0,.int .u8 0,.int .u8 0,.int .u8 0,.int .u8 0,.int .u8 0,.int .u8 0,.int .u8 0,.int .u8 0,.int .u8 0,.int .u8 0,.int .u8 0,.int .u8 0,.int .u8 0,.int .u8 0,.int .u8 0,.int .u8 0,.int .u8 0,.int .u8 0,.int .u8 0,.int .u8 0,.int .u8 0,.int .u8 0,.int .u8 0,.int .u8 0,.int .u8 0,.int .u8 0,.int .u8 0,.int .u8 0,.int .u8 0]):=El.mk (by kernel_rfl) (by first|rfl|simp[Value.cells]) (by decide)
theorem NA:Sz prog 51 74:=XI.sz
theorem z51:Zr prog 51 (.agg #[.int .u64 0,.int .u64 0,.int .u64 0,.int .u64 0,.int .u64 0,.int .u8 0,.int .u8 0,.int .u8 0,.int .u8 0,.int .u8 0,.int .u8 0,.int .u8 0,.int .u8 0,.int .u8 0,.int .u8 0,.int .u8 0,.int .u8 0,.int .u8 0,.int .u8 0,.int .u8 0,.int .u8 0,.int .u8 0,.int .u8 0,.int .u8 0,.int .u8 0,.int .u8 0,.int .u8 0,.int .u8 0,.int .u8 0,.int .u8 0,.int .u8 0,.int .u8 0,.int .u8 0,.int .u8 0,.int .u8 0,.int .u8 0,.int .u8 0,.int .u64 0,.int .u64 0,.int .u64 0,.int .u64 0,.int .u64 0,.int .u8 0,.int .u8 0,.int .u8 0,.int .u8 0,.int .u8 0,.int .u8 0,.int .u8 0,.int .u8 0,.int .u8 0,.int .u8 0,.int .u8 0,.int .u8 0,.int .u8 0,.int .u8 0,.int .u8 0,.int .u8 0,.int .u8 0,.int .u8 0,.int .u8 0,.int .u8 0,.int .u8 0,.int .u8 0,.int .u8 0,.int .u8 0,.int .u8 0,.int .u8 0,.int .u8 0,.int .u8 0,.int .u8 0,.int .u8 0,.int .u8 0,.int .u8 0]):=XI.zr
theorem NB:mq prog 51 74:=⟨_,underlying51,rfl,NA⟩
theorem XJ:El prog 52 2 16 (.agg #[.int .i64 0,.int .i64 0]):=El.mk (by kernel_rfl) (by first|rfl|simp[Value.cells]) (by decide)
theorem FI:Sz prog 52 2:=XJ.sz
theorem z52:Zr prog 52 (.agg #[.int .i64 0,.int .i64 0]):=XJ.zr
theorem XK:prog.eqGuardType prog.depth 52=false:=by kernel_rfl
theorem vY:mq prog 52 2:=⟨_,underlying52,rfl,FI⟩
theorem XL:El prog 53 1 24 (.slice none 0 0):=El.mk (by kernel_rfl) (by first|rfl|simp[Value.cells]) (by decide)
theorem VD:Sz prog 53 1:=XL.sz
theorem z53:Zr prog 53 (.slice none 0 0):=XL.zr
theorem EG:lV prog 53:=⟨_,underlying53,rfl⟩
theorem XM:El prog 55 5 56 (.agg #[.int .i64 0,.int .i64 0,.int .i64 0,.slice none 0 0,.int .i64 0]):=El.mk (by kernel_rfl) (by first|rfl|simp[Value.cells]) (by decide)
theorem xS:Sz prog 55 5:=XM.sz
theorem z55:Zr prog 55 (.agg #[.int .i64 0,.int .i64 0,.int .i64 0,.slice none 0 0,.int .i64 0]):=XM.zr
theorem nU:mq prog 55 5:=⟨_,underlying55,rfl,xS⟩
theorem aaw:El prog 57 1 8 (.nilFunc):=El.mk (by kernel_rfl) (by first|rfl|simp[Value.cells]) (by decide)
theorem z57:Zr prog 57 (.nilFunc):=aaw.zr
theorem aax:El prog 59 1 24 (.slice none 0 0):=El.mk (by kernel_rfl) (by first|rfl|simp[Value.cells]) (by decide)
theorem PZ:Sz prog 59 1:=aax.sz
theorem Co:lV prog 59:=⟨_,underlying59,rfl⟩
theorem XN:El prog 61 3 56 (.agg #[.slice none 0 0,.slice none 0 0,.int .i64 0]):=El.mk (by kernel_rfl) (by first|rfl|simp[Value.cells]) (by decide)
theorem vZ:Sz prog 61 3:=XN.sz
theorem z61:Zr prog 61 (.agg #[.slice none 0 0,.slice none 0 0,.int .i64 0]):=XN.zr
theorem ql:mq prog 61 3:=⟨_,underlying61,rfl,vZ⟩
theorem aay:El prog 64 1 8 (.nilFunc):=El.mk (by kernel_rfl) (by first|rfl|simp[Value.cells]) (by decide)
theorem z64:Zr prog 64 (.nilFunc):=aay.zr
theorem aaz:El prog 67 1 24 (.slice none 0 0):=El.mk (by kernel_rfl) (by first|rfl|simp[Value.cells]) (by decide)
theorem XO:Sz prog 67 1:=aaz.sz
theorem Hy:lV prog 67:=⟨_,underlying67,rfl⟩
theorem KJ:El prog 70 5 40 (.agg #[.int .i64 0,.int .i64 0,.int .i64 0,.int .i64 0,.int .i64 0]):=El.mk (by kernel_rfl) (by first|rfl|simp[Value.cells]) (by decide)
theorem rQ:Sz prog 70 5:=KJ.sz
theorem z70:Zr prog 70 (.agg #[.int .i64 0,.int .i64 0,.int .i64 0,.int .i64 0,.int .i64 0]):=KJ.zr
theorem wW:mq prog 70 5:=⟨_,underlying70,rfl,rQ⟩
theorem XP:El prog 72 34 48 (.agg #[.int .u8 0,.int .u8 0,.int .u8 0,.int .u8 0,.int .u8 0,.int .u8 0,.int .u8 0,.int .u8 0,.int .u8 0,.int .u8 0,.int .u8 0,.int .u8 0,.int .u8 0,.int .u8 0,.int .u8 0,.int .u8 0,.int .u8 0,.int .u8 0,.int .u8 0,.int .u8 0,.int .u8 0,.int .u8 0,.int .u8 0,.int .u8 0,.int .u8 0,.int .u8 0,.int .u8 0,.int .u8 0,.int .u8 0,.int .u8 0,.int .u8 0,.int .u8 0,.int .i64 0,.int .i64 0]):=El.mk (by kernel_rfl) (by first|rfl|simp[Value.cells]) (by decide)
theorem Hz:Sz prog 72 34:=XP.sz
theorem z72:Zr prog 72 (.agg #[.int .u8 0,.int .u8 0,.int .u8 0,.int .u8 0,.int .u8 0,.int .u8 0,.int .u8 0,.int .u8 0,.int .u8 0,.int .u8 0,.int .u8 0,.int .u8 0,.int .u8 0,.int .u8 0,.int .u8 0,.int .u8 0,.int .u8 0,.int .u8 0,.int .u8 0,.int .u8 0,.int .u8 0,.int .u8 0,.int .u8 0,.int .u8 0,.int .u8 0,.int .u8 0,.int .u8 0,.int .u8 0,.int .u8 0,.int .u8 0,.int .u8 0,.int .u8 0,.int .i64 0,.int .i64 0]):=XP.zr
theorem VE:mq prog 72 34:=⟨_,underlying72,rfl,Hz⟩
theorem aaA:El prog 73 1 24 (.slice none 0 0):=El.mk (by kernel_rfl) (by first|rfl|simp[Value.cells]) (by decide)
theorem VF:Sz prog 73 1:=aaA.sz
theorem HV:lV prog 73:=⟨_,underlying73,rfl⟩
theorem XQ:El prog 75 1 24 (.agg #[.slice none 0 0]):=El.mk (by kernel_rfl) (by first|rfl|simp[Value.cells]) (by decide)
theorem xU:Sz prog 75 1:=XQ.sz
theorem z75:Zr prog 75 (.agg #[.slice none 0 0]):=XQ.zr
theorem sM:mq prog 75 1:=⟨_,underlying75,rfl,xU⟩
theorem KL:El prog 77 2 32 (.agg #[.int .i64 0,.slice none 0 0]):=El.mk (by kernel_rfl) (by first|rfl|simp[Value.cells]) (by decide)
theorem Cq:Sz prog 77 2:=KL.sz
theorem z77:Zr prog 77 (.agg #[.int .i64 0,.slice none 0 0]):=KL.zr
theorem Tk:mq prog 77 2:=⟨_,underlying77,rfl,Cq⟩
theorem Tm:El prog 91 3 24 (.agg #[.int .i64 0,.int .i64 0,.int .i64 0]):=El.mk (by kernel_rfl) (by first|rfl|simp[Value.cells]) (by decide)
theorem VG:Sz prog 91 3:=Tm.sz
theorem z91:Zr prog 91 (.agg #[.int .i64 0,.int .i64 0,.int .i64 0]):=Tm.zr
theorem aaB:mq prog 91 3:=⟨_,underlying91,rfl,VG⟩
theorem XR:El prog 107 1 24 (.slice none 0 0):=El.mk (by kernel_rfl) (by first|rfl|simp[Value.cells]) (by decide)
theorem UF:Sz prog 107 1:=XR.sz
theorem Mg:lV prog 107:=⟨_,underlying107,rfl⟩
theorem XT:El prog 109 3 40 (.agg #[.int .i64 0,.slice none 0 0,.int .u64 0]):=El.mk (by kernel_rfl) (by first|rfl|simp[Value.cells]) (by decide)
theorem P5:Sz prog 109 3:=XT.sz
theorem XU:mq prog 109 3:=⟨_,underlying109,rfl,P5⟩
theorem Bc:El prog 111 36 80 (.agg #[.int .u8 0,.int .u8 0,.int .u8 0,.int .u8 0,.int .u8 0,.int .u8 0,.int .u8 0,.int .u8 0,.int .u8 0,.int .u8 0,.int .u8 0,.int .u8 0,.int .u8 0,.int .u8 0,.int .u8 0,.int .u8 0,.int .u8 0,.int .u8 0,.int .u8 0,.int .u8 0,.int .u8 0,.int .u8 0,.int .u8 0,.int .u8 0,.int .u8 0,.int .u8 0,.int .u8 0,.int .u8 0,.int .u8 0,.int .u8 0,.int .u8 0,.int .u8 0,.int .i64 0,.int .i64 0,.slice none 0 0,.int .u64 0]):=El.mk (by kernel_rfl) (by first|rfl|simp[Value.cells]) (by decide)
theorem C9:Sz prog 111 36:=Bc.sz
theorem KM:Zr prog 111 (.agg #[.int .u8 0,.int .u8 0,.int .u8 0,.int .u8 0,.int .u8 0,.int .u8 0,.int .u8 0,.int .u8 0,.int .u8 0,.int .u8 0,.int .u8 0,.int .u8 0,.int .u8 0,.int .u8 0,.int .u8 0,.int .u8 0,.int .u8 0,.int .u8 0,.int .u8 0,.int .u8 0,.int .u8 0,.int .u8 0,.int .u8 0,.int .u8 0,.int .u8 0,.int .u8 0,.int .u8 0,.int .u8 0,.int .u8 0,.int .u8 0,.int .u8 0,.int .u8 0,.int .i64 0,.int .i64 0,.slice none 0 0,.int .u64 0]):=Bc.zr
theorem P6:mq prog 111 36:=⟨_,underlying111,rfl,C9⟩
theorem XV:El prog 112 1 24 (.slice none 0 0):=El.mk (by kernel_rfl) (by first|rfl|simp[Value.cells]) (by decide)
theorem P7:Sz prog 112 1:=XV.sz
theorem Gh:lV prog 112:=⟨_,underlying112,rfl⟩
theorem JA:El prog 114 4 48 (.agg #[.slice none 0 0,.int .i64 0,.int .i64 0,.int .u64 0]):=El.mk (by kernel_rfl) (by first|rfl|simp[Value.cells]) (by decide)
theorem Gi:Sz prog 114 4:=JA.sz
theorem Tn:Zr prog 114 (.agg #[.slice none 0 0,.int .i64 0,.int .i64 0,.int .u64 0]):=JA.zr
theorem P8:mq prog 114 4:=⟨_,underlying114,rfl,Gi⟩
theorem JB:El prog 122 1 24 (.slice none 0 0):=El.mk (by kernel_rfl) (by first|rfl|simp[Value.cells]) (by decide)
theorem ze:Sz prog 122 1:=JB.sz
theorem wh:lV prog 122:=⟨_,underlying122,rfl⟩
theorem XW:El prog 129 1 8 (.map none):=El.mk (by kernel_rfl) (by first|rfl|simp[Value.cells]) (by decide)
theorem P9:Sz prog 129 1:=XW.sz
theorem rR:lV prog 129:=⟨_,underlying129,rfl⟩
theorem XX:El prog 130 1 8 (.map none):=El.mk (by kernel_rfl) (by first|rfl|simp[Value.cells]) (by decide)
theorem UG:Sz prog 130 1:=XX.sz
theorem EH:lV prog 130:=⟨_,underlying130,rfl⟩
theorem XY:El prog 132 4 48 (.agg #[.slice none 0 0,.map none,.map none,.int .i64 0]):=El.mk (by kernel_rfl) (by first|rfl|simp[Value.cells]) (by decide)
theorem aaC:Zr prog 132 (.agg #[.slice none 0 0,.map none,.map none,.int .i64 0]):=XY.zr
theorem UH:El prog 138 3 24 (.agg #[.int .i64 0,.int .i64 0,.int .i64 0]):=El.mk (by kernel_rfl) (by first|rfl|simp[Value.cells]) (by decide)
theorem JC:Sz prog 138 3:=UH.sz
theorem z138:Zr prog 138 (.agg #[.int .i64 0,.int .i64 0,.int .i64 0]):=UH.zr
theorem Da:mq prog 138 3:=⟨_,underlying138,rfl,JC⟩
theorem UI:El prog 140 2 16 (.agg #[.int .i64 0,.int .u64 0]):=El.mk (by kernel_rfl) (by first|rfl|simp[Value.cells]) (by decide)
theorem EI:Sz prog 140 2:=UI.sz
theorem yR:Zr prog 140 (.agg #[.int .i64 0,.int .u64 0]):=UI.zr
theorem UJ:El prog 170 1 8 (.pointer none):=El.mk (by kernel_rfl) (by first|rfl|simp[Value.cells]) (by decide)
theorem XZ:Sz prog 170 1:=UJ.sz
theorem aaD:Zr prog 170 (.pointer none):=UJ.zr
theorem si:lV prog 170:=⟨_,underlying170,rfl⟩
theorem Qa:El prog 179 2 16 (.agg #[.int .u64 0,.int .u64 0]):=El.mk (by kernel_rfl) (by first|rfl|simp[Value.cells]) (by decide)
theorem aaE:Zr prog 179 (.agg #[.int .u64 0,.int .u64 0]):=Qa.zr
theorem X0:El prog 198 2 32 (.agg #[.slice none 0 0,.bool false]):=El.mk (by kernel_rfl) (by first|rfl|simp[Value.cells]) (by decide)
theorem z198:Zr prog 198 (.agg #[.slice none 0 0,.bool false]):=X0.zr
theorem X3:El prog 206 8 8 (.agg #[.int .u8 0,.int .u8 0,.int .u8 0,.int .u8 0,.int .u8 0,.int .u8 0,.int .u8 0,.int .u8 0]):=El.mk (by kernel_rfl) (by first|rfl|simp[Value.cells]) (by decide)
theorem z206:Zr prog 206 (.agg #[.int .u8 0,.int .u8 0,.int .u8 0,.int .u8 0,.int .u8 0,.int .u8 0,.int .u8 0,.int .u8 0]):=X3.zr
theorem UK:El prog 232 8 32 (.agg #[.int .u32 0,.int .u32 0,.int .u32 0,.int .u32 0,.int .u32 0,.int .u32 0,.int .u32 0,.int .u32 0]):=El.mk (by kernel_rfl) (by first|rfl|simp[Value.cells]) (by decide)
theorem Db:Sz prog 232 8:=UK.sz
theorem z232:Zr prog 232 (.agg #[.int .u32 0,.int .u32 0,.int .u32 0,.int .u32 0,.int .u32 0,.int .u32 0,.int .u32 0,.int .u32 0]):=UK.zr
theorem Gj:mq prog 232 8:=⟨_,underlying232,rfl,Db⟩
theorem UL:El prog 243 64 256 (.agg (List.replicate 64 (.int .u32 0)).toArray):=El.mk (by kernel_rfl) (by first|rfl|simp[Value.cells]) (by decide)
theorem JD:Sz prog 243 64:=UL.sz
theorem Qb:Zr prog 243 (.agg (List.replicate 64 (.int .u32 0)).toArray):=UL.zr
theorem Qc:mq prog 243 64:=⟨_,underlying243,rfl,JD⟩
theorem go4:jV prog 4:=⟨_,func4,rfl,by decide⟩
theorem go5:jV prog 5:=⟨_,func5,rfl,by decide⟩
theorem go6:jV prog 6:=⟨_,func6,rfl,by decide⟩
theorem go7:jV prog 7:=⟨_,func7,rfl,by decide⟩
theorem X4:jV prog 8:=⟨_,func8,rfl,by decide⟩
theorem X5:jV prog 9:=⟨_,func9,rfl,by decide⟩
theorem X6:jV prog 10:=⟨_,func10,rfl,by decide⟩
theorem X7:jV prog 11:=⟨_,func11,rfl,by decide⟩
theorem VH:jV prog 12:=⟨_,func12,rfl,by decide⟩
theorem NC:jV prog 13:=⟨_,func13,rfl,by decide⟩
theorem ND:jV prog 14:=⟨_,func14,rfl,by decide⟩
theorem aaF:jV prog 15:=⟨_,func15,rfl,by decide⟩
theorem Tp:jV prog 16:=⟨_,func16,rfl,by decide⟩
theorem aaG:jV prog 17:=⟨_,func17,rfl,by decide⟩
theorem X8:jV prog 18:=⟨_,func18,rfl,by decide⟩
theorem aaH:jV prog 19:=⟨_,func19,rfl,by decide⟩
theorem X9:jV prog 20:=⟨_,func20,rfl,by decide⟩
theorem aaI:jV prog 21:=⟨_,func21,rfl,by decide⟩
theorem aaJ:jV prog 22:=⟨_,func22,rfl,by decide⟩
theorem aaK:jV prog 23:=⟨_,func23,rfl,by decide⟩
theorem Ya:jV prog 24:=⟨_,func24,rfl,by decide⟩
theorem Yb:jV prog 25:=⟨_,func25,rfl,by decide⟩
theorem aaL:jV prog 26:=⟨_,func26,rfl,by decide⟩
theorem aaM:jV prog 27:=⟨_,func27,rfl,by decide⟩
theorem Yc:jV prog 30:=⟨_,func30,rfl,by decide⟩
theorem Yd:jV prog 31:=⟨_,func31,rfl,by decide⟩
theorem aaN:jV prog 32:=⟨_,func32,rfl,by decide⟩
theorem aaO:jV prog 33:=⟨_,func33,rfl,by decide⟩
theorem aaP:jV prog 34:=⟨_,func34,rfl,by decide⟩
theorem aaQ:jV prog 35:=⟨_,func35,rfl,by decide⟩
theorem aaR:jV prog 36:=⟨_,func36,rfl,by decide⟩
theorem aaS:jV prog 37:=⟨_,func37,rfl,by decide⟩
theorem VI:jV prog 38:=⟨_,func38,rfl,by decide⟩
theorem aaT:jV prog 39:=⟨_,func39,rfl,by decide⟩
theorem Ye:jV prog 40:=⟨_,func40,rfl,by decide⟩
theorem Dm:jV prog 41:=⟨_,func41,rfl,by decide⟩
theorem Tq:jV prog 42:=⟨_,func42,rfl,by decide⟩
theorem Tt:jV prog 43:=⟨_,func43,rfl,by decide⟩
theorem Yf:jV prog 44:=⟨_,func44,rfl,by decide⟩
theorem Yg:jV prog 45:=⟨_,func45,rfl,by decide⟩
theorem aaU:jV prog 46:=⟨_,func46,rfl,by decide⟩
theorem Yh:jV prog 47:=⟨_,func47,rfl,by decide⟩
theorem aaV:jV prog 48:=⟨_,func48,rfl,by decide⟩
theorem aaW:jV prog 49:=⟨_,func49,rfl,by decide⟩
theorem aaX:jV prog 50:=⟨_,func50,rfl,by decide⟩
theorem aaY:jV prog 51:=⟨_,func51,rfl,by decide⟩
theorem Qd:jV prog 52:=⟨_,func52,rfl,by decide⟩
theorem NF:jV prog 53:=⟨_,func53,rfl,by decide⟩
theorem Qe:jV prog 54:=⟨_,func54,rfl,by decide⟩
theorem aaZ:jV prog 55:=⟨_,func55,rfl,by decide⟩
theorem Tu:jV prog 56:=⟨_,func56,rfl,by decide⟩
theorem Yi:jV prog 59:=⟨_,func59,rfl,by decide⟩
theorem aa0:jV prog 60:=⟨_,func60,rfl,by decide⟩
theorem Yj:jV prog 61:=⟨_,func61,rfl,by decide⟩
theorem aa1:jV prog 62:=⟨_,func62,rfl,by decide⟩
theorem Yk:jV prog 65:=⟨_,func65,rfl,by decide⟩
theorem Yl:jV prog 66:=⟨_,func66,rfl,by decide⟩
theorem VJ:jV prog 67:=⟨_,func67,rfl,by decide⟩
theorem Tv:jV prog 70:=⟨_,func70,rfl,by decide⟩
theorem Ym:jV prog 71:=⟨_,func71,rfl,by decide⟩
theorem Yn:jV prog 72:=⟨_,func72,rfl,by decide⟩
theorem Yo:jV prog 73:=⟨_,func73,rfl,by decide⟩
theorem aa2:jV prog 74:=⟨_,func74,rfl,by decide⟩
theorem aa3:jV prog 75:=⟨_,func75,rfl,by decide⟩
theorem Yp:jV prog 76:=⟨_,func76,rfl,by decide⟩
theorem VK:jV prog 77:=⟨_,func77,rfl,by decide⟩
theorem FJ:jV prog 78:=⟨_,func78,rfl,by decide⟩
theorem aa4:jV prog 79:=⟨_,func79,rfl,by decide⟩
theorem aa5:jV prog 80:=⟨_,func80,rfl,by decide⟩
theorem aa6:jV prog 81:=⟨_,func81,rfl,by decide⟩
theorem Qf:jV prog 82:=⟨_,func82,rfl,by decide⟩
theorem aa7:jV prog 83:=⟨_,func83,rfl,by decide⟩
theorem aa8:jV prog 84:=⟨_,func84,rfl,by decide⟩
theorem Tw:jV prog 85:=⟨_,func85,rfl,by decide⟩
theorem Yq:jV prog 86:=⟨_,func86,rfl,by decide⟩
theorem EJ:jV prog 87:=⟨_,func87,rfl,by decide⟩
theorem VL:jV prog 88:=⟨_,func88,rfl,by decide⟩
theorem aa9:jV prog 89:=⟨_,func89,rfl,by decide⟩
theorem Yr:jV prog 90:=⟨_,func90,rfl,by decide⟩
theorem Yt:jV prog 91:=⟨_,func91,rfl,by decide⟩
theorem Yu:jV prog 93:=⟨_,func93,rfl,by decide⟩
theorem aba:jV prog 97:=⟨_,func97,rfl,by decide⟩
theorem abb:jV prog 98:=⟨_,func98,rfl,by decide⟩
theorem abd:jV prog 99:=⟨_,func99,rfl,by decide⟩
theorem xV:jV prog 100:=⟨_,func100,rfl,by decide⟩
theorem UM:jV prog 101:=⟨_,func101,rfl,by decide⟩
theorem zf:jV prog 102:=⟨_,func102,rfl,by decide⟩
theorem UN:jV prog 103:=⟨_,func103,rfl,by decide⟩
theorem Yv:jV prog 104:=⟨_,func104,rfl,by decide⟩
theorem Yw:jV prog 105:=⟨_,func105,rfl,by decide⟩
theorem Gl:jV prog 106:=⟨_,func106,rfl,by decide⟩
theorem Yx:jV prog 107:=⟨_,func107,rfl,by decide⟩
theorem UO:jV prog 108:=⟨_,func108,rfl,by decide⟩
theorem Yy:jV prog 109:=⟨_,func109,rfl,by decide⟩
theorem Yz:jV prog 112:=⟨_,func112,rfl,by decide⟩
theorem Qg:jV prog 113:=⟨_,func113,rfl,by decide⟩
theorem Gm:jV prog 114:=⟨_,func114,rfl,by decide⟩
theorem YA:jV prog 115:=⟨_,func115,rfl,by decide⟩
theorem Qh:jV prog 116:=⟨_,func116,rfl,by decide⟩
theorem YB:jV prog 117:=⟨_,func117,rfl,by decide⟩
theorem Qi:jV prog 118:=⟨_,func118,rfl,by decide⟩
theorem Qj:jV prog 119:=⟨_,func119,rfl,by decide⟩
theorem Qk:jV prog 120:=⟨_,func120,rfl,by decide⟩
theorem Mh:jV prog 121:=⟨_,func121,rfl,by decide⟩
theorem YC:jV prog 122:=⟨_,func122,rfl,by decide⟩
theorem YD:jV prog 123:=⟨_,func123,rfl,by decide⟩
theorem YE:jV prog 124:=⟨_,func124,rfl,by decide⟩
theorem Ql:jV prog 125:=⟨_,func125,rfl,by decide⟩
theorem UQ:jV prog 126:=⟨_,func126,rfl,by decide⟩
theorem YF:jV prog 127:=⟨_,func127,rfl,by decide⟩
theorem Qm:jV prog 128:=⟨_,func128,rfl,by decide⟩
theorem UR:jV prog 132:=⟨_,func132,rfl,by decide⟩
theorem YG:jV prog 133:=⟨_,func133,rfl,by decide⟩
theorem UT:jV prog 134:=⟨_,func134,rfl,by decide⟩
theorem YH:jV prog 135:=⟨_,func135,rfl,by decide⟩
theorem YI:jV prog 136:=⟨_,func136,rfl,by decide⟩
theorem UU:jV prog 137:=⟨_,func137,rfl,by decide⟩
theorem YJ:jV prog 139:=⟨_,func139,rfl,by decide⟩
theorem UW:jV prog 140:=⟨_,func140,rfl,by decide⟩
theorem UX:jV prog 141:=⟨_,func141,rfl,by decide⟩
theorem YK:jV prog 142:=⟨_,func142,rfl,by decide⟩
theorem UY:jV prog 143:=⟨_,func143,rfl,by decide⟩
theorem Qn:jV prog 144:=⟨_,func144,rfl,by decide⟩
theorem YL:jV prog 145:=⟨_,func145,rfl,by decide⟩
theorem YM:jV prog 146:=⟨_,func146,rfl,by decide⟩
theorem YN:jV prog 147:=⟨_,func147,rfl,by decide⟩
theorem YO:jV prog 158:=⟨_,func158,rfl,by decide⟩
theorem YP:jV prog 159:=⟨_,func159,rfl,by decide⟩
theorem YQ:jV prog 160:=⟨_,func160,rfl,by decide⟩
theorem YR:jV prog 161:=⟨_,func161,rfl,by decide⟩
theorem Qo:jV prog 162:=⟨_,func162,rfl,by decide⟩
theorem YS:jV prog 163:=⟨_,func163,rfl,by decide⟩
theorem YT:jV prog 164:=⟨_,func164,rfl,by decide⟩
theorem UZ:jV prog 165:=⟨_,func165,rfl,by decide⟩
theorem YU:jV prog 166:=⟨_,func166,rfl,by decide⟩
theorem YV:jV prog 172:=⟨_,func172,rfl,by decide⟩
theorem YW:jV prog 173:=⟨_,func173,rfl,by decide⟩
theorem zg:jV prog 174:=⟨_,func174,rfl,by decide⟩
theorem YX:jV prog 175:=⟨_,func175,rfl,by decide⟩
theorem YY:jV prog 176:=⟨_,func176,rfl,by decide⟩
theorem zh:jV prog 177:=⟨_,func177,rfl,by decide⟩
theorem YZ:jV prog 178:=⟨_,func178,rfl,by decide⟩
theorem Y0:jV prog 180:=⟨_,func180,rfl,by decide⟩
end Go.Proofs.YtcaehidaejhdfaaGreat

namespace Go.Proofs.YtcaehidaejhdfaaGreat
open Tryz
open Go Go.Sx
theorem Qp:pE prog 29 0 0:=⟨_,_,_,underlying29,rfl,rfl,aad,by decide⟩
theorem VM:pE prog 29 1 64:=⟨_,_,_,underlying29,rfl,rfl,lq,by decide⟩
theorem VN:pE prog 29 2 65:=⟨_,_,_,underlying29,rfl,rfl,lq,by decide⟩
theorem VO:pE prog 29 3 66:=⟨_,_,_,underlying29,rfl,rfl,vJ,by decide⟩
theorem VP:pE prog 29 4 67:=⟨_,_,_,underlying29,rfl,rfl,vJ,by decide⟩
theorem HY:pE prog 29 5 68:=⟨_,_,_,underlying29,rfl,rfl,XA,by decide⟩
theorem VQ:pE prog 29 6 69:=⟨_,_,_,underlying29,rfl,rfl,aae,by decide⟩
theorem vD:pE prog 33 0 0:=⟨_,_,_,underlying33,rfl,rfl,aal,by decide⟩
theorem tq:pE prog 33 1 1:=⟨_,_,_,underlying33,rfl,rfl,Nv,by decide⟩
theorem vE:pE prog 33 2 2:=⟨_,_,_,underlying33,rfl,rfl,kz,by decide⟩
theorem VR:pE prog 37 0 0:=⟨_,_,_,underlying37,rfl,rfl,zx,by decide⟩
theorem Cs:pE prog 37 1 32:=⟨_,_,_,underlying37,rfl,rfl,kz,by decide⟩
theorem Y1:FX prog 37 [(0,32),(32,1)]:=⟨_,underlying37,fun w=>by simp[kz.run,zx.run]⟩
theorem EK:pE prog 41 0 0:=⟨_,_,_,underlying41,rfl,rfl,sZ,by decide⟩
theorem KN:pE prog 41 1 1:=⟨_,_,_,underlying41,rfl,rfl,sZ,by decide⟩
theorem KO:pE prog 41 2 2:=⟨_,_,_,underlying41,rfl,rfl,sZ,by decide⟩
theorem KP:pE prog 41 3 3:=⟨_,_,_,underlying41,rfl,rfl,sZ,by decide⟩
theorem KQ:pE prog 41 4 4:=⟨_,_,_,underlying41,rfl,rfl,sZ,by decide⟩
theorem abe:FX prog 41 [(0,1),(1,1),(2,1),(3,1),(4,1)]:=⟨_,underlying41,fun w=>by simp[sZ.run]⟩
theorem HZ:pE prog 44 0 0:=⟨_,_,_,underlying44,rfl,rfl,kz,by decide⟩
theorem wX:pE prog 44 1 1:=⟨_,_,_,underlying44,rfl,rfl,kz,by decide⟩
theorem Qq:pE prog 44 2 2:=⟨_,_,_,underlying44,rfl,rfl,kz,by decide⟩
theorem xW:pE prog 44 3 3:=⟨_,_,_,underlying44,rfl,rfl,kz,by decide⟩
theorem Qr:pE prog 44 4 4:=⟨_,_,_,underlying44,rfl,rfl,kz,by decide⟩
theorem xX:pE prog 44 5 5:=⟨_,_,_,underlying44,rfl,rfl,kz,by decide⟩
theorem Y2:FX prog 44 [(0,1),(1,1),(2,1),(3,1),(4,1),(5,1)]:=⟨_,underlying44,fun w=>by simp[kz.run]⟩
theorem EL:pE prog 47 0 0:=⟨_,_,_,underlying47,rfl,rfl,Jz,by decide⟩
theorem qA:pE prog 47 1 33:=⟨_,_,_,underlying47,rfl,rfl,kz,by decide⟩
theorem xY:pE prog 47 2 34:=⟨_,_,_,underlying47,rfl,rfl,XE,by decide⟩
theorem pV:pE prog 47 3 44:=⟨_,_,_,underlying47,rfl,rfl,VA,by decide⟩
theorem vF:pE prog 47 4 56:=⟨_,_,_,underlying47,rfl,rfl,kz,by decide⟩
theorem abf:FX prog 47 [(0,33),(33,1),(34,10),(44,12),(56,1)]:=⟨_,underlying47,fun w=>by simp[kz.run,Jz.run,XE.run,VA.run]⟩
theorem VS:pE prog 50 0 0:=⟨_,_,_,underlying50,rfl,rfl,Hw,by decide⟩
theorem VT:pE prog 50 1 1:=⟨_,_,_,underlying50,rfl,rfl,Hw,by decide⟩
theorem VU:pE prog 50 2 2:=⟨_,_,_,underlying50,rfl,rfl,Hw,by decide⟩
theorem VV:pE prog 50 3 3:=⟨_,_,_,underlying50,rfl,rfl,Hw,by decide⟩
theorem VW:pE prog 50 4 4:=⟨_,_,_,underlying50,rfl,rfl,Hw,by decide⟩
theorem abg:FX prog 50 [(0,1),(1,1),(2,1),(3,1),(4,1),(5,32)]:=⟨_,underlying50,fun w=>by simp[zx.run,Hw.run]⟩
theorem Qs:pE prog 55 0 0:=⟨_,_,_,underlying55,rfl,rfl,kz,by decide⟩
theorem lT:pE prog 55 1 1:=⟨_,_,_,underlying55,rfl,rfl,FI,by decide⟩
theorem tu:pE prog 55 2 3:=⟨_,_,_,underlying55,rfl,rfl,VD,by decide⟩
theorem H5:pE prog 55 3 4:=⟨_,_,_,underlying55,rfl,rfl,kz,by decide⟩
theorem abh:FX prog 55 [(0,1),(1,2),(3,1),(4,1)]:=⟨_,underlying55,fun w=>by simp[kz.run,FI.run,VD.run]⟩
theorem qB:pE prog 61 0 0:=⟨_,_,_,underlying61,rfl,rfl,PZ,by decide⟩
theorem qC:pE prog 61 1 1:=⟨_,_,_,underlying61,rfl,rfl,Nv,by decide⟩
theorem KR:pE prog 61 2 2:=⟨_,_,_,underlying61,rfl,rfl,kz,by decide⟩
theorem FK:FX prog 61 [(0,1),(1,1),(2,1)]:=⟨_,underlying61,fun w=>by simp[kz.run,Nv.run,PZ.run]⟩
theorem uE:pE prog 70 0 0:=⟨_,_,_,underlying70,rfl,rfl,kz,by decide⟩
theorem tC:pE prog 70 1 1:=⟨_,_,_,underlying70,rfl,rfl,FI,by decide⟩
theorem lZ:pE prog 70 2 3:=⟨_,_,_,underlying70,rfl,rfl,FI,by decide⟩
theorem KS:FX prog 70 [(0,1),(1,2),(3,2)]:=⟨_,underlying70,fun w=>by simp[kz.run,FI.run]⟩
theorem Qt:pE prog 72 0 0:=⟨_,_,_,underlying72,rfl,rfl,Jz,by decide⟩
theorem H6:pE prog 72 1 33:=⟨_,_,_,underlying72,rfl,rfl,kz,by decide⟩
theorem vG:pE prog 75 0 0:=⟨_,_,_,underlying75,rfl,rfl,VF,by decide⟩
theorem KT:FX prog 75 [(0,1)]:=⟨_,underlying75,fun w=>by simp[VF.run]⟩
theorem Ct:pE prog 77 0 0:=⟨_,_,_,underlying77,rfl,rfl,kz,by decide⟩
theorem zy:pE prog 77 1 1:=⟨_,_,_,underlying77,rfl,rfl,xU,by decide⟩
theorem Y3:FX prog 77 [(0,1),(1,1)]:=⟨_,underlying77,fun w=>by simp[kz.run,xU.run]⟩
theorem Qu:pE prog 91 0 0:=⟨_,_,_,underlying91,rfl,rfl,kz,by decide⟩
theorem zA:pE prog 91 1 1:=⟨_,_,_,underlying91,rfl,rfl,kz,by decide⟩
theorem zB:pE prog 91 2 2:=⟨_,_,_,underlying91,rfl,rfl,kz,by decide⟩
theorem Tx:FX prog 91 [(0,1),(1,1),(2,1)]:=⟨_,underlying91,fun w=>by simp[kz.run]⟩
theorem Dy:pE prog 109 0 0:=⟨_,_,_,underlying109,rfl,rfl,kz,by decide⟩
theorem Bd:pE prog 109 1 1:=⟨_,_,_,underlying109,rfl,rfl,UF,by decide⟩
theorem Mi:pE prog 109 2 2:=⟨_,_,_,underlying109,rfl,rfl,Hw,by decide⟩
theorem yE:pE prog 111 0 0:=⟨_,_,_,underlying111,rfl,rfl,Jz,by decide⟩
theorem yF:pE prog 111 1 33:=⟨_,_,_,underlying111,rfl,rfl,P5,by decide⟩
theorem Mj:FX prog 111 [(0,33),(33,3)]:=⟨_,underlying111,fun w=>by simp[Jz.run,P5.run]⟩
theorem wY:pE prog 114 0 0:=⟨_,_,_,underlying114,rfl,rfl,P7,by decide⟩
theorem H7:pE prog 114 1 1:=⟨_,_,_,underlying114,rfl,rfl,kz,by decide⟩
theorem H8:pE prog 114 2 2:=⟨_,_,_,underlying114,rfl,rfl,kz,by decide⟩
theorem Dz:pE prog 114 3 3:=⟨_,_,_,underlying114,rfl,rfl,sZ,by decide⟩
theorem Y4:FX prog 114 [(0,1),(1,1),(2,1),(3,1)]:=⟨_,underlying114,fun w=>by simp[kz.run,sZ.run,P7.run]⟩
theorem tV:pE prog 132 0 0:=⟨_,_,_,underlying132,rfl,rfl,XO,by decide⟩
theorem mM:pE prog 132 1 1:=⟨_,_,_,underlying132,rfl,rfl,P9,by decide⟩
theorem wZ:pE prog 132 2 2:=⟨_,_,_,underlying132,rfl,rfl,UG,by decide⟩
theorem Be:pE prog 132 3 3:=⟨_,_,_,underlying132,rfl,rfl,kz,by decide⟩
theorem Y5:FX prog 132 [(0,1),(1,1),(2,1),(3,1)]:=⟨_,underlying132,fun w=>by simp[kz.run,XO.run,P9.run,UG.run]⟩
theorem H9:pE prog 138 0 0:=⟨_,_,_,underlying138,rfl,rfl,kz,by decide⟩
theorem Ty:pE prog 138 1 1:=⟨_,_,_,underlying138,rfl,rfl,kz,by decide⟩
theorem Qv:FX prog 138 [(0,1),(1,1),(2,1)]:=⟨_,underlying138,fun w=>by simp[kz.run]⟩
theorem Tz:pE prog 140 0 0:=⟨_,_,_,underlying140,rfl,rfl,kz,by decide⟩
theorem TA:pE prog 140 1 1:=⟨_,_,_,underlying140,rfl,rfl,sZ,by decide⟩
theorem Y6:FX prog 140 [(0,1),(1,1)]:=⟨_,underlying140,fun w=>by simp[kz.run,sZ.run]⟩
theorem Y7:FX prog 179 [(0,1),(1,1)]:=⟨_,underlying179,fun w=>by simp[sZ.run,Hw.run]⟩
theorem rT:pE prog 198 0 0:=⟨_,_,_,underlying198,rfl,rfl,ze,by decide⟩
theorem DC:pE prog 198 1 1:=⟨_,_,_,underlying198,rfl,rfl,sz4,by decide⟩
theorem Y8:FX prog 198 [(0,1),(1,1)]:=⟨_,underlying198,fun w=>by simp[sz4.run,ze.run]⟩
end Go.Proofs.YtcaehidaejhdfaaGreat

namespace Go.Proofs.YtcaehidaejhdfaaGreat
open Tryz
open Go Go.Sx Go.Num Go.rZ
set_option maxRecDepth 20000
theorem JE (a:Int)(w:World):Calls prog 90 #[.int .i64 (a)] w fun r w'=>r= .returned (.bool (uS a))/\Le w w':=by
 refine enter func90 rfl rfl ?_
 have c:=Le.refl w
 refine Sr (Wn 1 rfl (Nx (Sr (Wn 2 rfl ?_))))
 by_cases b:0<=a
 ·refine Dt b rfl rfl (Wn 4 rfl (Nx (Rt (E.jI rfl rfl ?_))))
  exact⟨rB (by simp[uS,l8,b]),c⟩
 refine Df b rfl rfl (Wn 4 rfl (Nx (Rt (E.jI rfl rfl ?_))))
 exact⟨rB (by simp[uS,l8,b]),c⟩

theorem Ia (a b:Int)(w:World):Calls prog 38 #[.int .i64 a,.int .i64 (b)] w fun r w'=>r= .returned (.tuple #[.int .i64 (pG a b).1,.bool (pG a b).2])/\Le w w':=by
 refine enter func38 rfl rfl (Sr (Wn 2 rfl (Nx (Sq (Sr (Wn 1 rfl (W.cl Yr rfl rfl (JE a w) ?_)))))))
 rintro _ j ⟨rfl,k⟩
 have i:=(Le.refl w).trans k
 refine Wn 1 rfl ?_
 by_cases c:(uS a)=true
 ·refine Wa (.dec (.move rfl) (congrArg not c)) rfl (Wn 1 rfl (W.mY rfl rfl rfl rfl rfl rfl (Ef.call Yr rfl rfl (JE b j) ?_)))
  rintro _ m ⟨rfl,l⟩
  refine⟨_,rfl,?_⟩
  have f:=i.trans l
  refine Wn 2 rfl ?_
  by_cases d:(uS b)=true
  ·refine Wa (.dec (.move rfl) (congrArg not d)) rfl (Wn 2 rfl ?_)
   have n:=r9 (show l8 b 0 1125899906842624=true by assumption)
   refine Wg (Any.rd (.sub rfl rfl (by omega)) _) rfl (Wn 2 rfl (Nx ?_))
   by_cases e:(1125899906842624-b)<a
   ·refine Cy rfl (dT e) (Sr (Wn 2 rfl (Nx (Rt (E.jH (E.mI rfl rfl rfl ?_))))))
    exact⟨(by first|rfl|(simp[pG,c,d,e];done)|(simp[pG,c,d,e];omega)|(simp[pG,c,d,e];split<;>first|(exfalso;omega)|(simp;done)|(simp;omega))),f⟩
   refine Cn rfl (dF e) (Sn (Sr (Wn 2 rfl (Wa (.add rfl rfl (by have:=r9 (show l8 a 0 1125899906842624=true by assumption);have:=r9 (show l8 b 0 1125899906842624=true by assumption);omega)) rfl ?_))))
   refine Wn 2 rfl (Nx (Rt (E.mI rfl rfl rfl ?_)))
   exact⟨(by first|rfl|(simp[pG,c,d,e];done)|(simp[pG,c,d,e];omega)|(simp[pG,c,d,e];split<;>first|(exfalso;omega)|(simp;done)|(simp;omega))),f⟩
  refine Wa (.dec (.move rfl) (congrArg not (Bool.eq_false_iff.2 d))) rfl (Wn 5 rfl (Nx (WC.jS rfl (Sr (Wn 2 rfl (Nx (Rt (E.jH (E.mI rfl rfl rfl ?_)))))))))
  exact⟨(by first|rfl|(simp[pG,c,d];done)|(simp[pG,c,d];omega)|(simp[pG,c,d];split<;>first|(exfalso;omega)|(simp;done)|(simp;omega))),f⟩
 refine Wa (.dec (.move rfl) (congrArg not (Bool.eq_false_iff.2 c))) rfl (Wn 10 rfl (Nx (WC.jS rfl (Sr (Wn 2 rfl (Nx (Rt (E.jH (E.mI rfl rfl rfl ?_)))))))))
 exact⟨(by first|rfl|(simp[pG,c];done)|(simp[pG,c];omega)|(simp[pG,c];split<;>first|(exfalso;omega)|(simp;done)|(simp;omega))),i⟩
end Go.Proofs.YtcaehidaejhdfaaGreat

namespace Go.Proofs.YtcaehidaejhdfaaGreat
open Tryz
open Go Go.Sx Go.wI
set_option maxRecDepth 20000
abbrev zw8:Array Value:=#[.int .u32 0,.int .u32 0,.int .u32 0,.int .u32 0,.int .u32 0,.int .u32 0,.int .u32 0,.int .u32 0]
theorem VX (a b c d e f g h:BitVec 32):∀v∈[kZ a,kZ b,kZ c,kZ d,kZ e,kZ f,kZ g,kZ h],v.oneCell'=true:=fun v hv=>by
  simp at hv;rcases hv with rfl|rfl|rfl|rfl|rfl|rfl|rfl|rfl<;>rfl
theorem vH (x:BitVec 32)(k:Nat)(w:World)(hk:1<=k/\k<=31):Calls prog 177 #[kZ x,.int .i64 (-(k:Int))] w fun e w'=>e= .returned (kZ (LG x k))/\Le w w':=by
 have e:(18446744073709551616-k)&&&31=32-k:=by
  have h:=Nat.and_two_pow_sub_one_eq_mod (18446744073709551616-k) 5
  have b:(2^5-1:Nat)=31:=by decide
  rw[b]at h;rw[h];omega
 refine enter func177 rfl rfl (Sr (Wn 1 rfl (Nx (Sr (Wn 1 rfl (Wr (.vv (i':=((18446744073709551616-k:Nat):Int)) (y5 underlying3) underlying187 rfl (by rw[wrap_u64];omega)) rfl ?_))))))
 refine Wa (.Xf (18446744073709551616-k) 31 rfl rfl rfl rfl (by omega) (by decide)) rfl (Wn 1 rfl (Nx (Sr (Wn 2 rfl (Wa (.CR (32-k) rfl rfl (by rw[e]) (by omega)) rfl ?_)))))
 refine Wn 2 rfl (Wa (.ZW rfl rfl (by rw[e];omega)) rfl ?_)
 refine Wa (.CS k rfl rfl (by rw[e];omega) (by omega)) rfl ?_
 refine Wa (.FB rfl rfl) rfl (Wn 1 rfl (Nx (Rt (E.o9 rfl rfl ?_))))
 exact⟨rfl,(Le.refl w)⟩

theorem NG {A:Option Addr}{n c:Nat}{xs:List Byte}(w:World)(hS:Sb w A n xs)(hn:4<=n):Calls prog 180 #[.slice A n c] w fun e w'=>e= .returned (kZ (R5 xs))/\Le w w':=by
 have hl:=hS.len
 refine enter func180 rfl rfl (WC.sr (W.run 1 rfl (W.nx (WC.seq (WC.draw [0,1,2,3,4,5,6,7,8,9,10,11,12,13,14,15,16,17,18,19,20,21,22] mixed (by kernel_rfl) fun f d=>?_)))))
 have b:=(Le.refl w).trans d
 refine G.run 1 rfl (Ga rfl (.lK 0 underlying122 vJ rfl rfl (hS.isSome (by omega)) rfl (by omega)) (Gd rfl (.lG IB rfl (hS.le b) (I9 xs (by omega))) (Gd rfl (.xL (y5 underlying5) underlying25 rfl) (Ga rfl (.CR 24 rfl rfl rfl (by decide)) (G.run 1 rfl ?_)))))
 refine Ga rfl (.lK 1 underlying122 vJ rfl rfl (hS.isSome (by omega)) rfl (by omega)) (Gd rfl (.lG IB rfl (hS.le b) (I9 xs (by omega))) (Gd rfl (.xL (y5 underlying5) underlying25 rfl) (Ga rfl (.CR 16 rfl rfl rfl (by decide)) (Ga rfl (.FB rfl rfl) (G.run 1 rfl ?_)))))
 refine Ga rfl (.lK 2 underlying122 vJ rfl rfl (hS.isSome (by omega)) rfl (by omega)) (Gd rfl (.lG IB rfl (hS.le b) (I9 xs (by omega))) (Gd rfl (.xL (y5 underlying5) underlying25 rfl) (Ga rfl (.CR 8 rfl rfl rfl (by decide)) (Ga rfl (.FB rfl rfl) (G.run 1 rfl ?_)))))
 refine Ga rfl (.lK 3 underlying122 vJ rfl rfl (hS.isSome (by omega)) rfl (by omega)) (Gd rfl (.lG IB rfl (hS.le b) (I9 xs (by omega))) (Gd rfl (.xL (y5 underlying5) underlying25 rfl) (Ga rfl (.FB rfl rfl) (G.run 1 rfl (G.nil (E.jG (WC.ret (E.o9 rfl rfl ?_))))))))
 exact⟨rfl,b⟩

theorem JF {A:Option Addr}{n c:Nat}{b:List Byte}(w:World)(hS:Sb w A n b)(hn:n=64)(hc:n<=c):Calls prog 175 #[.slice A n c] w fun e w'=>e= .returned (.agg ((sched b).map kZ).toArray)/\Le w w':=by
 refine enter func175 rfl rfl ?_
 have y:=Le.refl w
 refine Sr (W.ef rfl rfl rfl (Ef.jR Qb fun i ah j z B=>?_))
 have C:=y.trans B
 refine Nx (Sq (Sr (Wn 1 rfl (Nx (WC.block (WC.loop (ι:=Nat) (fun k=>[(0,.slice A n c),(2,.pointer (some ⟨i,0,none⟩)),(8,.int .i64 (k:Int))]) (fun k wl=>k<=64/\Le w wl/\jL wl i 243 (((pq b k)++List.replicate (64-k) 0#32).map kZ).toArray) (fun k=>64-k) 0 ?_ ?_ ?_))))))
 ·exact .of rfl
 ·exact⟨by omega,C,z.cast rfl⟩
 rintro k wl ⟨hk,Ll,bl⟩
 have hsl:=og b k
 refine Sr (Wn 1 rfl (Nx (Sq (WC.cond rfl (fun D=>?_) (fun D=>?_)))))
 ·refine Sn (Sq (WC.block (Sr (Wn 2 rfl (Nx (Sq (Sr (Wn 2 rfl (Nx (WC.cond rfl (fun d=>?_) (fun d=>?_)))))))))))
  ·have d:k<16:=by omega
   refine Sr (Wn 3 rfl (Wa (.mul rfl rfl (by omega)) rfl (Wa (.sI (4*k) underlying122 vJ rfl rfl (by omega) (by omega) (by omega)) rfl (W.cl Y0 rfl rfl (NG wl ((hS.le Ll).sI c (4*k) (by omega) hc) (by omega)) ?_))))
   rintro _ ai ⟨rfl,m⟩
   have F:=Ll.trans m
   refine Wa (.l5 k underlying243 lq rfl rfl rfl (by omega)) rfl (W.kP rfl rfl (Ef.store lq rfl rfl (bl.le m) (by simp;omega) rfl ?_))
   intro H I J
   have K:Le w H:=F.kI J (fun q hq=>by cases hq;exact j)
   refine Nx (WC.exit (E.jJ (E.ko (E.jG (WC.region (Wa (.add rfl rfl (by omega)) rfl (Wn 1 rfl (W.nil (E.again (k+1) (.of rfl) ?_ ?_)))))))))
   ·exact⟨by omega,K,I.cast (by rw[Jb kZ (pq b k) 0#32 _ 64 k hsl (by omega)];simp[pq,d])⟩
   first|omega|(simp only[];omega)
  have d:¬k<16:=by omega
  refine Sn (Sq (WC.draw [0,1,2,3,4,5,6,7,8,9] mixed (by kernel_rfl) fun L f=>?_))
  have N:=Ll.trans f
  refine Gn 1 rfl (Ga rfl (.sub rfl rfl (by omega)) (Ga rfl (.l5 (k-15) underlying243 lq rfl rfl (by omega) (by omega)) (Gd rfl (.jF lQ rfl (bl.le f) (LK _ _ _ (by omega))) (Gn 1 rfl (Ga rfl (.sub rfl rfl (by omega)) ?_)))))
  refine Ga rfl (.l5 (k-2) underlying243 lq rfl rfl (by omega) (by omega)) (Gd rfl (.jF lQ rfl (bl.le f) (LK _ _ _ (by omega))) (Gn 2 rfl (G.nil (E.jG (Sr (Wn 1 rfl (W.cl zh rfl rfl (vH _ 7 L (by omega)) ?_)))))))
  rintro _ O ⟨rfl,o⟩
  have P:=N.trans o
  refine Wn 1 rfl (W.cl zh rfl rfl (vH _ 18 O (by omega)) ?_)
  rintro _ Q ⟨rfl,s⟩
  have R:=P.trans s
  refine Wa (.qH rfl rfl) rfl (Wn 1 rfl (Wa (.CS 3 rfl rfl rfl (by decide)) rfl (Wa (.qH rfl rfl) rfl (Wn 1 rfl (Nx (Sr (Wn 1 rfl (W.cl zh rfl rfl (vH _ 17 Q (by omega)) ?_))))))))
  rintro _ S ⟨rfl,t⟩
  have T:=R.trans t
  refine Wn 1 rfl (W.cl zh rfl rfl (vH _ 19 S (by omega)) ?_)
  rintro _ aj ⟨rfl,u⟩
  have U:=T.trans u
  refine Wa (.qH rfl rfl) rfl (Wn 1 rfl (Wa (.CS 10 rfl rfl rfl (by decide)) rfl (Wa (.qH rfl rfl) rfl (Wn 1 rfl (Nx (WC.draw [0,1,2,3,4,5,6,7,8,9,10,11,12,13,14,15] mixed (by kernel_rfl) ?_))))))
  intro w9 x
  have V:=U.trans x
  have l:=bl.le (f.trans (o.trans (s.trans (t.trans (u.trans x)))))
  refine Gn 2 rfl (Ga rfl (.sub rfl rfl (by omega)) (Ga rfl (.l5 (k-16) underlying243 lq rfl rfl (by omega) (by omega)) (Gd rfl (.jF lQ rfl l (LK _ _ _ (by omega))) (Gn 1 rfl (Ga rfl (.add32 rfl rfl) ?_)))))
  refine Gn 1 rfl (Ga rfl (.sub rfl rfl (by omega)) (Ga rfl (.l5 (k-7) underlying243 lq rfl rfl (by omega) (by omega)) (Gd rfl (.jF lQ rfl l (LK _ _ _ (by omega))) (Ga rfl (.add32 rfl rfl) (Gn 1 rfl ?_)))))
  refine Ga rfl (.add32 rfl rfl) (Ga rfl (.l5 k underlying243 lq rfl rfl rfl (by omega)) (G.kP rfl rfl rfl rfl (Ef.store lq rfl rfl l (by simp;omega) rfl ?_)))
  intro X Y Z
  have aa:Le w X:=V.kI Z (fun q hq=>by cases hq;exact j)
  refine noT (by kernel_rfl) (G.nil (E.jZ (E.jG (WC.region (Wa (.add rfl rfl (by omega)) rfl (Wn 1 rfl (W.nil (E.again (k+1) (.of rfl) ?_ ?_))))))))
  ·exact⟨by omega,aa,Y.cast (by rw[Jb kZ (pq b k) 0#32 _ 64 k hsl (by omega)];simp[pq,d,DN])⟩
  first|omega|(simp only[];omega)
 have ab:k=64:=by omega
 subst ab
 have bl:jL wl i 243 ((sched b).map kZ).toArray:=bl.cast (by simp[sched])
 have hsl:(sched b).length=64:=og b 64
 refine WC.exit (E.jJ (E.jJ (E.ko (E.jG (Sr (Wr (.jK Qc (by simp[hsl]) rfl bl) rfl ?_))))))
 refine W.kP rfl rfl (Ef.storeAll JD (by simp[hsl]) rfl rfl bl (by simp) (fun v hv=>ou _ v (by simpa using hv)) ?_)
 intro ac ad ae
 have af:Le w ac:=Ll.kI ae (fun q hq=>by cases hq;exact j)
 refine Nx (Rt (E.I8 rfl rfl ad Qc (by simp[hsl]) ?_))
 exact⟨rfl,af⟩

theorem Qw (w:World):Calls prog 176 #[] w fun e w'=>e= .returned (.agg (table.map kZ).toArray)/\Le w w':=by
 refine enter func176 rfl rfl ?_
 have b:=Le.refl w
 refine Sr (W.ef rfl rfl rfl (Ef.jR Qb fun n o c d f=>?_))
 have i:=b.trans f
 refine Nx (Sr (Wa (.mZ (cells:=(table.map kZ).toArray) underlying243 lq Qb rfl (by kernel_rfl)) rfl (W.kP rfl rfl (Ef.storeAll JD rfl rfl rfl d rfl (fun v hv=>ou _ v (by simpa using hv)) ?_))))
 intro j k l
 have m:Le w j:=i.kI l (fun q hq=>by cases hq;exact c)
 refine Nx (Rt (E.I8 rfl rfl k Qc rfl ?_))
 exact⟨rfl,m⟩

theorem Qx (w:World):Calls prog 164 #[] w fun e w'=>e= .returned (.agg (first.map kZ).toArray)/\Le w w':=by
 refine enter func164 rfl rfl ?_
 have b:=Le.refl w
 refine Sr (W.ef rfl rfl rfl (Ef.jR z232 fun n o c d f=>?_))
 have i:=b.trans f
 refine Nx (Sr (Wa (.mZ (cells:=(first.map kZ).toArray) underlying232 lq z232 rfl (by kernel_rfl)) rfl (W.kP rfl rfl (Ef.storeAll Db rfl rfl rfl d rfl (fun v hv=>ou _ v (by simpa using hv)) ?_))))
 intro j k l
 have m:Le w j:=i.kI l (fun q hq=>by cases hq;exact c)
 refine Nx (Rt (E.I8 rfl rfl k Gj rfl ?_))
 exact⟨rfl,m⟩

set_option maxHeartbeats 1000000 in
theorem Qy {A:Option Addr} {n c:Nat} {b:List Byte} {h:List Word} (w:World) (hl:h.length=8) (hS:Sb w A n b) (hn:n=64) (hc:n<=c):Calls prog 165 #[.agg (h.map kZ).toArray,.slice A n c] w fun e w'=>e= .returned (.agg ((mix h b).map kZ).toArray)/\Le w w':=by
 have hsl:(sched b).length=64:=og b 64
 unfold mix
 refine enter func165 rfl rfl ?_
 have L0:=Le.refl w
 refine Sr (W.ef rfl rfl rfl (Ef.mH rfl fun y a3 a4 u am=>?_))
 have ah:=L0.trans am
 refine W.ef rfl rfl rfl (Ef.jR z232 fun z an ao Q m=>?_)
 have ai:=ah.trans m
 refine Nx (Sr (Wn 1 rfl (W.cl YX rfl rfl (JF an (hS.le ai) hn hc) ?_)))
 rintro _ ap ⟨rfl,f⟩
 have aq:=ai.trans f
 refine W.cl YY rfl rfl (Qw ap) ?_
 rintro _ a5 ⟨rfl,k⟩
 have aj:=aq.trans k
 refine W.ef rfl rfl rfl (Ef.jR Qb fun R a6 ar S o=>?_)
 have ak:=aj.trans o
 refine W.ef rfl rfl rfl (Ef.jR Qb fun T a7 au av B=>?_)
 have aw:=ak.trans B
 refine W.kP rfl rfl (Ef.storeAll JD (by simp[hsl]) rfl rfl (S.le B) (by simp[hsl]) (fun v hv=>ou _ v (by simpa using hv)) ?_)
 intro ax ay C
 have az:Le w ax:=aw.tb C aj ar
 refine W.kP rfl rfl (Ef.storeAll JD rfl rfl rfl (av.ch C (by simp;have:=S.lt;omega)) rfl (fun v hv=>ou _ v (by simpa using hv)) ?_)
 intro aA U D
 have V:Le w aA:=az.tb D ak au
 have K:=ay.ch D (by simp;have:=S.lt;omega)
 refine Nx (Sr (Wr (.jK Gj (by simp[hl]) rfl (((((((u.le m).le f).le k).le o).le B).ch C (by simp;have:=u.lt;have:=m.size;have:=f.size;have:=k.size;omega)).ch D (by simp;have:=u.lt;have:=m.size;have:=f.size;have:=k.size;have:=o.size;omega))) rfl ?_))
 have L:=((((((u.le m).le f).le k).le o).le B).ch C (by simp;have:=u.lt;have:=m.size;have:=f.size;have:=k.size;omega)).ch D (by simp;have:=u.lt;have:=m.size;have:=f.size;have:=k.size;have:=o.size;omega)
 have N:=(((((Q.le f).le k).le o).le B).ch C (by simp;have:=Q.lt;have:=f.size;have:=k.size;omega)).ch D (by simp;have:=Q.lt;have:=f.size;have:=k.size;have:=o.size;omega)
 refine W.ef rfl rfl rfl (Ef.jR z232 fun l a8 al aB F=>?_)
 have aC:=V.trans F
 refine W.kP rfl rfl (Ef.storeAll Db (by simp[hl]) rfl rfl aB (by simp[hl]) (fun v hv=>ou _ v (by simpa using hv)) ?_)
 intro aD aE H
 have aF:Le w aD:=aC.tb H V al
 have s:=(L.le F).ch H (by simp;have:=L.lt;omega)
 have t:=(N.le F).ch H (by simp;have:=N.lt;omega)
 have O:=(K.le F).ch H (by simp;have:=K.lt;omega)
 have P:=(U.le F).ch H (by simp;have:=U.lt;omega)
 have n2:y<l:=by have:=L.lt;omega
 have n4:z<l:=by have:=N.lt;omega
 have n5:R<l:=by have:=K.lt;omega
 have n6:T<l:=by have:=U.lt;omega
 have hgv:w.heap.size<=l:=Nat.le_trans V.size al
 clear L N K
 refine Nx (Sq (Sr (Wn 1 rfl (Nx (WC.block (WC.loop (ι:=Nat) (fun i=>[(2,.pointer (some ⟨y,0,none⟩)),(4,.pointer (some ⟨z,0,none⟩)),(5,.pointer (some ⟨R,0,none⟩)),(6,.pointer (some ⟨T,0,none⟩)),(7,.pointer (some ⟨l,0,none⟩)),(18,.int .i64 (i:Int))]) (fun i wl=>i<=64/\Le w wl/\jL wl y 232 (h.map kZ).toArray/\jL wl z 232 zw8/\jL wl R 243 ((sched b).map kZ).toArray/\jL wl T 243 (table.map kZ).toArray/\jL wl l 232 ((nD h (sched b) i).map kZ).toArray) (fun i=>64-i) 0 ?_ ?_ ?_))))))
 ·exact .of rfl
 ·exact⟨by omega,aF,s,t,O,P,aE⟩
 rintro i wl ⟨hi,Ll,s,t,O,P,bv⟩
 have hvl:=xk h (sched b) hl i
 obtain⟨v,hv⟩:∃v,v=nD h (sched b) i:=⟨_,rfl⟩
 rw[<-hv]at bv hvl
 refine Sr (Wn 1 rfl (Nx (Sq (WC.cond rfl (fun c0=>?_) (fun c0=>?_)))))
 ·refine Sn (Sq (WC.block (Sr (Wn 2 rfl (Nx (Sq (WC.draw [0,1,3,4,7,8,2,5,6,9,10,11] mixed (by kernel_rfl) fun w6 X=>?_)))))))
  have L6:=Ll.trans X
  have Y:=bv.le X
  refine Ga rfl (.l5 4 underlying232 lq rfl rfl rfl (by decide)) (Gd rfl (.jF lQ rfl Y (nR _ (by omega))) (Ga rfl (.l5 4 underlying232 lq rfl rfl rfl (by decide)) (Gd rfl (.jF lQ rfl Y (nR _ (by omega))) (Ga rfl (.l5 4 underlying232 lq rfl rfl rfl (by decide)) (Gd rfl (.jF lQ rfl Y (nR _ (by omega))) ?_)))))
  refine G.ef rfl rfl rfl rfl rfl (Ef.call zh rfl rfl (vH _ 6 w6 (by omega)) ?_)
  rintro _ aG ⟨rfl,Z⟩
  refine⟨_,rfl,?_⟩
  have aH:=L6.trans Z
  refine⟨fun _=>Z,?_⟩
  refine G.ef rfl rfl rfl rfl rfl (Ef.call zh rfl rfl (vH _ 11 aG (by omega)) ?_)
  rintro _ aI ⟨rfl,aa⟩
  refine⟨_,rfl,?_⟩
  have aJ:=aH.trans aa
  refine⟨fun _=>aa,?_⟩
  refine Ga rfl (.qH rfl rfl) (G.ef rfl rfl rfl rfl rfl (Ef.call zh rfl rfl (vH _ 25 aI (by omega)) ?_))
  rintro _ a9 ⟨rfl,ab⟩
  refine⟨_,rfl,?_⟩
  have aK:=aJ.trans ab
  refine⟨fun _=>ab,?_⟩
  refine Ga rfl (.qH rfl rfl) (Gn 1 rfl (G.nil (E.jG (Sq (WC.draw [0,1,2,3,4,5,6,7,8,9,10,11,12,13,14,15,16,17,18,19,20,21,22,23,24] mixed (by kernel_rfl) fun w7 d7=>?_)))))
  have LL:=X.trans (Z.trans (aa.trans (ab.trans d7)))
  have I:=bv.le LL
  refine Ga rfl (.l5 7 underlying232 lq rfl rfl rfl (by decide)) (Gd rfl (.jF lQ rfl I (nR _ (by omega))) (Gn 1 rfl (Ga rfl (.add32 rfl rfl) (Ga rfl (.l5 6 underlying232 lq rfl rfl rfl (by decide)) (Gd rfl (.jF lQ rfl I (nR _ (by omega))) ?_)))))
  refine Ga rfl (.l5 4 underlying232 lq rfl rfl rfl (by decide)) (Gd rfl (.jF lQ rfl I (nR _ (by omega))) (Ga rfl (.l5 5 underlying232 lq rfl rfl rfl (by decide)) (Gd rfl (.jF lQ rfl I (nR _ (by omega))) (Ga rfl (.l5 6 underlying232 lq rfl rfl rfl (by decide)) (Gd rfl (.jF lQ rfl I (nR _ (by omega))) ?_)))))
  refine Ga rfl (.qH rfl rfl) (Ga rfl (.CQ rfl rfl) (Ga rfl (.qH rfl rfl) (Ga rfl (.add32 rfl rfl) (Gn 1 rfl (Ga rfl (.l5 i underlying243 lq rfl rfl rfl (by omega)) ?_)))))
  refine Gd rfl (.jF lQ rfl (P.le LL) (nR _ (by show i<64;omega))) ?_
  refine Ga rfl (.add32 rfl rfl) (Gn 1 rfl (Ga rfl (.l5 i underlying243 lq rfl rfl rfl (by omega)) (Gd rfl (.jF lQ rfl (O.le LL) (nR _ (by rw[hsl];omega))) ?_)))
  refine Ga rfl (.add32 rfl rfl) (Gn 1 rfl (G.nil (E.jG (Sq (WC.draw [0,1,3,4,7,8,2,5,6,9,10,11] mixed (by kernel_rfl) fun w8 d8=>?_)))))
  have L8:=(aK.trans d7).trans d8
  have LL:=LL.trans d8
  have v8:=bv.le LL
  refine Ga rfl (.l5 0 underlying232 lq rfl rfl rfl (by decide)) (Gd rfl (.jF lQ rfl v8 (nR _ (by omega))) (Ga rfl (.l5 0 underlying232 lq rfl rfl rfl (by decide)) (Gd rfl (.jF lQ rfl v8 (nR _ (by omega))) (Ga rfl (.l5 0 underlying232 lq rfl rfl rfl (by decide)) (Gd rfl (.jF lQ rfl v8 (nR _ (by omega))) ?_)))))
  refine G.ef rfl rfl rfl rfl rfl (Ef.call zh rfl rfl (vH _ 2 w8 (by omega)) ?_)
  rintro _ aL ⟨rfl,ac⟩
  refine⟨_,rfl,?_⟩
  have aM:=L8.trans ac
  refine⟨fun _=>ac,?_⟩
  refine G.ef rfl rfl rfl rfl rfl (Ef.call zh rfl rfl (vH _ 13 aL (by omega)) ?_)
  rintro _ aN ⟨rfl,ad⟩
  refine⟨_,rfl,?_⟩
  have aO:=aM.trans ad
  refine⟨fun _=>ad,?_⟩
  refine Ga rfl (.qH rfl rfl) (G.ef rfl rfl rfl rfl rfl (Ef.call zh rfl rfl (vH _ 22 aN (by omega)) ?_))
  rintro _ ba ⟨rfl,ae⟩
  refine⟨_,rfl,?_⟩
  have aP:=aO.trans ae
  refine⟨fun _=>ae,?_⟩
  refine Ga rfl (.qH rfl rfl) (Gn 1 rfl (G.nil (E.jG (Sr ?_))))
  have LL:=LL.trans (ac.trans (ad.trans ae))
  have d:=bv.le LL
  refine Wa (.l5 0 underlying232 lq rfl rfl rfl (by decide)) rfl (Wr (.jF lQ rfl d (nR _ (by omega))) rfl (Wa (.l5 1 underlying232 lq rfl rfl rfl (by decide)) rfl (Wr (.jF lQ rfl d (nR _ (by omega))) rfl (Wa (.CQ rfl rfl) rfl (Wa (.l5 2 underlying232 lq rfl rfl rfl (by decide)) rfl ?_)))))
  refine Wr (.jF lQ rfl d (nR _ (by omega))) rfl (Wa (.l5 0 underlying232 lq rfl rfl rfl (by decide)) rfl (Wr (.jF lQ rfl d (nR _ (by omega))) rfl (Wa (.l5 1 underlying232 lq rfl rfl rfl (by decide)) rfl (Wr (.jF lQ rfl d (nR _ (by omega))) rfl (Wa (.FB rfl rfl) rfl ?_)))))
  refine Wa (.CQ rfl rfl) rfl (Wa (.FB rfl rfl) rfl (Wn 1 rfl (Nx (WC.region (Wn 2 rfl (Wa (.add32 rfl rfl) rfl (Wn 1 rfl (Wa (.add32 rfl rfl) rfl ?_))))))))
  refine Wa (.l5 0 underlying232 lq rfl rfl rfl (by decide)) rfl (Wr (.jF lQ rfl d (nR _ (by omega))) rfl (Wa (.l5 1 underlying232 lq rfl rfl rfl (by decide)) rfl (Wr (.jF lQ rfl d (nR _ (by omega))) rfl (Wa (.l5 2 underlying232 lq rfl rfl rfl (by decide)) rfl (Wr (.jF lQ rfl d (nR _ (by omega))) rfl ?_)))))
  refine Wa (.l5 3 underlying232 lq rfl rfl rfl (by decide)) rfl (Wr (.jF lQ rfl d (nR _ (by omega))) rfl (Wn 1 rfl (Wa (.add32 rfl rfl) rfl (Wa (.l5 4 underlying232 lq rfl rfl rfl (by decide)) rfl (Wr (.jF lQ rfl d (nR _ (by omega))) rfl ?_)))))
  refine Wa (.l5 5 underlying232 lq rfl rfl rfl (by decide)) rfl (Wr (.jF lQ rfl d (nR _ (by omega))) rfl (Wa (.l5 6 underlying232 lq rfl rfl rfl (by decide)) rfl (Wr (.jF lQ rfl d (nR _ (by omega))) rfl (Wa (.Pm [_,_,_,_,_,_,_,_] underlying232 lq z232 rfl (VX _ _ _ _ _ _ _ _) rfl rfl) rfl ?_))))
  have e2:=s.le LL
  have e4:=t.le LL
  have e5:=O.le LL
  have e6:=P.le LL
  refine W.kP rfl rfl (Ef.storeAll Db rfl rfl rfl d (by simp[hvl]) (fun v hv=>VX _ _ _ _ _ _ _ _ v (by simpa using hv)) ?_)
  intro aQ aR J
  have aS:Le w aQ:=aP.kI J (fun q hq=>by cases hq;exact hgv)
  refine W.nil (E.jZ (E.jG (WC.region (Wa (.add rfl rfl (by omega)) rfl (Wn 1 rfl (W.nil (E.again (i+1) (.of rfl) ?_ ?_)))))))
  ·exact⟨by omega,aS,e2.ch J (by simp;omega),e4.ch J (by simp;omega),e5.ch J (by simp;omega),e6.ch J (by simp;omega),aR.cast (by rw[nD,<-hv];rfl)⟩
  first|omega|(simp only[];omega)
 rw[hv]at bv hvl
 have aT:i=64:=by omega
 subst aT
 refine WC.exit (E.jJ (E.jJ (E.ko (E.jG (Sq (Sr (Wn 1 rfl (Nx (WC.block (WC.loop (ι:=Nat) (fun j=>[(2,.pointer (some ⟨y,0,none⟩)),(4,.pointer (some ⟨z,0,none⟩)),(7,.pointer (some ⟨l,0,none⟩)),(104,.int .i64 (j:Int))]) (fun j wm=>j<=8/\Le w wm/\jL wm y 232 (h.map kZ).toArray/\jL wm z 232 zw8/\jL wm l 232 ((uR (nD h (sched b) 64) h j).map kZ).toArray) (fun j=>8-j) 0 ?_ ?_ ?_))))))))))
 ·exact .of rfl
 ·exact⟨by omega,Ll,s,t,bv.cast (by rw[DR _ _ hvl])⟩
 rintro j wm ⟨hj,Lm,s,t,bv⟩
 have hal:=qf (nD h (sched b) 64) h j
 refine Sr (Wn 1 rfl (Nx (Sq (WC.cond rfl (fun c1=>?_) (fun c1=>?_)))))
 ·refine Sn (Sq (WC.block (Sr (Wn 2 rfl (Nx (WC.draw [0,1,2,3,4,5,6,7,8] mixed (by kernel_rfl) fun bb x=>?_))))))
  have aU:=Lm.trans x
  refine Gn 1 rfl (Ga rfl (.l5 j underlying232 lq rfl rfl rfl (by omega)) (Gd rfl (.jF lQ rfl (bv.le x) ((nR _ (by omega)).trans (by rw[IQ _ _ _ _ (by omega),if_neg (by omega)]))) ?_))
  refine Gn 1 rfl (Ga rfl (.l5 j underlying232 lq rfl rfl rfl (by omega)) (Gd rfl (.jF lQ rfl (s.le x) (nR _ (by omega))) (Ga rfl (.add32 rfl rfl) (Ga rfl (.l5 j underlying232 lq rfl rfl rfl (by omega)) (G.kP rfl rfl rfl rfl ?_)))))
  refine Ef.store lq rfl rfl (bv.le x) (by simp;omega) rfl ?_
  intro aV aW af
  have aX:Le w aV:=aU.kI af (fun q hq=>by cases hq;exact hgv)
  refine noT (by kernel_rfl) (G.nil (E.jZ (E.jG (WC.region (Wa (.add rfl rfl (by omega)) rfl (Wn 1 rfl (W.nil (E.again (j+1) (.of rfl) ?_ ?_))))))))
  ·exact⟨by omega,aX,(s.le x).ch af (by simp;omega),(t.le x).ch af (by simp;omega),aW.cast (by rw[<-DT _ _ j (by omega)];apply Array.ext';simp)⟩
  first|omega|(simp only[];omega)
 have aY:j=8:=by omega
 subst aY
 refine WC.exit (E.jJ (E.jJ (E.ko (E.jG (Sr (Wr (.jK Gj (by simp[hal]) rfl bv) rfl ?_))))))
 refine W.kP rfl rfl (Ef.storeAll Db (by simp[hal]) rfl rfl t (by simp[hal]) (fun v hv=>ou _ v (by simpa using hv)) ?_)
 intro aZ a0 a1
 have a2:Le w aZ:=Lm.tb a1 ah ao
 refine Nx (Rt (E.I8 rfl rfl a0 Gj (by simp[hal]) ?_))
 exact⟨rfl,a2⟩
end Go.Proofs.YtcaehidaejhdfaaGreat

namespace Go.Proofs.YtcaehidaejhdfaaGreat
open Tryz
open Go Go.Sx Go.wI
set_option maxRecDepth 20000
theorem Qz {A:Option Addr}{n c:Nat}{xs:List Byte}(w:World)(hS:Sb w A n xs)(hn:n<=70368744177664):Calls prog 116 #[.slice A n c] w fun e w'=>∃A' c',e= .returned (.slice A' n c')/\Own w' w.heap.size 5 1 A' n c' (xs.map lD)/\Le w w':=by
 refine enter func116 rfl rfl ?_
 have d:=Le.refl w
 refine Sr (Wn 1 rfl (Nx (Sq (Sr (Wn 1 rfl (Wa (.isNil underlying122 rfl) rfl (Nx (WC.xu rfl (fun f=>?_) (fun f=>?_)))))))))
 ·have hA:A=none:=by simpa using f
  subst hA
  have hl:=hS.len
  have hx:xs=[]:=by cases xs with |nil=>rfl|cons x xs=>exact absurd (hS.isSome (by rw[<-hl];simp)) (by simp)
  subst hx
  have i:n=0:=by simpa using hl.symm
  subst i
  refine Sr (Wn 1 rfl (Nx (Rt (E.jH (E.o9 rfl rfl ?_)))))
  exact⟨none,0,rfl,Own.empty _ _ _ _ _,d⟩
 refine Sn (Sr (W.ef rfl rfl rfl (Ef.oH underlying122 wV fun v j y z k=>?_)))
 have b:=d.trans k
 refine Wn 1 rfl (W.ef rfl rfl rfl (Ef.append underlying122 wV rfl (Own.empty j w.heap.size 5 1 _) rfl ((hS.le b).src underlying122 _) (by omega) (by unfold maxLen;omega) b.size ?_))
 intro l m o s t B
 have u:Le w o:=b.kI t (fun q hq=>by rw[lC]at hq;cases hq)
 refine Wn 1 rfl (Nx (Rt (E.o9 rfl rfl ?_)))
 exact⟨l,m,by rw[Nat.zero_add],s.cast (Nat.zero_add n) (List.nil_append _),u⟩

theorem Ib {A:Option Addr}{n c base:Nat}{xs:List Byte}(m:Nat)(w:World)(hO:Own w base 5 1 A n c (xs.map lD))(_hm:m<=9223372036854775807)(hn:n<=70368744177664)(hb:base<=w.heap.size):Calls prog 144 #[.slice A n c,.int .i64 (m:Int)] w fun e w'=>∃A' c',e= .returned (.slice A' (n+8) c')/\Own w' base 5 1 A' (n+8) c' ((xs++Kc m).map lD)/\Ch w w' (rowOf A c)/\At w A c A' c':=by
 refine enter func144 rfl rfl (Sr (Wn 1 rfl (Nx (Sq (Sr (Wn 1 rfl (Nx (WC.block (WC.loop (ι:=Nat×Option Addr×Nat) (fun⟨k,b,d⟩=>[(0,.slice b (n+k) d),(1,.int .i64 (m:Int)),(5,.int .i64 (56-8*(k:Int)))]) (fun⟨k,b,d⟩ wl=>k<=8/\Own wl base 5 1 b (n+k) d ((xs++DL m k).map lD)/\Ch w wl (rowOf A c)/\At w A c b d) (fun⟨k,b,d⟩=>8-k) (0,A,c) ?_ ?_ ?_)))))))))
 ·exact .of rfl
 ·exact⟨by omega,hO.cast rfl (by simp[DL]),Ch.refl _ _,At.refl _ _ _⟩
 rintro⟨k,b,d⟩ wl ⟨hk,ol,ZB,atl⟩
 refine Sq (Sr (Wn 2 rfl (Nx (WC.cond rfl (fun i=>?_) (fun i=>?_)))))
 ·refine Sn (Sq (WC.block (WC.region (Wn 3 rfl (Wa (.Ph m (56-8*k) rfl rfl rfl (by omega) (by show 56-8*k<=64;omega)) rfl ?_)))))
  refine Wr (.toU8 (m>>>(56-8*k)) (y5 underlying3) underlying5 rfl rfl) rfl (W.ef rfl rfl rfl (Ef.ny underlying122 wV rfl rfl fun x y z j f=>(W.ef rfl rfl rfl (Ef.append underlying122 wV rfl (ol.le f) rfl (j.FC underlying122 rfl) (by omega) (by unfold maxLen;omega) (Nat.le_trans hb (Nat.le_trans ZB.size f.size)) ?_))))
  intro l o B s t u
  refine Wn 1 rfl (W.nil (E.jZ (E.jG (WC.region (Wn 1 rfl (Wa (.sub rfl rfl (by omega)) rfl (Wn 1 rfl (W.nil (E.again (k+1,l,o) (.cons rfl (.cons rfl (.cons' rfl (int_eq (by omega)) (.nil _)))) ?_ ?_)))))))))
  ·exact⟨by omega,s.cast rfl (by rw[zm m k (by omega)];simp),(ZB.trans (f.ch _)).kI t (fun q hq=>(atl q hq).symm),atl.trans (Nat.le_trans ZB.size f.size) u⟩
  first|omega|(simp only[];omega)
 have v:k=8:=by omega
 subst v
 refine WC.exit (E.jJ (E.jJ (E.ko (E.jG (Sr (Wn 2 rfl (Nx (Rt (E.o9 rfl rfl ?_)))))))))
 exact⟨b,d,rfl,ol,ZB,atl⟩

set_option maxHeartbeats 1000000 in
theorem VY {A:Option Addr} {n c:Nat} {xs:List Byte} (w:World) (hS:Sb w A n xs) (hn:n<=35184372088832) (hc:n<=c):Calls prog 145 #[.slice A n c] w fun e w'=>e= .returned (.agg ((sum xs).map lD).toArray)/\Le w w':=by
 have hl:=hS.len
 refine enter func145 rfl rfl ?_
 have L0:=Le.refl w
 refine Sr (W.ef rfl rfl rfl (Ef.jR z23 fun d N O ad ae=>?_))
 have C:=L0.trans ae
 have b:jL N d 23 ((List.replicate 32 0#8).map lD).toArray:=ad
 refine Nx (Sr (Wn 2 rfl (Wr (.len underlying122 rfl) rfl (Wn 1 rfl (Wr (.len underlying122 rfl) rfl (Wa (.rem rfl rfl (by omega)) rfl (Wa (.sub rfl rfl (by omega)) rfl ?_)))))))
 refine Wa (.sI (n-n%64) underlying122 vJ rfl rfl (by omega) (by omega) (by omega)) rfl (W.cl Qh rfl rfl (Qz N ((hS.le C).sI c (n-n%64) (by omega) hc) (by omega)) ?_)
 rintro _ aV ⟨A1,P,rfl,m,D⟩
 have af:=C.trans D
 have Q:=m
 have m:=m.mono C.size
 refine W.ef rfl rfl rfl (Ef.ny underlying122 wV rfl rfl fun aW aX aY ah y=>?_)
 have R:=af.trans y
 refine W.ef rfl rfl rfl (Ef.append underlying122 wV rfl (m.le y) rfl (ah.FC underlying122 rfl) (by omega) (by unfold maxLen;omega) R.size ?_)
 intro S T ai aj U ak
 have al:Le w ai:=R.kI U (fun q hq=>(m.row hq).1)
 have o:rowOf S T≠some d:=ak.off (by have:=b.lt;have:=D.size;have:=y.size;omega) (Q.rl (by have:=b.lt;omega))
 have b:=((b.le D).le y).ch U (Q.rl (by have:=b.lt;omega))
 refine Wn 1 rfl (Nx (Sq (WC.block (WC.loop (ι:=Nat×Option Addr×Nat) (fun⟨k,j,i⟩=>[(0,.slice A n c),(2,.pointer (some ⟨d,0,none⟩)),(3,.slice j (n%64+1+k) i)]) (fun⟨k,j,i⟩ wl=>k<=noughts n/\Le w wl/\Own wl w.heap.size 5 1 j (n%64+1+k) i ((xs.drop (n-n%64)++[128]++List.replicate k 0).map lD)/\jL wl d 23 ((List.replicate 32 0#8).map lD).toArray/\rowOf j i≠some d) (fun⟨k,j,i⟩=>64-k) (0,S,T) ?_ ?_ ?_))))
 ·exact .cons rfl (.cons rfl (.cons' rfl (pM (by omega)) (.nil _)))
 ·exact⟨Nat.zero_le _,al,aj.cast (by omega) (by simp;rfl),b,o⟩
 rintro⟨k,j,i⟩ wl ⟨hk,Ll,ol,b,o⟩
 have aZ:noughts n<=63:=by unfold noughts;omega
 refine Sq (Sr (Wn 1 rfl (Wr (.len underlying122 rfl) rfl (Wa (.rem rfl rfl (by omega)) rfl (Wn 1 rfl (Nx (WC.cond rfl (fun c0=>?_) (fun c0=>?_))))))))
 ·refine Sn (WC.block (WC.region (Wn 1 rfl (W.ef rfl rfl rfl (Ef.ny underlying122 wV rfl rfl fun a0 a1 a2 am s=>?_)))))
  have an:=Ll.trans s
  refine W.ef rfl rfl rfl (Ef.append underlying122 wV rfl (ol.le s) rfl (am.FC underlying122 rfl) (by omega) (by unfold maxLen;omega) (Nat.le_trans Ll.size s.size) ?_)
  intro ao ap aq ar V au
  have av:Le w aq:=an.kI V (fun q hq=>(ol.row hq).1)
  refine Wn 1 rfl (W.nil (E.jZ (E.again (k+1,ao,ap) (.cons rfl (.cons rfl (.cons' rfl (pM (by omega)) (.nil _)))) ?_ ?_)))
  ·exact⟨by unfold noughts at*;omega,av,ar.cast (by omega) (by simp[List.replicate_succ'];rfl),(b.le s).ch V o,au.off (by have:=b.lt;have:=s.size;omega) o⟩
  first|omega|(simp only[];omega)
 have hkn:k=noughts n:=by unfold noughts at*;omega
 subst hkn
 refine WC.exit (E.jJ (E.jJ (E.ko (E.jG (Sr (Wn 2 rfl (Wr (.len underlying122 rfl) rfl (Wa (.mul rfl rfl (by omega)) rfl (W.cl Qn rfl rfl (Ib (8*n) wl ol (by omega) (by omega) Ll.size) ?_)))))))))
 rintro _ z ⟨A4,X,rfl,F,Y,a3⟩
 have Z:Le w z:=Ll.kI Y (fun q hq=>(ol.row hq).1)
 have b:=b.ch Y o
 obtain⟨ge,aw,a4,ax,hrow⟩:=F.lit (by omega)
 subst aw
 have hce:=F.cap.1
 have hE:Sb z (some ⟨ge,0,none⟩) (n%64+1+noughts n+8) (tail xs):=F.sb.cast rfl (by simp[tail,hl])
 have htl:=IU xs
 have hlen:=hE.len
 rw[hlen]at htl
 refine Wn 1 rfl (Nx (Sr (W.cl YT rfl rfl (Qx z) ?_)))
 rintro _ a5 ⟨rfl,B⟩
 have aa:=Z.trans B
 refine W.ef rfl rfl rfl (Ef.jR z232 fun f a6 ab ay H=>?_)
 have az:=aa.trans H
 refine W.kP rfl rfl (Ef.storeAll Db rfl rfl rfl ay rfl (fun v hv=>ou _ v (by simpa using hv)) ?_)
 intro aA aB I
 have aC:Le w aA:=az.tb I aa ab
 have J:z.heap.size<=f:=Nat.le_trans B.size ab
 have a7:d<f:=Nat.lt_of_lt_of_le b.lt J
 have a8:ge<f:=Nat.lt_of_lt_of_le ax J
 have hgh:w.heap.size<=f:=Nat.le_trans Z.size J
 have b:=((b.le B).le H).ch I (by simp;omega)
 have hE:=((hE.le B).le H).ch I (fun q hq=>by cases hq;simp[lU];omega)
 refine Nx (Sq (WC.block (WC.loop (ι:=Option Addr×Nat×Nat×List Byte×List Word) (fun⟨Ab,nb,cb,ys,hh⟩=>[(0,.slice Ab nb cb),(2,.pointer (some ⟨d,0,none⟩)),(3,.slice (some ⟨ge,0,none⟩) (n%64+1+noughts n+8) X),(4,.pointer (some ⟨f,0,none⟩))]) (fun⟨Ab,nb,cb,ys,hh⟩ wp=>Sb w Ab nb ys/\nb<=cb/\hh.length=8/\mD hh ys=mD first xs/\Le w wp/\jL wp f 232 (hh.map kZ).toArray/\jL wp d 23 ((List.replicate 32 0#8).map lD).toArray/\Sb wp (some ⟨ge,0,none⟩) (n%64+1+noughts n+8) (tail xs)) (fun⟨Ab,nb,cb,ys,hh⟩=>nb) (A,n,c,xs,first) ?_ ?_ ?_)))
 ·exact .of rfl
 ·exact⟨hS,hc,rfl,rfl,aC,aB,b,hE⟩
 rintro⟨Ab,nb,cb,ys,hh⟩ wp ⟨hb,hcb,RX,hmx,Lp,bh,b,hE⟩
 have hyl:=hb.len
 refine Sq (Sr (Wn 1 rfl (Wr (.len underlying122 rfl) rfl (Wn 1 rfl (Nx (WC.cond rfl (fun P=>?_) (fun P=>?_)))))))
 ·refine Sn (Sq (WC.block (WC.draw [0,1,2,3,4] mixed (by kernel_rfl) fun w8 t=>?_)))
  have L8:=Lp.trans t
  refine Gd rfl (.jK Gj (by simp[RX]) rfl (bh.le t)) ?_
  refine Gn 1 rfl (Ga rfl (.Fz 64 underlying122 vJ rfl rfl rfl (by omega)) (G.ef rfl rfl rfl rfl rfl (Ef.call UZ rfl rfl (Qy w8 RX ((hb.le L8).Fz 64 (by omega)) rfl (by omega)) ?_)))
  rintro _ a9 ⟨rfl,u⟩
  refine⟨_,rfl,?_⟩
  have aD:=L8.trans u
  refine⟨fun _=>u,?_⟩
  refine G.kP rfl rfl rfl rfl (Ef.storeAll Db (by simp[qN]) rfl rfl ((bh.le t).le u) (by simp[qN,RX]) (fun v hv=>ou _ v (by simpa using hv)) ?_)
  intro aE aF K
  have aG:Le w aE:=aD.kI K (fun q hq=>by cases hq;exact hgh)
  refine noT (by kernel_rfl) (G.nil (E.jZ (E.jG (WC.region (Wn 1 rfl (Wa (.sI 64 underlying122 vJ rfl rfl rfl (by omega) (by omega)) rfl (Wn 1 rfl (W.nil (E.again (uq Ab cb 64 1,nb-64,cb-64,ys.drop 64,mix hh (ys.take 64)) (.of rfl) ?_ ?_)))))))))
  ·exact⟨hb.sI cb 64 (by omega) hcb,by omega,qN _ _,(sF _ _ (by omega)).symm.trans hmx,aG,aF,((b.le t).le u).ch K (by simp;omega),((hE.le t).le u).ch K (fun q hq=>by cases hq;simp[lU];omega)⟩
  first|omega|(simp only[];omega)
 have Y9:hh=mD first xs:=by rw[<-hmx,um _ _ (by omega)]
 refine WC.exit (E.jJ (E.jJ (E.ko (E.jG (Sq (WC.block (WC.loop (ι:=Option Addr×Nat×Nat×List Byte×List Word) (fun⟨Ab,nb,cb,ys,hh⟩=>[(2,.pointer (some ⟨d,0,none⟩)),(3,.slice Ab nb cb),(4,.pointer (some ⟨f,0,none⟩))]) (fun⟨Ab,nb,cb,ys,hh⟩ wq=>Sb wq Ab nb ys/\lU Ab=some ge/\nb<=cb/\nb%64=0/\hh.length=8/\mD hh ys=mD (mD first xs) (tail xs)/\Le w wq/\jL wq f 232 (hh.map kZ).toArray/\jL wq d 23 ((List.replicate 32 0#8).map lD).toArray) (fun⟨Ab,nb,cb,ys,hh⟩=>nb) (some ⟨ge,0,none⟩,n%64+1+noughts n+8,X,tail xs,hh) ?_ ?_ ?_)))))))
 ·exact .of rfl
 ·exact⟨hE,rfl,hce,htl,RX,by rw[Y9],Lp,bh,b⟩
 rintro⟨Ab,nb,cb,ys,hh⟩ wq ⟨hb,hbe,hcb,ba,RX,hmx,Lq,bh,b⟩
 have hyl:=hb.len
 refine Sq (Sr (Wn 1 rfl (Wr (.len underlying122 rfl) rfl (Wn 1 rfl (Nx (WC.cond rfl (fun i=>?_) (fun i=>?_)))))))
 ·refine Sn (Sq (WC.block (WC.draw [0,1,2,3,4] mixed (by kernel_rfl) fun aH l=>?_)))
  have aI:=Lq.trans l
  refine Gd rfl (.jK Gj (by simp[RX]) rfl (bh.le l)) ?_
  refine Gn 1 rfl (Ga rfl (.Fz 64 underlying122 vJ rfl rfl rfl (by omega)) (G.ef rfl rfl rfl rfl rfl (Ef.call UZ rfl rfl (Qy aH RX ((hb.le l).Fz 64 (by omega)) rfl (by omega)) ?_)))
  rintro _ bb ⟨rfl,x⟩
  refine⟨_,rfl,?_⟩
  have aJ:=aI.trans x
  refine⟨fun _=>x,?_⟩
  refine G.kP rfl rfl rfl rfl (Ef.storeAll Db (by simp[qN]) rfl rfl ((bh.le l).le x) (by simp[qN,RX]) (fun v hv=>ou _ v (by simpa using hv)) ?_)
  intro aK aL L
  have aM:Le w aK:=aJ.kI L (fun q hq=>by cases hq;exact hgh)
  refine noT (by kernel_rfl) (G.nil (E.jZ (E.jG (WC.region (Wn 1 rfl (Wa (.sI 64 underlying122 vJ rfl rfl rfl (by omega) (by omega)) rfl (Wn 1 rfl (W.nil (E.again (uq Ab cb 64 1,nb-64,cb-64,ys.drop 64,mix hh (ys.take 64)) (.of rfl) ?_ ?_)))))))))
  ·exact⟨(((hb.le l).le x).ch L (fun q hq=>by cases hq;rw[hbe];simp;omega)).sI cb 64 (by omega) hcb,by rw[D7,hbe],by omega,by omega,qN _ _,(sF _ _ (by omega)).symm.trans hmx,aM,aL,((b.le l).le x).ch L (by simp;omega)⟩
  first|omega|(simp only[];omega)
 have Y9:hh=mD (mD first xs) (tail xs):=by rw[<-hmx,um _ _ (by omega)]
 refine WC.exit (E.jJ (E.jJ (E.ko (E.jG (Sq (Sr (Wn 1 rfl (Nx (WC.block (WC.loop (ι:=Nat) (fun k=>[(2,.pointer (some ⟨d,0,none⟩)),(4,.pointer (some ⟨f,0,none⟩)),(48,.int .i64 (k:Int))]) (fun k wr=>k<=32/\Le w wr/\jL wr f 232 (hh.map kZ).toArray/\jL wr d 23 ((rG hh k).map lD).toArray) (fun k=>32-k) 0 ?_ ?_ ?_))))))))))
 ·exact .of rfl
 ·exact⟨by omega,Lq,bh,b⟩
 rintro k wr ⟨hk,Lr,bh,b⟩
 have hdl:=xm hh k hk
 refine Sr (Wn 1 rfl (Nx (Sq (WC.cond rfl (fun c3=>?_) (fun c3=>?_)))))
 ·refine Sn (Sq (WC.block (Sr (Wn 2 rfl (Nx (WC.region (Wn 2 rfl (Wa (.quo rfl rfl (by omega)) rfl (Wa (.l5 (k/4) underlying232 lq rfl rfl (by omega) (by omega)) rfl (Wr (.jF lQ rfl bh (nR _ (by omega))) rfl (Wn 1 rfl (Wa (.rem rfl rfl (by omega)) rfl ?_))))))))))))
  refine Wa (.mul rfl rfl (by omega)) rfl (Wa (.sub rfl rfl (by omega)) rfl (Wa (.CS (24-8*(k%4)) rfl rfl (by omega) (by omega)) rfl (Wr (.Pj (y5 underlying25) underlying5 rfl) rfl (Wa (.l5 k underlying23 vJ rfl rfl rfl (by omega)) rfl (W.kP rfl rfl ?_)))))
  refine Ef.store vJ rfl rfl b (by simp;omega) rfl ?_
  intro aN aO ac
  have aP:Le w aN:=Lr.kI ac (fun q hq=>by cases hq;exact O)
  refine W.nil (E.jZ (E.jG (WC.region (Wa (.add rfl rfl (by omega)) rfl (Wn 1 rfl (W.nil (E.again (k+1) (.of rfl) ?_ ?_)))))))
  ·exact⟨by omega,aP,bh.ch ac (by simp;omega),aO.cast (by rw[<-yX hh k (by omega)];apply Array.ext';simp)⟩
  first|omega|(simp only[];omega)
 have aQ:k=32:=by omega
 subst aQ
 refine WC.exit (E.jJ (E.jJ (E.ko (E.jG (Sr (Wr (.jK sV (by simp[hdl]) rfl b) rfl ?_))))))
 refine W.kP rfl rfl (Ef.storeAll zx (by simp[hdl]) rfl rfl b (by simp) (tL _) ?_)
 intro aR aS aT
 have aU:Le w aR:=Lr.kI aT (fun q hq=>by cases hq;exact O)
 refine Nx (Rt (E.I8 rfl rfl aS sV (by simp[hdl]) ?_))
 exact⟨by rw[wI.sum,<-Y9];simp[rG,List.take_of_length_le,qF],aU⟩

set_option maxHeartbeats 1000000 in
theorem VZ {A:Option Addr} {n c:Nat} {vs:List Value} {ps:List (List Byte)} (name:ByteArray) (nm:List Byte) (w:World) (hnm:byteCells name=nm.map lD) (hV:Sl w 1 A n vs) (hP:Parts w vs ps) (hT:(nP nm ps).length<=1099511627776):Calls prog 127 #[.string name,.slice A n c] w fun e w'=>e= .returned (.agg ((tag nm ps).map lD).toArray)/\Le w w':=by
 have hns:name.size=nm.length:=by have:=congrArg List.length hnm;simpa[byteCells_length]using this
 have hnl:nm.length=name.size:=hns.symm
 have hvl:=hV.1
 have hpl:=hP.1
 have hpn:=xG nm ps
 have hle:=vL nm ps 0
 rw[pF]at hle
 simp[lN]at hle
 refine enter func127 rfl rfl ?_
 have J:=Le.refl w
 refine Sr (W.ef rfl rfl rfl (Ef.jR z23 fun d l K o L=>?_))
 have s:=J.trans L
 have b:jL l d 23 ((List.replicate 32 0#8).map lD).toArray:=o
 refine Nx (Sr (Wn 1 rfl (Wr (.Pf underlying9 rfl) rfl (W.cl Qn rfl rfl (Ib (xs:=[]) name.size l (Own.empty l w.heap.size 5 1 none) (by omega) (by omega) s.size) ?_))))
 rintro _ t ⟨N,O,rfl,u,x,P⟩
 have y:Le w t:=s.kI x (fun q hq=>by rw[lC]at hq;cases hq)
 have b:=b.ch x (by rw[lC];simp)
 have f:rowOf N O≠some d:=fun he=>by have:=P.none he;have:=o.lt;omega
 refine Wn 1 rfl (W.ef rfl rfl rfl (Ef.append underlying122 wV rfl u rfl (Src.ofString t underlying9 name) (by omega) (by unfold maxLen;omega) y.size ?_))
 intro z B Q R C S
 have T:Le w Q:=y.kI C (fun q hq=>(u.row hq).1)
 have f:rowOf z B≠some d:=S.off (by have:=b.lt;omega) f
 have b:=b.ch C (by assumption)
 refine Wn 1 rfl (Nx (Sq (Sr (Wn 1 rfl (Wr (.len underlying210 rfl) rfl (Wn 1 rfl (Nx (WC.block (WC.loop (ι:=Nat×Option Addr×Nat) (fun⟨k,i,j⟩=>[(4,.pointer (some ⟨d,0,none⟩)),(5,.slice i (pz nm ps k).length j),(13,.slice A n c),(14,.int .i64 (n:Int)),(15,.int .i64 (k:Int))]) (fun⟨k,i,j⟩ wl=>k<=n/\Le w wl/\Own wl w.heap.size 5 1 i (pz nm ps k).length j ((pz nm ps k).map lD)/\jL wl d 23 ((List.replicate 32 0#8).map lD).toArray/\rowOf i j≠some d) (fun⟨k,i,j⟩=>n-k) (0,z,B) ?_ ?_ ?_)))))))))
 ·exact .cons rfl (.cons' rfl (pM (by rw[pF];simp[lN,hnl])) (.of rfl))
 ·exact⟨Nat.zero_le _,T,R.cast (by rw[pF];simp[lN,hnl]) (by rw[pF,hnm];simp[hnl]),b,f⟩
 rintro⟨k,i,j⟩ wl ⟨hk,Ll,ol,b,f⟩
 have hTk:(pz nm ps k).length<=1099511627776:=Nat.le_trans (vL nm ps k) hT
 refine Sr (Wn 1 rfl (Nx (Sq (WC.cond rfl (fun U=>?_) (fun U=>?_)))))
 ·have hkn:k<n:=by omega
  obtain⟨q,hq⟩:∃q,ps[k]? =some q:=⟨_,List.getElem?_eq_getElem (by omega)⟩
  obtain⟨v,hv⟩:∃v,vs[k]? =some v:=⟨_,List.getElem?_eq_getElem (by omega)⟩
  obtain⟨Aq,cq,rfl,V⟩:=hP.2 k v q hv hq
  have hsucc:=DU nm ps k q hq
  have an:(pz nm ps (k+1)).length<=1099511627776:=Nat.le_trans (vL nm ps (k+1)) hT
  have hsl:(pz nm ps (k+1)).length=(pz nm ps k).length+8+q.length:=by rw[hsucc];simp[lN];omega
  refine Sn (Sq (WC.block (Sr (Wa (.lK k underlying210 ze rfl rfl (hV.isSome hkn (by decide)) rfl (by omega)) rfl (Wr (.lG wh rfl (hV.le Ll) hv) rfl (Wn 1 rfl (Nx (WC.region (Wn 2 rfl (Wr (.len underlying122 rfl) rfl (W.cl Qn rfl rfl (Ib q.length wl ol (by omega) (by omega) Ll.size) ?_)))))))))))
  rintro _ X ⟨Y,Z,rfl,D,F,aa⟩
  have m:Le w X:=Ll.kI F (fun q hq=>(ol.row hq).1)
  have Za:rowOf Y Z≠some d:=aa.off (by have:=b.lt;omega) f
  have b:=b.ch F f
  refine Wn 1 rfl (W.ef rfl rfl rfl (Ef.append underlying122 wV rfl D rfl ((V.le m).src underlying122 _) (by omega) (by unfold maxLen;omega) m.size ?_))
  intro ab ac ad ae H af
  have ah:Le w ad:=m.kI H (fun q hq=>(D.row hq).1)
  refine Wn 1 rfl (W.nil (E.jZ (E.jG (WC.region (Wa (.add rfl rfl (by omega)) rfl (Wn 1 rfl (W.nil (E.again (k+1,ab,ac) (.cons rfl (.cons' rfl (pM (by rw[hsucc];simp[lN];omega)) (.of rfl))) ?_ ?_))))))))
  ·exact⟨by omega,ah,ae.cast (by rw[hsucc];simp[lN];omega) (by rw[hsucc];simp),b.ch H Za,af.off (by have:=b.lt;omega) Za⟩
  first|omega|(simp only[];omega)
 have hkn:k=n:=by omega
 refine WC.exit (E.jJ (E.jJ (E.ko (E.jG (Sr (Wn 1 rfl (W.cl YL rfl rfl (VY wl ol.sb (by omega) ol.cap.1) ?_)))))))
 rintro _ ao ⟨rfl,I⟩
 have ai:=Ll.trans I
 refine W.kP rfl rfl (Ef.storeAll zx (by simp[qO]) rfl rfl (b.le I) (by simp[qO]) (tL _) ?_)
 intro aj ak al
 have am:Le w aj:=ai.kI al (fun q hq=>by cases hq;exact K)
 refine Nx (Rt (E.I8 rfl rfl ak sV (by simp[qO]) ?_))
 exact⟨by rw[tag,FP nm ps k (by omega)],am⟩
end Go.Proofs.YtcaehidaejhdfaaGreat

namespace Go.Proofs.YtcaehidaejhdfaaGreat
open Tryz
open Go Go.Sx Go.wI
set_option maxRecDepth 20000
theorem qJ (x:BitVec 32)(k:Nat)(w:World)(hk:1<=k/\k<=31):Calls prog 174 #[kZ x,.int .i64 (k:Int)] w fun e w'=>e= .returned (kZ (LG x k))/\Le w w':=by
 refine enter func174 rfl rfl (WC.sr (W.run 1 rfl (W.nx (WC.seq (WC.draw [0,1,2,3,4,5,6,7,8] mixed (by kernel_rfl) fun d b=>?_)))))
 have c:=(Le.refl w).trans b
 refine G.run 2 rfl (Ga rfl (.CS k rfl rfl rfl (by omega)) (G.run 2 rfl (Ga rfl (.sub rfl rfl (by omega)) (Ga rfl (.CR (32-k) rfl rfl (by omega) (by omega)) (Ga rfl (.FB rfl rfl) ?_)))))
 refine G.run 1 rfl (G.nil (E.jG (WC.ret (E.o9 rfl rfl ?_))))
 exact⟨by rw[O9],c⟩

theorem KU (w:World):Calls prog 160 #[] w fun e w'=>∃A' c',e= .returned (.slice A' 8 c')/\Own w' w.heap.size 25 1 A' 8 c' (first.map kZ)/\Le w w':=by
 refine enter func160 rfl rfl ?_
 have b:=Le.refl w
 refine Sr (Wn 1 rfl (Nx (Sr (W.ef rfl rfl rfl (Ef.pO (first.map kZ) underlying228 EF (by kernel_rfl) (ou _) rfl (by decide) (by decide) fun j k c d f=>?_)))))
 have i:=b.trans f
 refine Wn 1 rfl (Nx (Rt (E.o9 rfl rfl ?_)))
 exact⟨_,_,rfl,d.own (s:=1) (n:=8) c rfl (by unfold maxLen;omega),i⟩

theorem QA (w:World):Calls prog 173 #[] w fun e w'=>∃A' c',e= .returned (.slice A' 64 c')/\Own w' w.heap.size 25 1 A' 64 c' (table.map kZ)/\Le w w':=by
 refine enter func173 rfl rfl ?_
 have b:=Le.refl w
 refine Sr (Wn 1 rfl (Nx (Sr (W.ef rfl rfl rfl (Ef.pO (table.map kZ) underlying228 EF (by kernel_rfl) (ou _) rfl (by decide) (by decide) fun j k c d f=>?_)))))
 have i:=b.trans f
 refine Wn 1 rfl (Nx (Rt (E.o9 rfl rfl ?_)))
 exact⟨_,_,rfl,d.own (s:=1) (n:=64) c rfl (by unfold maxLen;omega),i⟩

theorem NH {A:Option Addr}{n c:Nat}{b:List Byte}(w:World)(hS:Sb w A n b)(hn:n=64):Calls prog 172 #[.slice A n c] w fun e w'=>∃A' c',e= .returned (.slice A' 64 c')/\Own w' w.heap.size 25 1 A' 64 c' ((sched b).map kZ)/\Le w w':=by
 have hbl:=hS.len
 refine enter func172 rfl rfl (Sr (Wn 1 rfl (Nx (Sr (Wn 1 rfl (Nx (Sq (Sr (Wn 1 rfl (Nx (WC.block (WC.loop (ι:=Nat×Option Addr×Nat) (fun⟨k,f,d⟩=>[(0,.slice A n c),(3,.slice f k d),(4,.int .i64 (k:Int))]) (fun⟨k,f,d⟩ wl=>k<=16/\Le w wl/\Own wl w.heap.size 25 1 f k d ((pq b k).map kZ)) (fun⟨k,f,d⟩=>16-k) (0,none,0) ?_ ?_ ?_))))))))))))
 ·exact .of rfl
 ·exact⟨by omega,(Le.refl w),Own.empty _ _ _ _ _⟩
 rintro⟨k,f,d⟩ wl ⟨hk,Ll,ol⟩
 refine Sq (Sr (Wn 2 rfl (Nx (WC.cond rfl (fun C=>?_) (fun C=>?_)))))
 ·refine Sn (Sq (WC.block (WC.draw [0,1,2,3,4,5,6,7,8,9,10,11,12,13,14,15,16,17,18,19,20,21,22,23,24,25,26,27,28,29,30,31,32,33,34,35,36] mixed (by kernel_rfl) fun w5 s=>?_)))
  have i:=Ll.trans s
  refine Gn 3 rfl (Ga rfl (.mul rfl rfl (by omega)) (Ga rfl (.lK (4*k) underlying122 vJ rfl rfl (hS.isSome (by omega)) (by omega) (by omega)) (Gd rfl (.lG IB rfl (hS.le i) (I9 b (by omega))) (Gd rfl (.xL (y5 underlying5) underlying25 rfl) (Ga rfl (.CR 24 rfl rfl rfl (by decide)) ?_)))))
  refine Gn 2 rfl (Ga rfl (.mul rfl rfl (by omega)) (Ga rfl (.add rfl rfl (by omega)) (Ga rfl (.lK (4*k+1) underlying122 vJ rfl rfl (hS.isSome (by omega)) (by omega) (by omega)) (Gd rfl (.lG IB rfl (hS.le i) (I9 b (by omega))) (Gd rfl (.xL (y5 underlying5) underlying25 rfl) ?_)))))
  refine Ga rfl (.CR 16 rfl rfl rfl (by decide)) (Ga rfl (.FB rfl rfl) (Gn 2 rfl (Ga rfl (.mul rfl rfl (by omega)) (Ga rfl (.add rfl rfl (by omega)) (Ga rfl (.lK (4*k+2) underlying122 vJ rfl rfl (hS.isSome (by omega)) (by omega) (by omega)) ?_)))))
  refine Gd rfl (.lG IB rfl (hS.le i) (I9 b (by omega))) (Gd rfl (.xL (y5 underlying5) underlying25 rfl) (Ga rfl (.CR 8 rfl rfl rfl (by decide)) (Ga rfl (.FB rfl rfl) (Gn 2 rfl (Ga rfl (.mul rfl rfl (by omega)) ?_)))))
  refine Ga rfl (.add rfl rfl (by omega)) (Ga rfl (.lK (4*k+3) underlying122 vJ rfl rfl (hS.isSome (by omega)) (by omega) (by omega)) (Gd rfl (.lG IB rfl (hS.le i) (I9 b (by omega))) (Gd rfl (.xL (y5 underlying5) underlying25 rfl) (Ga rfl (.FB rfl rfl) (G.ef rfl rfl rfl rfl rfl ?_)))))
  refine Ef.ny underlying228 EF rfl rfl fun af ah ai D l=>?_
  have t:=i.trans l
  refine⟨fun _=>l,?_⟩
  refine G.ef rfl rfl rfl rfl rfl (Ef.append underlying228 EF rfl ((ol.le s).le l) rfl (D.FC underlying228 rfl) (by omega) (by unfold maxLen;omega) t.size ?_)
  intro F H I J K aj
  have L:Le w I:=t.kI K (fun q hq=>(ol.row hq).1)
  refine noT (by kernel_rfl) (Gn 1 rfl (G.nil (E.jZ (E.jG (WC.region (Wn 1 rfl (Wa (.add rfl rfl (by omega)) rfl (Wn 1 rfl (W.nil (E.again (k+1,F,H) (.of rfl) ?_ ?_))))))))))
  ·exact⟨by omega,L,J.cast rfl (by rw[pq,if_pos (by omega),M7];simp)⟩
  first|omega|(simp only[];omega)
 have N:k=16:=by omega
 subst N
 refine WC.exit (E.jJ (E.jJ (E.ko (E.jG (Sq (Sr (Wn 1 rfl (Nx (WC.block (WC.loop (ι:=Nat×Option Addr×Nat) (fun⟨k,f,d⟩=>[(3,.slice f k d),(5,.int .i64 (k:Int))]) (fun⟨k,f,d⟩ wm=>16<=k/\k<=64/\Le w wm/\Own wm w.heap.size 25 1 f k d ((pq b k).map kZ)) (fun⟨k,f,d⟩=>64-k) (16,f,d) ?_ ?_ ?_))))))))))
 ·exact .of rfl
 ·exact⟨by omega,by omega,Ll,ol⟩
 rintro⟨k,f,d⟩ wm ⟨ak,hk,Lm,ol⟩
 have hsl:=og b k
 refine Sq (Sr (Wn 2 rfl (Nx (WC.cond rfl (fun d=>?_) (fun d=>?_)))))
 ·refine Sn (Sq (WC.block (Sr (Wn 2 rfl (Wa (.sub rfl rfl (by omega)) rfl (Wa (.lK (k-15) underlying228 lq rfl rfl (ol.sl.isSome (j:=0) (by omega) (by decide)) (by omega) (by omega)) rfl (Wr (.lG lQ rfl ol.sl (qg _ (by omega))) rfl (Wn 1 rfl (Nx (Sr (Wn 2 rfl (Wa (.sub rfl rfl (by omega)) rfl ?_))))))))))))
  refine Wa (.lK (k-2) underlying228 lq rfl rfl (ol.sl.isSome (j:=0) (by omega) (by decide)) (by omega) (by omega)) rfl (Wr (.lG lQ rfl ol.sl (qg _ (by omega))) rfl (Wn 1 rfl (Nx (Sr (Wn 1 rfl (W.cl zg rfl rfl (qJ _ 7 wm (by omega)) ?_))))))
  rintro _ O ⟨rfl,u⟩
  have P:=Lm.trans u
  refine Wn 1 rfl (W.cl zg rfl rfl (qJ _ 18 O (by omega)) ?_)
  rintro _ Q ⟨rfl,v⟩
  have R:=P.trans v
  refine Wa (.qH rfl rfl) rfl (Wn 1 rfl (Wa (.CS 3 rfl rfl rfl (by decide)) rfl (Wa (.qH rfl rfl) rfl (Wn 1 rfl (Nx (Sr (Wn 1 rfl (W.cl zg rfl rfl (qJ _ 17 Q (by omega)) ?_))))))))
  rintro _ S ⟨rfl,x⟩
  have T:=R.trans x
  refine Wn 1 rfl (W.cl zg rfl rfl (qJ _ 19 S (by omega)) ?_)
  rintro _ al ⟨rfl,y⟩
  have U:=T.trans y
  refine Wa (.qH rfl rfl) rfl (Wn 1 rfl (Wa (.CS 10 rfl rfl rfl (by decide)) rfl (Wa (.qH rfl rfl) rfl (Wn 1 rfl (Nx (WC.draw [0,1,2,3,4,5,6,7,8,9,10,11,12,13,14,15,16,17,18] mixed (by kernel_rfl) ?_))))))
  intro am z
  have V:=U.trans z
  have m:=ol.le (u.trans (v.trans (x.trans (y.trans z))))
  refine Gn 3 rfl (Ga rfl (.sub rfl rfl (by omega)) (Ga rfl (.lK (k-16) underlying228 lq rfl rfl (ol.sl.isSome (j:=0) (by omega) (by decide)) (by omega) (by omega)) (Gd rfl (.lG lQ rfl m.sl (qg _ (by omega))) (Gn 1 rfl (Ga rfl (.add32 rfl rfl) ?_)))))
  refine Gn 2 rfl (Ga rfl (.sub rfl rfl (by omega)) (Ga rfl (.lK (k-7) underlying228 lq rfl rfl (ol.sl.isSome (j:=0) (by omega) (by decide)) (by omega) (by omega)) (Gd rfl (.lG lQ rfl m.sl (qg _ (by omega))) (Ga rfl (.add32 rfl rfl) (Gn 1 rfl ?_)))))
  refine Ga rfl (.add32 rfl rfl) (G.ef rfl rfl rfl rfl rfl (Ef.ny underlying228 EF rfl rfl fun an ao ap X o=>?_))
  have B:=V.trans o
  refine⟨fun _=>o,?_⟩
  refine G.ef rfl rfl rfl rfl rfl (Ef.append underlying228 EF rfl (m.le o) rfl (X.FC underlying228 rfl) (by omega) (by unfold maxLen;omega) B.size ?_)
  intro Y Z aa ab ac aq
  have ad:Le w aa:=B.kI ac (fun q hq=>(ol.row hq).1)
  refine noT (by kernel_rfl) (Gn 1 rfl (G.nil (E.jZ (E.jG (WC.region (Wn 1 rfl (Wa (.add rfl rfl (by omega)) rfl (Wn 1 rfl (W.nil (E.again (k+1,Y,Z) (.of rfl) ?_ ?_))))))))))
  ·exact⟨by omega,by omega,ad,ab.cast rfl (by rw[pq,if_neg (by omega),DN];simp)⟩
  first|omega|(simp only[];omega)
 have ae:k=64:=by omega
 subst ae
 refine WC.exit (E.jJ (E.jJ (E.ko (E.jG (Sr (Wn 2 rfl (Nx (Rt (E.o9 rfl rfl ?_)))))))))
 exact⟨_,_,rfl,ol,Lm⟩

set_option maxHeartbeats 1000000 in
theorem NI {A Ab:Option Addr} {c nb cb:Nat} {b:List Byte} {h:List Word} (w:World) (hl:h.length=8) (hH:Sl w 1 A 8 (h.map kZ)) (hS:Sb w Ab nb b) (hn:nb=64):Calls prog 161 #[.slice A 8 c,.slice Ab nb cb] w fun e w'=>∃A' c',e= .returned (.slice A' 8 c')/\Own w' w.heap.size 25 1 A' 8 c' ((mix h b).map kZ)/\Le w w':=by
 have hsl:(sched b).length=64:=og b 64
 unfold mix
 refine enter func161 rfl rfl ?_
 have P:=Le.refl w
 refine Sr (Wn 1 rfl (Nx (Sr (Wn 1 rfl (W.cl YV rfl rfl (NH w (hS.le P) hn) ?_)))))
 rintro _ ab ⟨A5,c5,rfl,o5,ac⟩
 have ad:=P.trans ac
 refine Wn 1 rfl (Nx (Sr (W.cl YW rfl rfl (QA ab) ?_)))
 rintro _ aH ⟨A6,c6,rfl,o6,Q⟩
 have ae:=ad.trans Q
 refine Wn 1 rfl (Nx (Sr (W.ef rfl rfl rfl (Ef.oH underlying228 EF fun aI af aJ aK u=>?_))))
 have x:=ae.trans u
 refine Wn 1 rfl (W.ef rfl rfl rfl (Ef.append underlying228 EF rfl (Own.empty af w.heap.size 25 1 _) rfl ((hH.le x).src underlying228 (by decide) _ (ou _)) (by omega) (by unfold maxLen;omega) x.size ?_))
 intro ah ai R aj y aL
 have S:Le w R:=x.kI y (fun q hq=>by rw[lC]at hq;cases hq)
 have T:=((o5.le (Q.trans u)).ch y (fun q hq=>by rw[lC]at hq;cases hq)).sl
 have s6:=((o6.le u).ch y (fun q hq=>by rw[lC]at hq;cases hq)).sl
 refine Wn 1 rfl (Nx (Sq (Sr (Wn 1 rfl (Nx (WC.block (WC.loop (ι:=Nat×Option Addr×Nat) (fun⟨i,m,f⟩=>[(0,.slice A 8 c),(5,.slice A5 64 c5),(6,.slice A6 64 c6),(7,.slice m 8 f),(8,.int .i64 (i:Int))]) (fun⟨i,m,f⟩ wl=>i<=64/\Le R wl/\Own wl w.heap.size 25 1 m 8 f ((nD h (sched b) i).map kZ)) (fun⟨i,m,f⟩=>64-i) (0,ah,ai) ?_ ?_ ?_)))))))
 ·exact .of rfl
 ·exact⟨by omega,Le.refl _,aj.cast rfl (List.nil_append _)⟩
 rintro⟨i,m,f⟩ wl ⟨hi,Ll,ov⟩
 have hvl:=xk h (sched b) hl i
 obtain⟨v,hv⟩:∃v,v=nD h (sched b) i:=⟨_,rfl⟩
 rw[<-hv]at ov hvl
 have d:m.isSome=true:=ov.sl.isSome (j:=0) (by omega) (by decide)
 refine Sq (Sr (Wn 2 rfl (Nx (WC.cond rfl (fun c0=>?_) (fun c0=>?_)))))
 ·refine Sn (Sq (WC.block (Sq (WC.draw [0,1,2,4,5,6,9,10,11,3,7,8,12,13,14] mixed (by kernel_rfl) fun w7 z=>?_))))
  have L7:=(S.trans Ll).trans z
  have B:=(ov.le z).sl
  refine Gn 1 rfl (Ga rfl (.lK 4 underlying228 lq rfl rfl d rfl (by decide)) (Gd rfl (.lG lQ rfl B (qg _ (by omega))) (Gn 1 rfl (Ga rfl (.lK 4 underlying228 lq rfl rfl d rfl (by decide)) (Gd rfl (.lG lQ rfl B (qg _ (by omega))) ?_)))))
  refine Gn 1 rfl (Ga rfl (.lK 4 underlying228 lq rfl rfl d rfl (by decide)) (Gd rfl (.lG lQ rfl B (qg _ (by omega))) (G.ef rfl rfl rfl rfl rfl (Ef.call zg rfl rfl (qJ _ 6 w7 (by omega)) ?_))))
  rintro _ ak ⟨rfl,C⟩
  refine⟨_,rfl,?_⟩
  have al:=L7.trans C
  refine⟨fun _=>C,?_⟩
  refine G.ef rfl rfl rfl rfl rfl (Ef.call zg rfl rfl (qJ _ 11 ak (by omega)) ?_)
  rintro _ am ⟨rfl,D⟩
  refine⟨_,rfl,?_⟩
  have an:=al.trans D
  refine⟨fun _=>D,?_⟩
  refine Ga rfl (.qH rfl rfl) (G.ef rfl rfl rfl rfl rfl (Ef.call zg rfl rfl (qJ _ 25 am (by omega)) ?_))
  rintro _ aM ⟨rfl,F⟩
  refine⟨_,rfl,?_⟩
  have ao:=an.trans F
  refine⟨fun _=>F,?_⟩
  refine Ga rfl (.qH rfl rfl) (Gn 1 rfl (G.nil (E.jG (Sq (WC.draw [0,1,2,3,4,5,6,7,8,9,10,11,12,13,14,15,16] mixed (by kernel_rfl) fun w8 U=>?_)))))
  have LL:=z.trans (C.trans (D.trans (F.trans U)))
  have t:=(ov.le LL).sl
  refine Gn 1 rfl (Ga rfl (.lK 4 underlying228 lq rfl rfl d rfl (by decide)) (Gd rfl (.lG lQ rfl t (qg _ (by omega))) (Gn 1 rfl (Ga rfl (.lK 5 underlying228 lq rfl rfl d rfl (by decide)) (Gd rfl (.lG lQ rfl t (qg _ (by omega))) ?_)))))
  refine Ga rfl (.CQ rfl rfl) (Gn 1 rfl (Ga rfl (.lK 4 underlying228 lq rfl rfl d rfl (by decide)) (Gd rfl (.lG lQ rfl t (qg _ (by omega))) (Ga rfl (.Xh rfl) (Gn 1 rfl ?_)))))
  refine Ga rfl (.lK 6 underlying228 lq rfl rfl d rfl (by decide)) (Gd rfl (.lG lQ rfl t (qg _ (by omega))) (Ga rfl (.CQ rfl rfl) (Ga rfl (.qH rfl rfl) (Gn 1 rfl (G.nil (E.jG (Sq (WC.draw [0,1,2,3,4,5,6,7,8,9,10,11,12,13,14,15,16,17] mixed (by kernel_rfl) ?_))))))))
  intro w9 V
  have LL:=LL.trans V
  have v9:=(ov.le LL).sl
  refine Gn 1 rfl (Ga rfl (.lK 7 underlying228 lq rfl rfl d rfl (by decide)) (Gd rfl (.lG lQ rfl v9 (qg _ (by omega))) (Gn 1 rfl (Ga rfl (.add32 rfl rfl) (Gn 1 rfl ?_)))))
  refine Ga rfl (.add32 rfl rfl) (Gn 2 rfl (Ga rfl (.lK i underlying228 lq rfl rfl (s6.isSome (j:=0) (by omega) (by decide)) rfl (by omega)) (Gd rfl (.lG lQ rfl (s6.le (Ll.trans LL)) (qg _ (by show i<64;omega))) ?_)))
  refine Ga rfl (.add32 rfl rfl) (Gn 2 rfl (Ga rfl (.lK i underlying228 lq rfl rfl (T.isSome (j:=0) (by omega) (by decide)) rfl (by omega)) (Gd rfl (.lG lQ rfl (T.le (Ll.trans LL)) (qg _ (by rw[hsl];omega))) ?_)))
  refine Ga rfl (.add32 rfl rfl) (Gn 1 rfl (G.nil (E.jG (Sq (WC.draw [0,1,2,4,5,6,9,10,11,3,7,8,12,13,14] mixed (by kernel_rfl) fun ap X=>?_)))))
  have aq:=((ao.trans U).trans V).trans X
  have LL:=LL.trans X
  have H:=(ov.le LL).sl
  refine Gn 1 rfl (Ga rfl (.lK 0 underlying228 lq rfl rfl d rfl (by decide)) (Gd rfl (.lG lQ rfl H (qg _ (by omega))) (Gn 1 rfl (Ga rfl (.lK 0 underlying228 lq rfl rfl d rfl (by decide)) (Gd rfl (.lG lQ rfl H (qg _ (by omega))) ?_)))))
  refine Gn 1 rfl (Ga rfl (.lK 0 underlying228 lq rfl rfl d rfl (by decide)) (Gd rfl (.lG lQ rfl H (qg _ (by omega))) (G.ef rfl rfl rfl rfl rfl (Ef.call zg rfl rfl (qJ _ 2 ap (by omega)) ?_))))
  rintro _ ar ⟨rfl,I⟩
  refine⟨_,rfl,?_⟩
  have au:=aq.trans I
  refine⟨fun _=>I,?_⟩
  refine G.ef rfl rfl rfl rfl rfl (Ef.call zg rfl rfl (qJ _ 13 ar (by omega)) ?_)
  rintro _ av ⟨rfl,J⟩
  refine⟨_,rfl,?_⟩
  have aw:=au.trans J
  refine⟨fun _=>J,?_⟩
  refine Ga rfl (.qH rfl rfl) (G.ef rfl rfl rfl rfl rfl (Ef.call zg rfl rfl (qJ _ 22 av (by omega)) ?_))
  rintro _ aN ⟨rfl,K⟩
  refine⟨_,rfl,?_⟩
  have ax:=aw.trans K
  refine⟨fun _=>K,?_⟩
  refine Ga rfl (.qH rfl rfl) (Gn 1 rfl (G.nil (E.jG (Sq (WC.draw [0,1,2,3,4,5,6,7,8,9,10,11,12,13,14,15,16,17,18,19,20,21,22,23] mixed (by kernel_rfl) fun aO Y=>?_)))))
  have LL:=LL.trans (I.trans (J.trans (K.trans Y)))
  have o:=(ov.le LL).sl
  refine Gn 1 rfl (Ga rfl (.lK 0 underlying228 lq rfl rfl d rfl (by decide)) (Gd rfl (.lG lQ rfl o (qg _ (by omega))) (Gn 1 rfl (Ga rfl (.lK 1 underlying228 lq rfl rfl d rfl (by decide)) (Gd rfl (.lG lQ rfl o (qg _ (by omega))) ?_)))))
  refine Ga rfl (.CQ rfl rfl) (Gn 1 rfl (Ga rfl (.lK 0 underlying228 lq rfl rfl d rfl (by decide)) (Gd rfl (.lG lQ rfl o (qg _ (by omega))) (Gn 1 rfl (Ga rfl (.lK 2 underlying228 lq rfl rfl d rfl (by decide)) ?_)))))
  refine Gd rfl (.lG lQ rfl o (qg _ (by omega))) (Ga rfl (.CQ rfl rfl) (Ga rfl (.qH rfl rfl) (Gn 1 rfl (Ga rfl (.lK 1 underlying228 lq rfl rfl d rfl (by decide)) (Gd rfl (.lG lQ rfl o (qg _ (by omega))) ?_)))))
  refine Gn 1 rfl (Ga rfl (.lK 2 underlying228 lq rfl rfl d rfl (by decide)) (Gd rfl (.lG lQ rfl o (qg _ (by omega))) (Ga rfl (.CQ rfl rfl) (Ga rfl (.qH rfl rfl) (Gn 1 rfl (G.nil (E.jG ?_)))))))
  refine WC.draw [0,1,2,3,4,5,6,7,8,9,10,11,12,13,14,15,16,17,18,19,20,21,22,23,24,25,26,27,28,29] mixed (by kernel_rfl) fun aP L=>?_
  have Z:=(ax.trans Y).trans L
  have l:=(ov.le (LL.trans L)).sl
  refine Gn 2 rfl (Ga rfl (.add32 rfl rfl) (Gn 1 rfl (Ga rfl (.add32 rfl rfl) (Gn 1 rfl (Ga rfl (.lK 0 underlying228 lq rfl rfl d rfl (by decide)) ?_)))))
  refine Gd rfl (.lG lQ rfl l (qg _ (by omega))) (Gn 1 rfl (Ga rfl (.lK 1 underlying228 lq rfl rfl d rfl (by decide)) (Gd rfl (.lG lQ rfl l (qg _ (by omega))) (Gn 1 rfl (Ga rfl (.lK 2 underlying228 lq rfl rfl d rfl (by decide)) ?_)))))
  refine Gd rfl (.lG lQ rfl l (qg _ (by omega))) (Gn 1 rfl (Ga rfl (.lK 3 underlying228 lq rfl rfl d rfl (by decide)) (Gd rfl (.lG lQ rfl l (qg _ (by omega))) (Gn 1 rfl (Ga rfl (.add32 rfl rfl) ?_)))))
  refine Gn 1 rfl (Ga rfl (.lK 4 underlying228 lq rfl rfl d rfl (by decide)) (Gd rfl (.lG lQ rfl l (qg _ (by omega))) (Gn 1 rfl (Ga rfl (.lK 5 underlying228 lq rfl rfl d rfl (by decide)) (Gd rfl (.lG lQ rfl l (qg _ (by omega))) ?_)))))
  refine Gn 1 rfl (Ga rfl (.lK 6 underlying228 lq rfl rfl d rfl (by decide)) (Gd rfl (.lG lQ rfl l (qg _ (by omega))) (G.ef rfl rfl rfl rfl rfl (Ef.pO [_,_,_,_,_,_,_,_] underlying228 EF rfl (VX _ _ _ _ _ _ _ _) rfl (by decide) (by decide) fun aQ aR ay az N=>?_))))
  have aS:=Z.trans N
  refine⟨fun _=>N,?_⟩
  refine Gn 1 rfl (G.nil (E.jZ (E.jG (WC.region (Wn 1 rfl (Wa (.add rfl rfl (by omega)) rfl (Wn 1 rfl (W.nil (E.again (i+1,_,_) (.of rfl) ?_ ?_)))))))))
  ·exact⟨by omega,Ll.trans (LL.trans (L.trans N)),(az.own (s:=1) (n:=8) (Nat.le_trans Z.size ay) rfl (by unfold maxLen;omega)).cast rfl (by rw[nD,<-hv,stepW];simp[M6,Sc])⟩
  first|omega|(simp only[];omega)
 rw[hv]at ov hvl
 have aA:i=64:=by omega
 subst aA
 obtain⟨g7,rfl,aB,_,_⟩:=ov.lit (by omega)
 refine WC.exit (E.jJ (E.jJ (E.ko (E.jG (Sq (Sr (Wn 1 rfl (Nx (WC.block (WC.loop (ι:=Nat) (fun j=>[(0,.slice A 8 c),(7,.slice (some ⟨g7,0,none⟩) 8 f),(14,.int .i64 (j:Int))]) (fun j wm=>j<=8/\Le w wm/\Own wm w.heap.size 25 1 (some ⟨g7,0,none⟩) 8 f ((uR (nD h (sched b) 64) h j).map kZ)) (fun j=>8-j) 0 ?_ ?_ ?_))))))))))
 ·exact .of rfl
 ·exact⟨by omega,(S.trans Ll),ov.cast rfl (by rw[DR _ _ hvl])⟩
 rintro j wm ⟨hj,Lm,ov⟩
 have hal:=qf (nD h (sched b) 64) h j
 refine Sq (Sr (Wn 2 rfl (Nx (WC.cond rfl (fun c1=>?_) (fun c1=>?_)))))
 ·refine Sn (Sq (WC.block (WC.draw [0,1,2,3,4,5,6,7,8,9,10,11,12] mixed (by kernel_rfl) fun aT O=>?_)))
  have aa:=Lm.trans O
  refine Gn 4 rfl (Ga rfl (.lK j underlying228 lq rfl rfl rfl rfl (by omega)) (Gd rfl (.lG lQ rfl ((ov.le O).sl) ((qg (uR (nD h (sched b) 64) h j) (k:=j) (by omega)).trans (by rw[IQ _ _ _ _ (by omega),if_neg (by omega)]))) ?_))
  refine Gn 2 rfl (Ga rfl (.lK j underlying228 lq rfl rfl (hH.isSome (j:=0) (by omega) (by decide)) rfl (by omega)) (Gd rfl (.lG lQ rfl (hH.le aa) (qg _ (by omega))) (Ga rfl (.add32 rfl rfl) (Ga rfl (.Xg j underlying228 lq rfl rfl rfl (by omega)) (G.kP rfl rfl rfl rfl ?_)))))
  refine Ef.Vi lq rfl rfl (ov.le O) (by omega) rfl fun aC aD aE=>?_
  have aF:Le w aC:=aa.kI aE (fun q hq=>by cases hq;exact aB)
  refine noT (by kernel_rfl) (G.nil (E.jZ (E.jG (WC.region (Wn 1 rfl (Wa (.add rfl rfl (by omega)) rfl (Wn 1 rfl (W.nil (E.again (j+1) (.of rfl) ?_ ?_)))))))))
  ·exact⟨by omega,aF,aD.cast rfl (by rw[<-DT _ _ j (by omega)];simp)⟩
  first|omega|(simp only[];omega)
 have aG:j=8:=by omega
 subst aG
 refine WC.exit (E.jJ (E.jJ (E.ko (E.jG (Sr (Wn 2 rfl (Nx (Rt (E.o9 rfl rfl ?_)))))))))
 exact⟨_,_,rfl,ov,Lm⟩

theorem JG (m:Nat)(w:World)(_hm:m<18446744073709551616):Calls prog 132 #[.int .u64 (m:Int)] w fun e w'=>∃A' c',e= .returned (.slice A' 8 c')/\Own w' w.heap.size 5 1 A' 8 c' ((Kc m).map lD)/\Le w w':=by
 refine enter func132 rfl rfl (Sr (Wn 1 rfl (Nx (Sr (Wn 1 rfl (Nx (Sq (Sr (Wn 1 rfl (Nx (WC.block (WC.loop (ι:=Nat×Option Addr×Nat) (fun⟨k,b,c⟩=>[(0,.int .u64 (m:Int)),(3,.slice b k c),(4,.int .i64 (56-8*(k:Int)))]) (fun⟨k,b,c⟩ wl=>k<=8/\Le w wl/\Own wl w.heap.size 5 1 b k c ((DL m k).map lD)) (fun⟨k,b,c⟩=>8-k) (0,none,0) ?_ ?_ ?_))))))))))))
 ·exact .of rfl
 ·exact⟨by omega,(Le.refl w),Own.empty _ _ _ _ _⟩
 rintro⟨k,b,c⟩ wl ⟨hk,Ll,ol⟩
 refine Sq (Sr (Wn 2 rfl (Nx (WC.cond rfl (fun i=>?_) (fun i=>?_)))))
 ·refine Sn (Sq (WC.block (WC.region (Wn 3 rfl (Wa (.Ph m (56-8*k) rfl rfl rfl (by omega) (by show 56-8*k<=64;omega)) rfl ?_)))))
  refine Wr (.toU8 (m>>>(56-8*k)) (y5 underlying38) underlying5 rfl rfl) rfl (W.ef rfl rfl rfl (Ef.ny underlying122 wV rfl rfl fun x y z j d=>?_))
  have f:=Ll.trans d
  refine W.ef rfl rfl rfl (Ef.append underlying122 wV rfl (ol.le d) rfl (j.FC underlying122 rfl) (by omega) (by unfold maxLen;omega) f.size ?_)
  intro l n o s t A
  have u:Le w o:=f.kI t (fun q hq=>(ol.row hq).1)
  refine Wn 1 rfl (W.nil (E.jZ (E.jG (WC.region (Wn 1 rfl (Wa (.sub rfl rfl (by omega)) rfl (Wn 1 rfl (W.nil (E.again (k+1,l,n) (.cons rfl (.cons rfl (.cons' rfl (int_eq (by omega)) (.nil _)))) ?_ ?_)))))))))
  ·exact⟨by omega,u,s.cast rfl (by rw[zm m k (by omega)];simp)⟩
  first|omega|(simp only[];omega)
 have v:k=8:=by omega
 subst v
 refine WC.exit (E.jJ (E.jJ (E.ko (E.jG (Sr (Wn 2 rfl (Nx (Rt (E.o9 rfl rfl ?_)))))))))
 exact⟨_,_,rfl,ol,Ll⟩

theorem KV {A:Option Addr}{n c:Nat}{xs:List Byte}(w:World)(hS:Sb w A n xs)(hn:n<=35184372088832):Calls prog 159 #[.slice A n c] w fun e w'=>∃A' c',e= .returned (.slice A' (n+1+noughts n+8) c')/\Own w' w.heap.size 5 1 A' (n+1+noughts n+8) c' ((Au xs).map lD)/\Le w w':=by
 have hl:=hS.len
 have u:noughts n<=63:=by unfold noughts;omega
 refine enter func159 rfl rfl ?_
 have v:=Le.refl w
 refine Sr (Wn 1 rfl (Nx (Sr (W.ef rfl rfl rfl (Ef.oH underlying122 wV fun ae x af ah y=>?_)))))
 have f:=v.trans y
 refine Wn 1 rfl (W.ef rfl rfl rfl (Ef.append underlying122 wV rfl (Own.empty x w.heap.size 5 1 _) rfl ((hS.le f).src underlying122 _) (by omega) (by unfold maxLen;omega) f.size ?_))
 intro ai aj z i B ak
 have C:Le w z:=f.kI B (fun q hq=>by rw[lC]at hq;cases hq)
 refine Wn 1 rfl (Nx (Sr (Wn 1 rfl (W.ef rfl rfl rfl (Ef.ny underlying122 wV rfl rfl fun al am an D j=>?_)))))
 have l:=C.trans j
 refine W.ef rfl rfl rfl (Ef.append underlying122 wV rfl (i.le j) rfl (D.FC underlying122 rfl) (by omega) (by unfold maxLen;omega) l.size ?_)
 intro F H I J K ao
 have L:Le w I:=l.kI K (fun q hq=>(i.row hq).1)
 refine Wn 1 rfl (Nx (Sq (WC.block (WC.loop (ι:=Nat×Option Addr×Nat) (fun⟨k,b,d⟩=>[(0,.slice A n c),(3,.slice b (n+1+k) d)]) (fun⟨k,b,d⟩ wl=>k<=noughts n/\Le w wl/\Own wl w.heap.size 5 1 b (n+1+k) d ((xs++[128]++List.replicate k 0).map lD)) (fun⟨k,b,d⟩=>64-k) (0,F,H) ?_ ?_ ?_))))
 ·exact .cons rfl (.cons' rfl (pM (by omega)) (.nil _))
 ·exact⟨Nat.zero_le _,L,J.cast (by omega) (by simp;rfl)⟩
 rintro⟨k,b,d⟩ wl ⟨hk,Ll,ol⟩
 have u:noughts n<=63:=by unfold noughts;omega
 refine Sq (Sr (Wn 1 rfl (Wr (.len underlying122 rfl) rfl (Wa (.rem rfl rfl (by omega)) rfl (Wn 1 rfl (Nx (WC.cond rfl (fun N=>?_) (fun N=>?_))))))))
 ·refine Sn (WC.block (WC.region (Wn 1 rfl (W.ef rfl rfl rfl (Ef.ny underlying122 wV rfl rfl fun ap aq ar O m=>?_)))))
  have o:=Ll.trans m
  refine W.ef rfl rfl rfl (Ef.append underlying122 wV rfl (ol.le m) rfl (O.FC underlying122 rfl) (by omega) (by unfold maxLen;omega) o.size ?_)
  intro P Q R S T au
  have U:Le w R:=o.kI T (fun q hq=>(ol.row hq).1)
  refine Wn 1 rfl (W.nil (E.jZ (E.again (k+1,P,Q) (.cons rfl (.cons' rfl (pM (by omega)) (.nil _))) ?_ ?_)))
  ·exact⟨by unfold noughts at*;omega,U,S.cast (by omega) (by simp[List.replicate_succ'];rfl)⟩
  first|omega|(simp only[];omega)
 have hkn:k=noughts n:=by unfold noughts at*;omega
 subst hkn
 refine WC.exit (E.jJ (E.jJ (E.ko (E.jG (Sr (Wn 1 rfl (Wr (.len underlying122 rfl) rfl (Wr (.vv (i':=(n:Int)) (y5 underlying3) underlying38 rfl (by rw[wrap_u64];omega)) rfl ?_))))))))
 refine Wa (.ZX rfl rfl (by omega)) rfl (Wn 1 rfl (Nx (Sq (Sr (Wn 1 rfl (Nx (WC.block (WC.loop (ι:=Nat×Option Addr×Nat) (fun⟨k,b,cz⟩=>[(3,.slice b (n+1+noughts n+k) cz),(4,.int .u64 (8*(n:Int))),(5,.int .i64 (56-8*(k:Int)))]) (fun⟨k,b,cz⟩ wm=>k<=8/\Le w wm/\Own wm w.heap.size 5 1 b (n+1+noughts n+k) cz ((xs++[128]++List.replicate (noughts n) 0++DL (8*n) k).map lD)) (fun⟨k,b,cz⟩=>8-k) (0,b,d) ?_ ?_ ?_))))))))
 ·exact .of rfl
 ·exact⟨by omega,Ll,ol.cast rfl (by simp[DL])⟩
 rintro⟨k,b,cz⟩ wm ⟨hk,Lm,ol⟩
 refine Sq (Sr (Wn 2 rfl (Nx (WC.cond rfl (fun d=>?_) (fun d=>?_)))))
 ·refine Sn (Sq (WC.block (WC.region (Wn 3 rfl (Wa (.Ph (8*n) (56-8*k) rfl (by omega) rfl (by omega) (by show 56-8*k<=64;omega)) rfl ?_)))))
  refine Wr (.toU8 ((8*n)>>>(56-8*k)) (y5 underlying38) underlying5 rfl rfl) rfl (W.ef rfl rfl rfl (Ef.ny underlying122 wV rfl rfl fun av aw ax V s=>?_))
  have t:=Lm.trans s
  refine W.ef rfl rfl rfl (Ef.append underlying122 wV rfl (ol.le s) rfl (V.FC underlying122 rfl) (by omega) (by unfold maxLen;omega) t.size ?_)
  intro X Y Z aa ab ay
  have ac:Le w Z:=t.kI ab (fun q hq=>(ol.row hq).1)
  refine Wn 1 rfl (W.nil (E.jZ (E.jG (WC.region (Wn 1 rfl (Wa (.sub rfl rfl (by omega)) rfl (Wn 1 rfl (W.nil (E.again (k+1,X,Y) (.cons rfl (.cons rfl (.cons' rfl (int_eq (by omega)) (.nil _)))) ?_ ?_)))))))))
  ·exact⟨by omega,ac,aa.cast rfl (by rw[zm (8*n) k (by omega)];simp)⟩
  first|omega|(simp only[];omega)
 have ad:k=8:=by omega
 subst ad
 refine WC.exit (E.jJ (E.jJ (E.ko (E.jG (Sr (Wn 2 rfl (Nx (Rt (E.o9 rfl rfl ?_)))))))))
 exact⟨_,_,rfl,ol.cast rfl (by rw[Au,hl];rfl),Lm⟩

set_option maxHeartbeats 1000000 in
theorem TB {A:Option Addr} {n c:Nat} {xs:List Byte} (w:World) (hS:Sb w A n xs) (hn:n<=35184372088832):Calls prog 133 #[.slice A n c] w fun e w'=>e= .returned (.agg ((sum xs).map lD).toArray)/\Le w w':=by
 have aj:noughts n<=63:=by unfold noughts;omega
 refine enter func133 rfl rfl ?_
 have H:=Le.refl w
 refine Sr (W.ef rfl rfl rfl (Ef.jR z23 fun i v I x J=>?_))
 have y:=H.trans J
 have d:jL v i 23 ((List.replicate 32 0#8).map lD).toArray:=x
 refine Nx (Sr (Wn 1 rfl (W.cl YP rfl rfl (KV v (hS.le y) hn) ?_)))
 rintro _ K ⟨L,l,rfl,z,s⟩
 have O:=y.trans s
 have hP:=z.sb
 have hPl:=hP.len
 have hPm:=Pb xs
 have hPc:=z.cap
 rw[hPl]at hPm
 obtain⟨N,hN⟩:∃N,N=n+1+noughts n+8:=⟨_,rfl⟩
 rw[<-hN]at hP hPl hPm hPc ⊢
 refine Wn 1 rfl (Nx (Sr (W.cl YQ rfl rfl (KU K) ?_)))
 rintro _ P ⟨Q,R,rfl,S,m⟩
 have f:=O.trans m
 refine Wn 1 rfl (Nx (Sq (Sr (Wn 1 rfl (Nx (WC.block (WC.loop (ι:=Nat×Option Addr×Nat×List Word) (fun⟨j,Ah,ch,hh⟩=>[(2,.pointer (some ⟨i,0,none⟩)),(3,.slice L N l),(4,.slice Ah 8 ch),(5,.int .i64 (64*(j:Int)))]) (fun⟨j,Ah,ch,hh⟩ wl=>64*j<=N/\Le P wl/\hh.length=8/\Sl wl 1 Ah 8 (hh.map kZ)/\mD hh ((Au xs).drop (64*j))=mD first (Au xs)) (fun⟨j,Ah,ch,hh⟩=>N-64*j) (0,Q,R,first) ?_ ?_ ?_)))))))
 ·exact .of rfl
 ·exact⟨by omega,Le.refl _,rfl,S.sl,rfl⟩
 rintro⟨j,Ah,ch,hh⟩ wl ⟨hj,Ll,RX,sh,hmx⟩
 refine Sq (Sr (Wn 2 rfl (Wr (.len underlying122 rfl) rfl (Wn 1 rfl (Nx (WC.cond rfl (fun T=>?_) (fun T=>?_)))))))
 ·have hjN:64*j+64<=N:=by omega
  refine Sn (Sq (WC.block (WC.region (Wn 4 rfl (Wa (.add rfl rfl (by omega)) rfl (Wa (.cut (64*j) (64*j+64) underlying122 vJ rfl rfl (by omega) rfl (by omega) (by omega) (by omega)) rfl (W.cl YR rfl rfl (NI wl RX sh (((hP.le (m.trans Ll)).cut l (64*j) (64*j+64) (by omega) (by omega) hPc.1).cast rfl (show _=((Au xs).drop (64*j)).take 64 by rw[show 64*j+64-64*j=64 by omega])) (by omega)) ?_)))))))
  rintro _ ak ⟨U,V,rfl,X,B⟩
  have al:=(f.trans Ll).trans B
  refine Wn 1 rfl (W.nil (E.jZ (E.jG (WC.region (Wn 1 rfl (Wa (.add rfl rfl (by omega)) rfl (Wn 1 rfl (W.nil (E.again (j+1,U,V,mix hh (((Au xs).drop (64*j)).take 64)) (.cons rfl (.cons rfl (.cons rfl (.cons' rfl (int_eq (by omega)) (.nil _))))) ?_ ?_)))))))))
  ·exact⟨by omega,Ll.trans B,qN _ _,X.sl,by rw[<-hmx,sF hh ((Au xs).drop (64*j)) (by rw[List.length_drop];omega),List.drop_drop]<;>(try congr 2)<;>(try omega)⟩
  first|omega|(simp only[];omega)
 have hjN:64*j=N:=by omega
 have Y9:hh=mD first (Au xs):=by rw[<-hmx,um _ _ (by rw[List.length_drop];omega)]
 refine WC.exit (E.jJ (E.jJ (E.ko (E.jG (Sr (W.ef rfl rfl rfl (Ef.jR z23 fun b C t Y u=>?_)))))))
 have D:=(f.trans Ll).trans u
 have o:jL C b 23 ((List.replicate 32 0#8).map lD).toArray:=Y
 have d:=d.le (s.trans (m.trans (Ll.trans u)))
 have am:i<b:=by have:=x.lt;have:=s.size;have:=m.size;have:=Ll.size;omega
 refine Nx (Sq (Sr ?_))
 have abj:lU Ah≠some b:=by
  obtain⟨ad,rfl,Z⟩:=sh.2 0 (kZ (hh.getD 0 0)) (qg _ (by omega))
  have:=block_lt_of_cell Z
  simp[lU]at this ⊢;have h0:(ad.add 0).block=ad.block:=by simp[Addr.add]
  omega
 refine Wn 1 rfl (Nx (WC.block (WC.loop (ι:=Nat) (fun k=>[(2,.pointer (some ⟨i,0,none⟩)),(4,.slice Ah 8 ch),(6,.pointer (some ⟨b,0,none⟩)),(7,.int .i64 (k:Int))]) (fun k wr=>k<=32/\Ch C wr (some b)/\jL wr b 23 ((rG hh k).map lD).toArray) (fun k=>32-k) 0 ?_ ?_ ?_)))
 ·exact .of rfl
 ·exact⟨by omega,Ch.refl _ _,o⟩
 rintro k wr ⟨hk,Cr,o⟩
 have hdl:=xm hh k hk
 have d:=d.ch Cr (by simp;omega)
 have sh:=(sh.le u).ch Cr (fun q hq=>by cases hq;exact abj)
 refine Sq (Sr (Wn 2 rfl (Nx (WC.cond rfl (fun l=>?_) (fun l=>?_)))))
 ·refine Sn (Sq (WC.block (WC.region (Wn 3 rfl (Wa (.quo rfl rfl (by omega)) rfl (Wa (.lK (k/4) underlying228 lq rfl rfl (sh.isSome (j:=0) (by omega) (by decide)) (by omega) (by omega)) rfl (Wr (.lG lQ rfl sh (qg _ (by omega))) rfl (Wn 1 rfl (Wa (.rem rfl rfl (by omega)) rfl ?_)))))))))
  refine Wa (.mul rfl rfl (by omega)) rfl (Wa (.sub rfl rfl (by omega)) rfl (Wa (.CS (24-8*(k%4)) rfl rfl (by omega) (by omega)) rfl (Wr (.Pj (y5 underlying25) underlying5 rfl) rfl (Wa (.l5 k underlying23 vJ rfl rfl rfl (by omega)) rfl (W.kP rfl rfl ?_)))))
  refine Ef.store vJ rfl rfl o (by simp;omega) rfl ?_
  intro aa ab F
  have an:Le w aa:=(D.kI Cr (fun q hq=>by cases hq;exact Nat.le_trans (f.trans Ll).size t)).kI F (fun q hq=>by cases hq;exact Nat.le_trans (f.trans Ll).size t)
  refine W.nil (E.jZ (E.jG (WC.region (Wn 1 rfl (Wa (.add rfl rfl (by omega)) rfl (Wn 1 rfl (W.nil (E.again (k+1) (.of rfl) ?_ ?_))))))))
  ·exact⟨by omega,Cr.trans F,ab.cast (by rw[<-yX hh k (by omega)];apply Array.ext';simp)⟩
  first|omega|(simp only[];omega)
 have ac:k=32:=by omega
 subst ac
 refine WC.exit (E.jJ (E.jJ (E.ko (E.jG (Sr (Wr (.jK sV (by simp[hdl]) rfl o) rfl ?_))))))
 refine W.kP rfl rfl (Ef.storeAll zx (by simp[hdl]) rfl rfl d (by simp[hdl]) (tL _) ?_)
 intro ae af ah
 have ai:Le w ae:=(D.kI Cr (fun q hq=>by cases hq;exact Nat.le_trans (f.trans Ll).size t)).kI ah (fun q hq=>by cases hq;exact I)
 refine Nx (Rt (E.I8 rfl rfl af sV (by simp[hdl]) ?_))
 exact⟨by rw[Sd,<-Y9];simp[rG,List.take_of_length_le,qF],ai⟩
end Go.Proofs.YtcaehidaejhdfaaGreat

namespace Go.Proofs.YtcaehidaejhdfaaGreat
open Tryz
open Go Go.Sx Go.wI
set_option maxRecDepth 20000
theorem NJ (xs key:List Byte)(k:Nat)(h:k<key.length):(xs++key.take k).map lD++[lD (key.getD k 0)]=(xs++key.take (k+1)).map lD:=by
  have e:key.take (k+1)=key.take k++[key.getD k 0]:=by rw[List.take_add_one,List.getElem?_eq_getElem h,show key.getD k 0=key[k] by simp[List.getD,h]];rfl
  rw[e,<-List.append_assoc,List.map_append (l₁:=xs++key.take k)];rfl

set_option maxHeartbeats 1000000 in
theorem TC {A:Option Addr} {n c:Nat} {vs:List Value} {ps:List (List Byte)} (name:ByteArray) (nm:List Byte) (w:World) (hnm:byteCells name=nm.map lD) (hV:Sl w 1 A n vs) (hP:Parts w vs ps) (hT:(nP nm ps).length<=1099511627776):Calls prog 97 #[.string name,.slice A n c] w fun e w'=>e= .returned (.agg ((tag nm ps).map lD).toArray)/\Le w w':=by
 have hns:name.size=nm.length:=by have:=congrArg List.length hnm;simpa[byteCells_length]using this
 have hnl:nm.length=name.size:=hns.symm
 have hvl:=hV.1
 have hpl:=hP.1
 have hpn:=xG nm ps
 have hle:=vL nm ps 0
 rw[pF]at hle
 simp[lN]at hle
 refine enter func97 rfl rfl ?_
 have H:=Le.refl w
 refine Sr (W.ef rfl rfl rfl (Ef.jR z23 fun B l I C J=>?_))
 have b:=H.trans J
 have s:jL l B 23 ((List.replicate 32 0#8).map lD).toArray:=C
 have aj:=s.lt
 refine Nx (Sr (Wn 1 rfl (Wr (.Pf underlying9 rfl) rfl (Wr (.vv (i':=(name.size:Int)) (y5 underlying3) underlying38 rfl (by rw[wrap_u64];omega)) rfl ?_))))
 refine W.cl UR rfl rfl (JG name.size l (by omega)) ?_
 rintro _ ak ⟨A1,c1,rfl,m,o⟩
 have K:=b.trans o
 refine Wn 1 rfl (W.ef rfl rfl rfl (Ef.Po underlying9 underlying122 underlying5 rfl fun A2 c2 al L _ d=>?_))
 have N:=K.trans d
 refine W.ef rfl rfl rfl (Ef.append underlying122 wV rfl (m.le d) rfl (L.src underlying122 (by decide) _ (fun u hu=>by rw[hnm]at hu;exact tL _ u hu)) (by omega) (by unfold maxLen;omega) (Nat.le_trans o.size d.size) ?_)
 intro O P Q R t am
 have an:Le w Q:=N.kI t (fun q hq=>Nat.le_trans b.size (m.row hq).1)
 have S:=R.mono (Nat.le_refl _)
 have s:=s.le (o.trans d)|>.ch t (m.rl (by omega))
 refine Wn 1 rfl (Nx (Sq (Sr (Wn 1 rfl (Nx (WC.block (WC.loop (ι:=Nat×Option Addr×Nat) (fun⟨k,f,i⟩=>[(1,.slice A n c),(4,.pointer (some ⟨B,0,none⟩)),(5,.slice f (pz nm ps k).length i),(6,.int .i64 (k:Int))]) (fun⟨k,f,i⟩ wl=>k<=n/\Le l wl/\Own wl l.heap.size 5 1 f (pz nm ps k).length i ((pz nm ps k).map lD)) (fun⟨k,f,i⟩=>n-k) (0,O,P) ?_ ?_ ?_)))))))
 ·exact .cons rfl (.cons rfl (.cons' rfl (pM (by rw[pF];simp[lN,hnl])) (.cons rfl (.nil _))))
 ·exact⟨Nat.zero_le _,(o.trans d).kI t (fun q hq=>(m.row hq).1),S.cast (by rw[pF];simp[lN,hnl]) (by rw[pF,hnm,hnl];simp)⟩
 rintro⟨k,f,i⟩ wl ⟨hk,Ll,ol⟩
 have hTk:(pz nm ps k).length<=1099511627776:=Nat.le_trans (vL nm ps k) hT
 refine Sq (Sr (Wn 2 rfl (Wr (.len underlying210 rfl) rfl (Wn 1 rfl (Nx (WC.cond rfl (fun T=>?_) (fun T=>?_)))))))
 ·have hkn:k<n:=by omega
  obtain⟨q,hq⟩:∃q,ps[k]? =some q:=⟨_,List.getElem?_eq_getElem (by omega)⟩
  obtain⟨v,hv⟩:∃v,vs[k]? =some v:=⟨_,List.getElem?_eq_getElem (by omega)⟩
  obtain⟨Aq,cq,rfl,U⟩:=hP.2 k v q hv hq
  have hsucc:=DU nm ps k q hq
  have ao:(pz nm ps (k+1)).length<=1099511627776:=Nat.le_trans (vL nm ps (k+1)) hT
  have hsl:(pz nm ps (k+1)).length=(pz nm ps k).length+8+q.length:=by rw[hsucc];simp[lN];omega
  refine Sn (Sq (WC.block (Sr (Wn 2 rfl (Wa (.lK k underlying210 ze rfl rfl (hV.isSome hkn (by decide)) rfl (by omega)) rfl (Wr (.lG wh rfl (hV.le (b.trans Ll)) hv) rfl (Wr (.len underlying122 rfl) rfl (Wr (.vv (i':=(q.length:Int)) (y5 underlying3) underlying38 rfl (by rw[wrap_u64];omega)) rfl ?_))))))))
  refine W.cl UR rfl rfl (JG q.length wl (by omega)) ?_
  rintro _ ap ⟨A4,c4,rfl,V,j⟩
  have X:=(b.trans Ll).trans j
  refine Wn 1 rfl (Nx (Sr (Wn 2 rfl (W.ef rfl rfl rfl (Ef.append underlying122 wV rfl (ol.le j) rfl (V.sb.src underlying122 _) (by omega) (by unfold maxLen;omega) (Nat.le_trans Ll.size j.size) ?_)))))
  intro aq ar Y x y au
  have z:Le w Y:=X.kI y (fun q hq=>Nat.le_trans b.size (ol.row hq).1)
  refine Wn 1 rfl (Nx (WC.region (Wn 3 rfl (Wa (.lK k underlying210 ze rfl rfl (hV.isSome hkn (by decide)) rfl (by omega)) rfl (Wr (.lG wh rfl (hV.le z) hv) rfl (W.ef rfl rfl rfl (Ef.append underlying122 wV rfl x rfl ((U.le z).src underlying122 _) (by omega) (by unfold maxLen;omega) (Nat.le_trans (Nat.le_trans Ll.size j.size) y.size) ?_)))))))
  intro Z aa ab ac D av
  have aw:Le w ab:=z.kI D (fun q hq=>Nat.le_trans b.size (x.row hq).1)
  refine Wn 1 rfl (W.nil (E.jZ (E.jG (WC.region (Wn 1 rfl (Wa (.add rfl rfl (by omega)) rfl (Wn 1 rfl (W.nil (E.again (k+1,Z,aa) (.cons rfl (.cons rfl (.cons' rfl (pM (by rw[hsucc];simp[lN];omega)) (.cons rfl (.nil _))))) ?_ ?_)))))))))
  ·exact⟨by omega,(Le.kI (Le.kI (Ll.trans j) y (fun q hq=>(ol.row hq).1)) D (fun q hq=>(x.row hq).1)),ac.cast (by rw[hsucc];simp[lN];omega) (by rw[hsucc];simp)⟩
  first|omega|(simp only[];omega)
 have hkn:k=n:=by omega
 refine WC.exit (E.jJ (E.jJ (E.ko (E.jG (Sr (Wn 1 rfl (W.cl YG rfl rfl (TB wl ol.sb (by omega)) ?_)))))))
 rintro _ ax ⟨rfl,F⟩
 have ad:=(b.trans Ll).trans F
 refine W.kP rfl rfl (Ef.storeAll zx (by simp[qO]) rfl rfl (C.le (Ll.trans F)) (by simp[qO]) (tL _) ?_)
 intro ae af ah
 have ai:Le w ae:=ad.kI ah (fun q hq=>by cases hq;exact I)
 refine Nx (Rt (E.I8 rfl rfl af sV (by simp[qO]) ?_))
 exact⟨by rw[tag,FP nm ps k (by omega)],ai⟩

theorem KW (key:List Byte)(hk:key.length=32){A:Option Addr}{n c:Nat}{xs:List Byte}(w:World)(hS:Sb w A n xs)(hn:n<=35184372088832):Calls prog 98 #[.slice A n c,.agg (key.map lD).toArray] w fun e w'=>∃A' c',e= .returned (.slice A' (n+32) c')/\Own w' w.heap.size 5 1 A' (n+32) c' ((xs++key).map lD)/\Le w w':=by
 refine enter func98 rfl rfl ?_
 have u:=Le.refl w
 refine Sr (W.ef rfl rfl rfl (Ef.mH rfl fun v l P m x=>?_))
 have b:=u.trans x
 refine Wn 1 rfl (Nx (Sr (W.ef rfl rfl rfl (Ef.oH underlying122 wV fun Q y R S i=>?_))))
 have s:=b.trans i
 refine Wn 1 rfl (W.ef rfl rfl rfl (Ef.append underlying122 wV rfl (Own.empty y l.heap.size 5 1 _) rfl ((hS.le s).src underlying122 _) (by omega) (by unfold maxLen;omega) i.size ?_))
 intro z B C D o T
 have U:Le w C:=s.kI o (fun q hq=>by rw[lC]at hq;cases hq)
 have V:=(m.le i).ch o (by rw[lC];simp)
 have X:=m.lt
 refine Wn 1 rfl (Nx (Sq (Sr (Wn 1 rfl (Nx (WC.block (WC.loop (ι:=Nat×Option Addr×Nat) (fun⟨k,d,f⟩=>[(3,.pointer (some ⟨v,0,none⟩)),(5,.slice d (n+k) f),(6,.int .i64 (k:Int))]) (fun⟨k,d,f⟩ wl=>k<=32/\Le l wl/\Own wl l.heap.size 5 1 d (n+k) f ((xs++key.take k).map lD)) (fun⟨k,d,f⟩=>32-k) (0,z,B) ?_ ?_ ?_)))))))
 ·exact .cons rfl (.cons' rfl (pM (by omega)) (.cons rfl (.nil _)))
 ·exact⟨by omega,i.kI o (fun q hq=>by rw[lC]at hq;cases hq),D.cast (by omega) (by simp)⟩
 rintro⟨k,d,f⟩ wl ⟨Y,Ll,ol⟩
 refine Sq (Sr (Wn 2 rfl (Nx (WC.cond rfl (fun F=>?_) (fun F=>?_)))))
 ·refine Sn (Sq (WC.block (WC.region (Wn 2 rfl (Wa (.l5 k underlying23 vJ rfl rfl rfl (by omega)) rfl (Wr (.jF IB rfl (m.le Ll) (Ja _ (by omega))) rfl (W.ef rfl rfl rfl (Ef.ny underlying122 wV rfl rfl fun Z aa ab H j=>?_))))))))
  have I:=(b.trans Ll).trans j
  refine W.ef rfl rfl rfl (Ef.append underlying122 wV rfl (ol.le j) rfl (H.FC underlying122 rfl) (by omega) (by unfold maxLen;omega) (Nat.le_trans Ll.size j.size) ?_)
  intro J K L N t ac
  have ad:Le w L:=I.kI t (fun q hq=>Nat.le_trans b.size (ol.row hq).1)
  refine Wn 1 rfl (W.nil (E.jZ (E.jG (WC.region (Wn 1 rfl (Wa (.add rfl rfl (by omega)) rfl (Wn 1 rfl (W.nil (E.again (k+1,J,K) (.of rfl) ?_ ?_)))))))))
  ·exact⟨by omega,(Ll.trans j).kI t (fun q hq=>(ol.row hq).1),N.cast rfl (NJ xs key k (by omega))⟩
  first|omega|(simp only[];omega)
 have O:k=32:=by omega
 subst O
 refine WC.exit (E.jJ (E.jJ (E.ko (E.jG (Sr (Wn 2 rfl (Nx (Rt (E.o9 rfl rfl ?_)))))))))
 exact⟨_,_,rfl,(ol.mono b.size).cast rfl (by rw[List.take_of_length_le (by omega)]),(b.trans Ll)⟩


end Go.Proofs.YtcaehidaejhdfaaGreat

namespace Go.Proofs.YtcaehidaejhdfaaGreat
open Go Go.Sx Go.wI
set_option maxRecDepth 20000
theorem TD (nm p:List Byte):(nP nm [p]).length=16+nm.length+p.length:=by simp[nP,lN];omega
end Go.Proofs.YtcaehidaejhdfaaGreat

