/- LedgerSides: for every input the law answers true and leaves its arguments as they were. -/
import Derived.Test.YtkpmaajniagncaaGreatDoorLedgerSidesK
import Derived.Test.YtkpmaajniagncaaGreatDoorProg
set_option linter.defProp false
set_option linter.unusedVariables false
set_option linter.unusedSimpArgs false
namespace Go.Sx
def rz (n:Nat)(l:List Value):List Value:=List.replicate n (.int .u8 0)++l
theorem oD {P:Program}{e s b:Nat}{z:Value}(h:(P.info? e).map (fun i=>(i.zero,i.size,i.bytes))=some (some z,s,b):=by kernel_rfl)(hz:z.cells.size=s:=by first|rfl|simp[Value.cells])(hs:0<s:=by decide):El P e s b z:=El.mk h hz hs
end Go.Sx
namespace Go.Proofs.YtkpmaajniagncaaGreatDoor
open Tryz
open Go Go.Sx
theorem mixed:prog.follows .mixedOrders=true:=by kernel_rfl
theorem el2:El prog 2 1 8 (J 0):=oD
def z2:=el2.zr
theorem Je:El prog 3 1 8 (J 0):=oD
def nC:=Je.sz
def z3:=Je.zr
theorem yH:mY prog 3:=⟨_,underlying3,rfl⟩
theorem el4:El prog 4 1 1 (.bool false):=oD
def sz4:=el4.sz
def z4:=el4.zr
theorem xD:El prog 5 1 1 (.int .u8 0):=oD
def yC:=xD.sz
def z5:=xD.zr
theorem Vs:mY prog 5:=⟨_,underlying5,rfl⟩
theorem el9:El prog 9 1 16 (.string ⟨#[]⟩):=oD
def z9:=el9.zr
theorem ahp:El prog 22 32 32 (.agg (List.replicate 32 (.int .u8 0)).toArray):=oD
def z22:=ahp.zr
theorem afb:El prog 23 32 32 (.agg (List.replicate 32 (.int .u8 0)).toArray):=oD
def zb:=afb.sz
def z23:=afb.zr
theorem afc:prog.eqGuardType prog.depth 23=false:=by kernel_rfl
theorem ug:ky prog 23 32:=⟨_,underlying23,rfl,zb⟩
theorem ahq:El prog 24 64 64 (.agg (List.replicate 64 (.int .u8 0)).toArray):=oD
def z24:=ahq.zr
theorem H5:El prog 25 1 4 (.int .u32 0):=oD
def NL:=H5.sz
def z25:=H5.zr
theorem qF:mY prog 25:=⟨_,underlying25,rfl⟩
theorem afd:El prog 26 1 24 (.slice none 0 0):=oD
def afe:=afd.sz
def z26:=afd.zr
theorem aff:El prog 27 1 2 (.int .u16 0):=oD
def adq:=aff.sz
def z27:=aff.zr
theorem ahr:mY prog 27:=⟨_,underlying27,rfl⟩
theorem ahs:El prog 28 102 144 (.agg (rz 64 (.int .u32 0:: .int .u32 0:: .int .u8 0:: .int .u8 0:: .slice none 0 0:: .int .u16 0::rz 32 [])).toArray):=oD
def z28:=ahs.zr
theorem aht:El prog 32 1 8 (.pointer none):=oD
def z32:=aht.zr
theorem PU:El prog 35 2 16 (.agg #[J 0,J 0]):=oD
def TN:=PU.sz
def z35:=PU.zr
theorem PV:prog.eqGuardType prog.depth 35=false:=by kernel_rfl
theorem afg:ky prog 35 2:=⟨_,underlying35,rfl,TN⟩
theorem afh:El prog 36 1 24 (.slice none 0 0):=oD
def afi:=afh.sz
def z36:=afh.zr
theorem afj:El prog 38 5 56 (.agg #[J 0,J 0,J 0,.slice none 0 0,J 0]):=oD
def Jm:=afj.sz
def z38:=afj.zr
theorem NM:ky prog 38 5:=⟨_,underlying38,rfl,Jm⟩
theorem ahu:El prog 39 1 8 (.pointer none):=oD
def adr:=ahu.sz
theorem ahv:mY prog 39:=⟨_,underlying39,rfl⟩
theorem ahw:El prog 40 2 16 (.agg #[.pointer none,.pointer none]):=oD
def afk:=ahw.sz
theorem afl:El prog 41 1 24 (.slice none 0 0):=oD
def PW:=afl.sz
def z41:=afl.zr
theorem ahx:El prog 42 2 48 (.agg #[.slice none 0 0,.slice none 0 0]):=oD
def ahy:=ahx.sz
theorem ahz:El prog 44 4 64 (.agg #[.pointer none,.pointer none,.slice none 0 0,.slice none 0 0]):=oD
def z44:=ahz.zr
theorem ahA:El prog 46 1 8 (.pointer none):=oD
def z46:=ahA.zr
theorem ahB:El prog 48 1 24 (.slice none 0 0):=oD
def ahC:=ahB.sz
theorem PX:El prog 52 5 40 (.agg #[J 0,J 0,J 0,J 0,J 0]):=oD
def wu:=PX.sz
def z52:=PX.zr
theorem TP:ky prog 52 5:=⟨_,underlying52,rfl,wu⟩
theorem ahD:El prog 53 1 8 (.int .u64 0):=oD
def z53:=ahD.zr
theorem ahE:El prog 54 1 8 (.int .u64 0):=oD
def WJ:=ahE.sz
theorem afm:El prog 56 4 16 (.agg #[.int .u8 0,.int .u8 0,.int .u16 0,.int .u64 0]):=oD
def afn:=afm.sz
def z56:=afm.zr
theorem ahF:ky prog 56 4:=⟨_,underlying56,rfl,afn⟩
theorem afo:El prog 57 1 24 (.slice none 0 0):=oD
def ahG:=afo.sz
def z57:=afo.zr
theorem ahH:El prog 59 33 40 (.agg (rz 32 [J 0]).toArray):=oD
def afp:=ahH.sz
theorem wy:El prog 60 1 8 (.int .u64 0):=oD
def Cs:=wy.sz
theorem yD:mY prog 60:=⟨_,underlying60,rfl⟩
theorem afq:El prog 62 5 40 (.agg #[.int .u64 0,.int .u64 0,.int .u64 0,.int .u64 0,.int .u64 0]):=oD
def TQ:=afq.sz
def z62:=afq.zr
theorem afr:prog.eqGuardType prog.depth 62=false:=by kernel_rfl
theorem afs:ky prog 62 5:=⟨_,underlying62,rfl,TQ⟩
theorem aft:El prog 63 10 80 (.agg (List.replicate 10 (.int .u64 0)).toArray):=oD
def ahI:=aft.sz
def z63:=aft.zr
theorem ahJ:El prog 64 6 48 (.agg #[J 0,J 0,J 0,J 0,J 0,J 0]):=oD
def z64:=ahJ.zr
theorem afu:El prog 65 6 48 (.agg #[J 0,J 0,J 0,J 0,J 0,J 0]):=oD
def H6:=afu.sz
def z65:=afu.zr
theorem TR:ky prog 65 6:=⟨_,underlying65,rfl,H6⟩
theorem ahK:El prog 66 12 96 (.agg (List.replicate 12 (J 0)).toArray):=oD
def ahL:=ahK.sz
theorem afv:El prog 68 57 232 (.agg (rz 32 [J 0,J 0,.int .u64 0,.int .u64 0,.int .u64 0,.int .u64 0,.int .u64 0,.int .u64 0,.int .u64 0,.int .u64 0,.int .u64 0,.int .u64 0,J 0,J 0,J 0,J 0,J 0,J 0,J 0,J 0,J 0,J 0,J 0,J 0,J 0]).toArray):=oD
def PY:=afv.sz
def z68:=afv.zr
theorem NN:ky prog 68 57:=⟨_,underlying68,rfl,PY⟩
theorem afw:El prog 70 37 72 (.agg (.int .u64 0:: .int .u64 0:: .int .u64 0:: .int .u64 0:: .int .u64 0::rz 32 []).toArray):=oD
def aas:=afw.sz
def z70:=afw.zr
theorem ahM:ky prog 70 37:=⟨_,underlying70,rfl,aas⟩
theorem ahN:El prog 71 2 48 (.agg #[.slice none 0 0,.slice none 0 0]):=oD
def ahO:=ahN.sz
theorem afx:El prog 73 3 24 (.agg #[J 0,J 0,J 0]):=oD
def Jn:=afx.sz
def z73:=afx.zr
theorem ads:ky prog 73 3:=⟨_,underlying73,rfl,Jn⟩
theorem afy:El prog 75 2 16 (.agg #[.int .u64 0,.int .u64 0]):=oD
def PZ:=afy.sz
def z75:=afy.zr
theorem TS:ky prog 75 2:=⟨_,underlying75,rfl,PZ⟩
theorem afz:El prog 76 2 16 (.agg #[.int .u64 0,.int .u64 0]):=oD
def adt:=afz.sz
def z76:=afz.zr
theorem ahP:El prog 77 1 24 (.slice none 0 0):=oD
def adu:=ahP.sz
theorem ahQ:mY prog 77:=⟨_,underlying77,rfl⟩
theorem FC:El prog 78 1 24 (.slice none 0 0):=oD
def H7:=FC.sz
theorem WK:mY prog 78:=⟨_,underlying78,rfl⟩
theorem ahR:El prog 80 118 576 (.agg (rz 32 (J 0:: J 0:: .int .u64 0:: .int .u64 0:: .int .u64 0:: .int .u64 0:: .int .u64 0:: .int .u64 0:: .int .u64 0:: .int .u64 0:: .int .u64 0:: .int .u64 0:: J 0:: J 0:: J 0:: J 0:: J 0:: J 0:: J 0:: J 0:: J 0:: J 0:: J 0:: J 0:: J 0:: .int .u64 0:: .int .u64 0:: .int .u64 0:: .int .u64 0:: .int .u64 0::rz 32 [J 0,J 0,J 0,J 0,.slice none 0 0,J 0,.slice none 0 0,.slice none 0 0,J 0,J 0,J 0,J 0,J 0,J 0,J 0,J 0,J 0,.bool false,.int .u64 0,.int .u64 0,.int .u64 0,.int .u64 0,.slice none 0 0,.slice none 0 0])).toArray):=oD
def z80:=ahR.zr
theorem TT:El prog 83 5 40 (.agg #[J 0,J 0,J 0,.int .u64 0,J 0]):=oD
def Bl:=TT.sz
def z83:=TT.zr
theorem Lh:ky prog 83 5:=⟨_,underlying83,rfl,Bl⟩
theorem aat:El prog 85 10 112 (.agg #[J 0,J 0,J 0,J 0,.int .u64 0,J 0,.int .u64 0,.slice none 0 0,J 0,.slice none 0 0]):=oD
def P5:=aat.sz
def z85:=aat.zr
theorem Li:ky prog 85 10:=⟨_,underlying85,rfl,P5⟩
theorem aau:El prog 99 3 24 (.agg #[J 0,J 0,J 0]):=oD
def afA:=aau.sz
def z99:=aau.zr
theorem ahS:ky prog 99 3:=⟨_,underlying99,rfl,afA⟩
theorem acj:El prog 105 74 144 (.agg (.int .u64 0:: .int .u64 0:: .int .u64 0:: .int .u64 0:: .int .u64 0::rz 32 (.int .u64 0:: .int .u64 0:: .int .u64 0:: .int .u64 0:: .int .u64 0::rz 32 [])).toArray):=oD
def Ru:=acj.sz
def z105:=acj.zr
theorem JW:ky prog 105 74:=⟨_,underlying105,rfl,Ru⟩
theorem afB:El prog 110 1 24 (.slice none 0 0):=oD
def afC:=afB.sz
theorem afD:El prog 111 1 24 (.slice none 0 0):=oD
def ack:=afD.sz
theorem acm:El prog 113 3 56 (.agg #[.slice none 0 0,.slice none 0 0,J 0]):=oD
def acn:=acm.sz
def ahT:=acm.zr
theorem afE:El prog 114 1 24 (.slice none 0 0):=oD
def aco:=afE.sz
theorem acp:El prog 116 4 80 (.agg #[.slice none 0 0,.slice none 0 0,J 0,.slice none 0 0]):=oD
def H8:=acp.sz
def z116:=acp.zr
theorem afF:ky prog 116 4:=⟨_,underlying116,rfl,H8⟩
theorem afG:El prog 126 1 8 (.map none):=oD
def WL:=afG.sz
theorem afH:mY prog 126:=⟨_,underlying126,rfl⟩
theorem afI:El prog 127 1 8 (.map none):=oD
def acr:=afI.sz
theorem afJ:mY prog 127:=⟨_,underlying127,rfl⟩
theorem afK:El prog 129 4 48 (.agg #[.slice none 0 0,.map none,.map none,J 0]):=oD
def ahU:=afK.zr
theorem uW:El prog 134 61 328 (.agg (J 0:: J 0:: J 0:: J 0:: J 0:: J 0:: .int .u64 0:: J 0:: .int .u64 0:: .slice none 0 0:: J 0:: .int .u64 0:: .int .u64 0::rz 32 [.int .u64 0,.slice none 0 0,.slice none 0 0,J 0,.int .u64 0,.int .u64 0,.int .u64 0,.int .u64 0,.int .u64 0,J 0,J 0,J 0,J 0,J 0,J 0,.slice none 0 0]).toArray):=oD
def yt:=uW.sz
def sD:=uW.zr
theorem uq:ky prog 134 61:=⟨_,underlying134,rfl,yt⟩
theorem acs:El prog 142 3 24 (.agg #[J 0,J 0,J 0]):=oD
def Rv:=acs.sz
def P6:=acs.zr
theorem afL:ky prog 142 3:=⟨_,underlying142,rfl,Rv⟩
theorem acu:El prog 144 2 16 (.agg #[J 0,.int .u64 0]):=oD
def NP:=acu.sz
def Cu:=acu.zr
theorem acv:El prog 170 1 24 (.slice none 0 0):=oD
def afM:=acv.sz
def ahV:=acv.zr
theorem afN:El prog 171 1 24 (.slice none 0 0):=oD
def afO:=afN.sz
theorem acw:El prog 173 1 24 (.agg #[.slice none 0 0]):=oD
def acx:=acw.sz
def z173:=acw.zr
theorem Rw:ky prog 173 1:=⟨_,underlying173,rfl,acx⟩
theorem Rx:El prog 175 6 48 (.agg #[J 0,J 0,J 0,J 0,.int .u64 0,J 0]):=oD
def acy:=Rx.sz
def z175:=Rx.zr
theorem Rz:El prog 177 2 32 (.agg #[J 0,.slice none 0 0]):=oD
def RA:=Rz.sz
def adv:=Rz.zr
theorem acz:ky prog 177 2:=⟨_,underlying177,rfl,RA⟩
theorem RB:El prog 180 40 112 (.agg (J 0:: .slice none 0 0:: J 0:: J 0:: J 0:: J 0:: .int .u64 0:: J 0::rz 32 []).toArray):=oD
def RD:=RB.sz
def afP:=RB.zr
theorem NQ:ky prog 180 40:=⟨_,underlying180,rfl,RD⟩
theorem afQ:El prog 187 1 24 (.slice none 0 0):=oD
def NR:=afQ.sz
theorem H9:El prog 189 4 48 (.agg #[.slice none 0 0,J 0,J 0,.int .u64 0]):=oD
def NS:=H9.sz
def DV:=H9.zr
theorem acA:ky prog 189 4:=⟨_,underlying189,rfl,NS⟩
theorem afR:El prog 196 3 40 (.agg #[J 0,.slice none 0 0,.int .u64 0]):=oD
def afS:=afR.sz
theorem WM:El prog 198 36 80 (.agg (rz 32 [J 0,J 0,.slice none 0 0,.int .u64 0]).toArray):=oD
def WN:=WM.sz
def z198:=WM.zr
theorem acB:ky prog 198 36:=⟨_,underlying198,rfl,WN⟩
theorem RF:El prog 209 18 192 (.agg #[J 0,J 0,J 0,.int .u64 0,J 0,J 0,J 0,.slice none 0 0,J 0,J 0,J 0,J 0,.int .u64 0,J 0,.int .u64 0,.slice none 0 0,J 0,.slice none 0 0]):=oD
def JX:=RF.sz
def TU:=RF.zr
theorem NT:ky prog 209 18:=⟨_,underlying209,rfl,JX⟩
theorem afT:El prog 238 1 8 (.pointer none):=oD
def Ia:=afT.sz
theorem afU:mY prog 238:=⟨_,underlying238,rfl⟩
theorem afV:El prog 239 21 168 (.agg (List.replicate 21 (.pointer none)).toArray):=oD
def afW:=afV.sz
theorem afX:El prog 241 22 176 (.agg #[J 0,.pointer none,.pointer none,.pointer none,.pointer none,.pointer none,.pointer none,.pointer none,.pointer none,.pointer none,.pointer none,.pointer none,.pointer none,.pointer none,.pointer none,.pointer none,.pointer none,.pointer none,.pointer none,.pointer none,.pointer none,.pointer none]):=oD
def afY:=afX.zr
theorem afZ:El prog 245 33 40 (.agg (J 0::rz 32 []).toArray):=oD
def af0:=afZ.zr
theorem af1:El prog 282 1 8 (.nilFunc):=oD
def ahW:=af1.zr
theorem acC:El prog 299 8 32 (.agg #[.int .u32 0,.int .u32 0,.int .u32 0,.int .u32 0,.int .u32 0,.int .u32 0,.int .u32 0,.int .u32 0]):=oD
def Fb:=acC.sz
def TV:=acC.zr
theorem JY:ky prog 299 8:=⟨_,underlying299,rfl,Fb⟩
theorem af2:El prog 303 8 8 (.agg #[.int .u8 0,.int .u8 0,.int .u8 0,.int .u8 0,.int .u8 0,.int .u8 0,.int .u8 0,.int .u8 0]):=oD
def af3:=af2.zr
theorem acD:El prog 322 64 256 (.agg (List.replicate 64 (.int .u32 0)).toArray):=oD
def NU:=acD.sz
def WO:=acD.zr
theorem WQ:ky prog 322 64:=⟨_,underlying322,rfl,NU⟩
theorem af4:El prog 336 2 32 (.agg #[.slice none 0 0,.bool false]):=oD
def ahX:=af4.zr
theorem af5:o8 prog 27:=⟨_,func27,rfl,by decide⟩
theorem ahY:o8 prog 30:=⟨_,func30,rfl,by decide⟩
theorem adw:o8 prog 36:=⟨_,func36,rfl,by decide⟩
theorem af6:o8 prog 37:=⟨_,func37,rfl,by decide⟩
theorem af7:o8 prog 52:=⟨_,func52,rfl,by decide⟩
theorem ahZ:o8 prog 57:=⟨_,func57,rfl,by decide⟩
theorem TW:o8 prog 63:=⟨_,func63,rfl,by decide⟩
theorem ah0:o8 prog 72:=⟨_,func72,rfl,by decide⟩
theorem ah1:o8 prog 74:=⟨_,func74,rfl,by decide⟩
theorem ah2:o8 prog 79:=⟨_,func79,rfl,by decide⟩
theorem ah3:o8 prog 80:=⟨_,func80,rfl,by decide⟩
theorem ah4:o8 prog 84:=⟨_,func84,rfl,by decide⟩
theorem af8:o8 prog 91:=⟨_,func91,rfl,by decide⟩
theorem ah5:o8 prog 93:=⟨_,func93,rfl,by decide⟩
theorem af9:o8 prog 130:=⟨_,func130,rfl,by decide⟩
theorem aga:o8 prog 161:=⟨_,func161,rfl,by decide⟩
theorem agb:o8 prog 171:=⟨_,func171,rfl,by decide⟩
theorem WR:o8 prog 181:=⟨_,func181,rfl,by decide⟩
theorem WS:o8 prog 183:=⟨_,func183,rfl,by decide⟩
theorem acE:o8 prog 185:=⟨_,func185,rfl,by decide⟩
theorem agc:o8 prog 247:=⟨_,func247,rfl,by decide⟩
def tyT:List (Nat×Ty):=[(3,.na),(78,.sl 5 1),(35,.ar 2 3 1 2),(80,.st [0,57,94,95,100,102,105,108,111,112,114,116,117] 118),(38,.st [0,1,3,4] 5),(68,.st [0,33,34,44,56] 57),(83,.st [0,1,2,3,4] 5),(134,.st [0,1,2,3,8,9,10,11,13,45,46,49,54,60] 61),(25,.na),(48,.sl 3 1),(60,.na),(23,.ar 32 5 1 32),(52,.st [0,1,3] 5),(85,.st [0,1,6,7,8,9] 10),(5,.na),(65,.st [0,1,2,3,4,5] 6),(70,.st [0,1,2,3,4,5] 37),(187,.sl 60 1),(73,.st [0,1] 3),(126,.na),(129,.st [0,1,2,3] 4),(62,.st [0,1,2,3,4] 5),(36,.sl 83 5),(319,.sl 25 1),(44,.st [0,2] 4),(209,.st [0,5,6,7,8] 18),(41,.sl 134 61),(57,.sl 85 10),(299,.ar 8 25 1 8),(29,.st [0,64,65,66,67,68,69,70] 102),(113,.st [0,1,2] 3),(189,.st [0,1,2,3] 4),(66,.ar 2 65 6 12),(75,.st [0,1] 2),(99,.st [0,1,2] 3),(105,.ar 2 70 37 74),(180,.st [0,2,8] 40),(54,.na),(56,.st [0,1,2,3] 4),(116,.st [0,3] 4),(142,.st [0,1,2] 3),(266,.sl 78 1),(173,.st [0] 1),(39,.na),(40,.ar 2 39 1 2),(241,.st [0,1] 22),(59,.st [0,32] 33),(171,.sl 189 4),(336,.st [0,1] 2),(42,.ar 2 41 1 2),(63,.ar 2 62 5 10),(127,.na),(175,.st [0,1] 6),(206,.sl 209 18),(170,.sl 180 40),(111,.sl 177 2),(177,.st [0,1] 2),(198,.st [0,33] 36),(71,.ar 2 57 1 2),(102,.sl 52 5),(110,.sl 198 36),(76,.ar 2 60 1 2),(322,.ar 64 25 1 64),(53,.na),(245,.st [0,1] 33),(4,.na),(27,.na),(196,.st [0,1,2] 3),(239,.ar 21 238 1 21),(26,.sl 162 4),(77,.sl 35 2),(144,.st [0,1] 2),(328,.na),(238,.na),(9,.na),(114,.sl 175 6),(151,.na),(259,.na),(283,.na),(30,.sl 56 4),(100,.sl 99 3),(194,.sl 75 2),(303,.ar 8 5 1 8),(312,.sl 238 1),(24,.ar 2 23 32 64),(156,.na),(278,.na),(337,.ar 64 5 1 64),(123,.na),(131,.na),(148,.na),(155,.na),(162,.st [0,1,2,3] 4),(289,.na),(290,.na),(313,.na),(317,.na),(331,.na)]
def goT:List Nat:=[41,37,26,152,14,34,130,154,185,231,245,27,43,83,84,44,63,74,100,170,7,8,30,99,101,121,145,15,18,19,80,81,82,86,87,103,113,138,140,212,215,6,11,13,16,28,29,31,35,36,38,57,60,62,66,77,78,89,92,111,112,118,119,120,123,132,135,141,158,164,172,181,183,228,248,4,5,10,12,17,21,25,33,42,45,47,52,53,58,65,69,70,73,76,79,85,90,91,95,106,108,114,115,116,117,122,126,128,129,131,144,153,155,157,159,160,161,162,163,165,173,175,178,188,200,202,206,208,210,237,9,20,22,23,24,32,39,40,46,48,49,50,51,54,59,61,64,67,68,71,72,75,88,93,102,107,124,125,133,134,136,137,139,142,143,149,150,151,156,166,167,168,171,174,176,177,179,180,182,186,187,199,201,203,204,205,207,211,213,214,216,217,218,219,225,226,227,229,230,232,234,235,236,238,239,240,241,243,244,246,247,249,251]
instance : Inhabited (TbS prog) := ⟨⟨tyT, goT, by kernel_rfl, by kernel_rfl⟩⟩
theorem agd:Bf prog 38 [(0,1),(1,2),(3,1),(4,1)]:=⟨_,underlying38,fun w=>by simp[nC.run,TN.run,afi.run]⟩
theorem adx:F4 prog 44 0 0:=⟨_,_,_,underlying44,rfl,rfl,afk,by decide⟩
theorem age:Bf prog 44 [(0,2),(2,2)]:=⟨_,underlying44,fun w=>by simp[afk.run,ahy.run]⟩
theorem P7:Bf prog 52 [(0,1),(1,2),(3,2)]:=⟨_,underlying52,fun w=>by simp[nC.run,TN.run]⟩
theorem ady:F4 prog 56 2 2:=⟨_,_,_,underlying56,rfl,rfl,adq,by decide⟩
theorem agf:Bf prog 62 [(0,1),(1,1),(2,1),(3,1),(4,1)]:=⟨_,underlying62,fun w=>by simp[Cs.run]⟩
theorem agh:Bf prog 65 [(0,1),(1,1),(2,1),(3,1),(4,1),(5,1)]:=⟨_,underlying65,fun w=>by simp[nC.run]⟩
theorem ah6:Bf prog 68 [(0,33),(33,1),(34,10),(44,12),(56,1)]:=⟨_,underlying68,fun w=>by simp[nC.run,afp.run,ahI.run,ahL.run]⟩
theorem adz:F4 prog 70 5 5:=⟨_,_,_,underlying70,rfl,rfl,zb,by decide⟩
theorem ah7:Bf prog 70 [(0,1),(1,1),(2,1),(3,1),(4,1),(5,32)]:=⟨_,underlying70,fun w=>by simp[zb.run,WJ.run]⟩
theorem adA:F4 prog 73 1 1:=⟨_,_,_,underlying73,rfl,rfl,TN,by decide⟩
theorem agi:Bf prog 73 [(0,1),(1,2)]:=⟨_,underlying73,fun w=>by simp[nC.run,TN.run]⟩
theorem ah8:Bf prog 75 [(0,1),(1,1)]:=⟨_,underlying75,fun w=>by simp[WJ.run,Cs.run]⟩
theorem adB:F4 prog 80 0 0:=⟨_,_,_,underlying80,rfl,rfl,PY,by decide⟩
theorem adC:F4 prog 80 1 57:=⟨_,_,_,underlying80,rfl,rfl,aas,by decide⟩
theorem WT:F4 prog 80 5 102:=⟨_,_,_,underlying80,rfl,rfl,Jn,by decide⟩
theorem adD:F4 prog 80 7 108:=⟨_,_,_,underlying80,rfl,rfl,Jn,by decide⟩
theorem WU:F4 prog 80 9 112:=⟨_,_,_,underlying80,rfl,rfl,PZ,by decide⟩
theorem RG:F4 prog 80 10 114:=⟨_,_,_,underlying80,rfl,rfl,adt,by decide⟩
theorem RH:F4 prog 80 11 116:=⟨_,_,_,underlying80,rfl,rfl,adu,by decide⟩
theorem adE:Bf prog 80 [(0,57),(57,37),(94,1),(95,5),(100,2),(102,3),(105,3),(108,3),(111,1),(112,2),(114,2),(116,1),(117,1)]:=⟨_,underlying80,fun w=>by simp[nC.run,sz4.run,Jm.run,PY.run,aas.run,ahO.run,Jn.run,PZ.run,adt.run,adu.run,H7.run]⟩
theorem TY:Bf prog 83 [(0,1),(1,1),(2,1),(3,1),(4,1)]:=⟨_,underlying83,fun w=>by simp[nC.run,Cs.run]⟩
theorem adF:F4 prog 85 0 0:=⟨_,_,_,underlying85,rfl,rfl,nC,by decide⟩
theorem adG:F4 prog 85 1 1:=⟨_,_,_,underlying85,rfl,rfl,Bl,by decide⟩
theorem P8:Bf prog 85 [(0,1),(1,5),(6,1),(7,1),(8,1),(9,1)]:=⟨_,underlying85,fun w=>by simp[nC.run,WJ.run,H7.run,Bl.run]⟩
theorem aav:Bf prog 99 [(0,1),(1,1),(2,1)]:=⟨_,underlying99,fun w=>by simp[nC.run]⟩
theorem agj:Bf prog 113 [(0,1),(1,1),(2,1)]:=⟨_,underlying113,fun w=>by simp[nC.run,afC.run,ack.run]⟩
theorem agk:Bf prog 116 [(0,3),(3,1)]:=⟨_,underlying116,fun w=>by simp[acn.run,aco.run]⟩
theorem aaw:F4 prog 129 1 1:=⟨_,_,_,underlying129,rfl,rfl,WL,by decide⟩
theorem aax:F4 prog 129 2 2:=⟨_,_,_,underlying129,rfl,rfl,acr,by decide⟩
theorem agl:Bf prog 129 [(0,1),(1,1),(2,1),(3,1)]:=⟨_,underlying129,fun w=>by simp[nC.run,ahC.run,WL.run,acr.run]⟩
theorem RI:F4 prog 134 7 11:=⟨_,_,_,underlying134,rfl,rfl,PZ,by decide⟩
theorem aay:F4 prog 134 9 45:=⟨_,_,_,underlying134,rfl,rfl,Cs,by decide⟩
theorem A8:Bf prog 134 [(0,1),(1,1),(2,1),(3,5),(8,1),(9,1),(10,1),(11,2),(13,32),(45,1),(46,3),(49,5),(54,6),(60,1)]:=⟨_,underlying134,fun w=>by simp[nC.run,zb.run,WJ.run,Cs.run,TQ.run,H6.run,PZ.run,H7.run,Bl.run,acn.run]⟩
theorem WV:Bf prog 142 [(0,1),(1,1),(2,1)]:=⟨_,underlying142,fun w=>by simp[nC.run]⟩
theorem agm:Bf prog 144 [(0,1),(1,1)]:=⟨_,underlying144,fun w=>by simp[nC.run,Cs.run]⟩
theorem NV:Bf prog 173 [(0,1)]:=⟨_,underlying173,fun w=>by simp[afO.run]⟩
theorem NW:Bf prog 175 [(0,1),(1,5)]:=⟨_,underlying175,fun w=>by simp[nC.run,Bl.run]⟩
theorem agn:Bf prog 177 [(0,1),(1,1)]:=⟨_,underlying177,fun w=>by simp[nC.run,acx.run]⟩
theorem agp:Bf prog 180 [(0,2),(2,6),(8,32)]:=⟨_,underlying180,fun w=>by simp[zb.run,acy.run,RA.run]⟩
theorem Cv:Bf prog 189 [(0,1),(1,1),(2,1),(3,1)]:=⟨_,underlying189,fun w=>by simp[nC.run,Cs.run,NR.run]⟩
theorem agq:Bf prog 198 [(0,33),(33,3)]:=⟨_,underlying198,fun w=>by simp[afp.run,afS.run]⟩
theorem RJ:F4 prog 209 2 6:=⟨_,_,_,underlying209,rfl,rfl,nC,by decide⟩
theorem RL:F4 prog 209 4 8:=⟨_,_,_,underlying209,rfl,rfl,P5,by decide⟩
theorem agr:Bf prog 209 [(0,5),(5,1),(6,1),(7,1),(8,10)]:=⟨_,underlying209,fun w=>by simp[nC.run,H7.run,Bl.run,P5.run]⟩
theorem acF:Bf prog 241 [(0,1),(1,21)]:=⟨_,underlying241,fun w=>by simp[nC.run,afW.run]⟩
theorem acG:Bf prog 245 [(0,1),(1,32)]:=⟨_,underlying245,fun w=>by simp[nC.run,zb.run]⟩
theorem ags:Bf prog 336 [(0,1),(1,1)]:=⟨_,underlying336,fun w=>by simp[sz4.run,H7.run]⟩
open Go.Num Go.Gz
set_option maxRecDepth 20000
theorem NY (a:Int)(w:World):Calls prog 85 #[J (a)] w fun r w'=>r= .returned (.bool (vE a))/\Le w w':=by
 refine En func85 Z ?_
 have d:=Le.refl w
 refine Rn 1 Z (Rr 2 Z ?_)
 by_cases c:0<=a
 ·refine Dt c Z Z (Yy 4 Z Z Z ?_)
  exact⟨rB (by simp[vE,l7,c]),d⟩
 refine Df c Z Z (Yy 4 Z Z Z ?_)
 exact⟨rB (by simp[vE,l7,c]),d⟩
theorem Lj (a b:Int)(w:World):Calls prog 31 #[J a,J (b)] w fun r w'=>r= .returned (.tuple #[J (pI a b).1,.bool (pI a b).2])/\Le w w':=by
 refine En func31 Z (Rn 2 Z (Sq (Rr 1 Z (Yc Z (NY a w) fun j k=>?_))))
 have i:=(Le.refl w).trans k
 refine Yn 1 Z ?_
 by_cases c:(vE a)=true
 ·refine Yq 1 Z (congrArg not c) (Yn 1 Z (Yc Z (NY b j) fun m l=>?_))
  have f:=i.trans l
  refine Yn 2 Z ?_
  by_cases d:(vE b)=true
  ·refine Yq 1 Z (congrArg not d) (Yn 2 Z ?_)
   have n:=sH (show l7 b 0 1125899906842624=true by assumption)
   refine Yp Z (Yx 2 Z ?_)
   by_cases e:(1125899906842624-b)<a
   ·refine Cy Z (dT e) (Rn 2 Z (Rt (E.il (E.lD Z Z Z ?_))))
    exact⟨(by first|rfl|(simp[pI,c,d,e];done)|(simp[pI,c,d,e];omega)|(simp[pI,c,d,e];split<;>first|(exfalso;omega)|(simp;done)|(simp;omega))),f⟩
   refine Cn Z (dF e) (Sn (Rr 2 Z (Wa (.add Z Z (by have:=sH (show l7 a 0 1125899906842624=true by assumption);have:=sH (show l7 b 0 1125899906842624=true by assumption);omega)) Z (Yx 2 Z (Rt (E.lD Z Z Z ?_))))))
   exact⟨(by first|rfl|(simp[pI,c,d,e];done)|(simp[pI,c,d,e];omega)|(simp[pI,c,d,e];split<;>first|(exfalso;omega)|(simp;done)|(simp;omega))),f⟩
  refine Yq 1 Z (congrArg not (Bool.eq_false_iff.2 d)) (Yx 5 Z (Ct Z (Rn 2 Z (Rt (E.il (E.lD Z Z Z ?_))))))
  exact⟨(by first|rfl|(simp[pI,c,d];done)|(simp[pI,c,d];omega)|(simp[pI,c,d];split<;>first|(exfalso;omega)|(simp;done)|(simp;omega))),f⟩
 refine Yq 1 Z (congrArg not (Bool.eq_false_iff.2 c)) (Yx 10 Z (Ct Z (Rn 2 Z (Rt (E.il (E.lD Z Z Z ?_))))))
 exact⟨(by first|rfl|(simp[pI,c];done)|(simp[pI,c];omega)|(simp[pI,c];split<;>first|(exfalso;omega)|(simp;done)|(simp;omega))),i⟩
open Go.Fv
abbrev zw8:Array Value:=#[.int .u32 0,.int .u32 0,.int .u32 0,.int .u32 0,.int .u32 0,.int .u32 0,.int .u32 0,.int .u32 0]
theorem adH (a b c d e f g h:BitVec 32):∀v∈[jL a,jL b,jL c,jL d,jL e,jL f,jL g,jL h],v.oneCell'=true:=fun v hv=>by
 simp at hv;rcases hv with rfl|rfl|rfl|rfl|rfl|rfl|rfl|rfl<;>rfl
theorem wB (x:BitVec 32)(k:Nat)(w:World)(hk:1<=k/\k<=31):Calls prog 231 #[jL x,J (-(k:Int))] w fun e w'=>e= .returned (jL (QN x k))/\Le w w':=by
 have e:(18446744073709551616-k)&&&31=32-k:=by
  have h:=Nat.and_two_pow_sub_one_eq_mod (18446744073709551616-k) 5
  have c:(2^5-1:Nat)=31:=by decide
  rw[c]at h;rw[h];omega
 refine En func231 Z (Rn 1 Z (Rr 1 Z (Wr (.vW (i':=((18446744073709551616-k:Nat):Int)) (rG underlying3) underlying259 Z (by rw[wrap_u64];omega)) Z (Wa (.aeK (18446744073709551616-k) 31 Z Z Z Z (by omega) (by decide)) Z (Yx 1 Z (Rr 2 Z (Wa (.EU (32-k) Z Z (by rw[e]) (by omega)) Z (Yn 2 Z (Wa (.aha Z Z (by rw[e];omega)) Z ?_)))))))))
 refine Wa (.EW k Z Z (by rw[e];omega) (by omega)) Z (Wa (.Jh Z Z) Z (Yx 1 Z (Rt (E.mP Z Z ?_))))
 exact⟨rfl,(Le.refl w)⟩
variable {A:Option Addr}{n c:Nat}{xs:List Byte}
theorem TZ (w:World)(hS:Sb w A n xs)(hn:4<=n):Calls prog 246 #[.slice A n c] w fun e w'=>e= .returned (jL (ZH xs))/\Le w w':=by
 have hl:=hS.len
 refine En func246 Z (WC.sr (Yn 1 Z (W.nx (WC.seq (WC.draw [0,1,2,3,4,5,6,7,8,9,10,11,12,13,14,15,16,17,18,19,20,21,22] mixed (by kernel_rfl) fun i f=>?_)))))
 have d:=(Le.refl w).trans f
 refine Xn 1 Z (Xu 0 Z (hS.isSome (by omega)) (Gd Z (.j3 Vs Z (hS.le d) (MR xs (by omega))) (Gd Z (.yR (rG underlying5) underlying25 Z) (Ga Z (.EU 24 Z Z Z (by decide)) (Xn 1 Z (Xu 1 Z (hS.isSome (by omega)) (Gd Z (.j3 Vs Z (hS.le d) (MR xs (by omega))) (Gd Z (.yR (rG underlying5) underlying25 Z) (Ga Z (.EU 16 Z Z Z (by decide)) ?_)))))))))
 refine Ga Z (.Jh Z Z) (Xn 1 Z (Xu 2 Z (hS.isSome (by omega)) (Gd Z (.j3 Vs Z (hS.le d) (MR xs (by omega))) (Gd Z (.yR (rG underlying5) underlying25 Z) (Ga Z (.EU 8 Z Z Z (by decide)) (Ga Z (.Jh Z Z) (Xn 1 Z (Xu 3 Z (hS.isSome (by omega)) (Gd Z (.j3 Vs Z (hS.le d) (MR xs (by omega))) ?_)))))))))
 refine Gd Z (.yR (rG underlying5) underlying25 Z) (Ga Z (.Jh Z Z) (Xx 1 Z (WC.ret (E.mP Z Z ?_))))
 exact⟨rfl,d⟩
theorem NZ {b:List Byte}(w:World)(hS:Sb w A n b)(hn:n=64)(hc:n<=c):Calls prog 229 #[.slice A n c] w fun e w'=>e= .returned (.agg ((sched b).map jL).toArray)/\Le w w':=by
 refine En func229 Z ?_
 have y:=Le.refl w
 refine Sr (Yz Z WO fun i al j B C=>?_)
 have D:=y.trans C
 refine Nx (Sq (Rn 1 Z (Bk (WC.loop (ι:=Nat) (fun k=>[(0,.slice A n c),(2,.pointer (some ⟨i,0,none⟩)),(8,J (k:Int))]) (fun k wl=>k<=64/\Le w wl/\ik wl i 322 (((pq b k)++List.replicate (64-k) 0#32).map jL).toArray) (fun k=>64-k) 0 ?_ ?_ ?_))))
 ·exact .of Z
 ·exact⟨by omega,D,B.cast Z⟩
 rintro k wl ⟨hk,Ll,bl⟩
 have hsl:=nQ b k
 refine Rn 1 Z (Sq (WC.cond Z (fun F=>?_) (fun F=>?_)))
 ·refine Nb (Rn 2 Z (Sq (Rn 2 Z (WC.cond Z (fun d=>?_) (fun d=>?_)))))
  ·have d:k<16:=by omega
   refine Rr 3 Z (Yp Z (Wa (.uP (4*k) underlying78 yC Z Z (by omega) (by omega) (by omega)) Z (Yc Z (TZ wl ((hS.le Ll).uP c (4*k) (by omega) hc) (by omega)) fun an m=>?_)))
   have H:=Ll.trans m
   refine Yo k Z (W.jR Z Z (Ef.store NL Z Z (bl.le m) (by simp;omega) Z ?_))
   intro I K L
   have N:Le w I:=H.ja L (fun q hq=>by cases hq;exact j)
   refine Nx (WC.exit (E.jW (E.rQ (E.iM (Rg (Yp Z (Yn 1 Z (W.nil (E.again (k+1) (.of Z) ?_ ?_)))))))))
   ·exact⟨by omega,N,K.cast (by rw[GV jL (pq b k) 0#32 _ 64 k hsl (by omega)];simp[pq,d])⟩
   first|omega|(simp only[];omega)
  have d:¬k<16:=by omega
  refine Sn (Sq (WC.draw [0,1,2,3,4,5,6,7,8,9] mixed (by kernel_rfl) fun O f=>?_))
  have P:=Ll.trans f
  refine Xn 1 Z (Xp Z (Xo (k-15) Z (Xl Z (bl.le f) (QU _ _ _ (by omega)) (Xn 1 Z (Xp Z (Xo (k-2) Z (Xl Z (bl.le f) (QU _ _ _ (by omega)) (Xx 2 Z (Rr 1 Z ?_)))))))))
  refine Yc Z (wB _ 7 O (by omega)) fun Q o=>?_
  have R:=P.trans o
  refine Yn 1 Z (Yc Z (wB _ 18 Q (by omega)) fun S s=>?_)
  have U:=R.trans s
  refine Wa (.qM Z Z) Z (Yn 1 Z (Wa (.EW 3 Z Z Z (by decide)) Z (Wa (.qM Z Z) Z (Yx 1 Z (Rr 1 Z (Yc Z (wB _ 17 S (by omega)) fun V t=>?_))))))
  have X:=U.trans t
  refine Yn 1 Z (Yc Z (wB _ 19 V (by omega)) fun ao u=>?_)
  have Y:=X.trans u
  refine Wa (.qM Z Z) Z (Yn 1 Z (Wa (.EW 10 Z Z Z (by decide)) Z (Wa (.qM Z Z) Z (Yx 1 Z (WC.draw [0,1,2,3,4,5,6,7,8,9,10,11,12,13,14,15] mixed (by kernel_rfl) ?_)))))
  intro w9 x
  have L9:=Y.trans x
  have l:=bl.le (f.trans (o.trans (s.trans (t.trans (u.trans x)))))
  refine Xn 2 Z (Xp Z (Xo (k-16) Z (Xl Z l (QU _ _ _ (by omega)) (Xn 1 Z (Ga Z (.add32 Z Z) (Xn 1 Z (Xp Z (Xo (k-7) Z (Xl Z l (QU _ _ _ (by omega)) ?_)))))))))
  refine Ga Z (.add32 Z Z) (Xn 1 Z (Ga Z (.add32 Z Z) (Xo k Z (G.jR Z Z Z Z (Ef.store NL Z Z l (by simp;omega) Z ?_)))))
  intro aa ac ad
  have ae:Le w aa:=L9.ja ad (fun q hq=>by cases hq;exact j)
  refine noT (by kernel_rfl) (G.nil (Lp 1 Z Z (E.again (k+1) (.of Z) ?_ ?_)))
  ·exact⟨by omega,ae,ac.cast (by rw[GV jL (pq b k) 0#32 _ 64 k hsl (by omega)];simp[pq,d,Gr])⟩
  first|omega|(simp only[];omega)
 have af:k=64:=by omega
 subst af
 have bl:ik wl i 322 ((sched b).map jL).toArray:=bl.cast (by simp[sched])
 have hsl:(sched b).length=64:=nQ b 64
 refine Ex (Sr (Wr (.jM WQ (by simp[hsl]) Z bl) Z (W.jR Z Z (Ef.storeAll NU (by simp[hsl]) Z Z bl (by simp) (fun v hv=>nT _ v (by simpa using hv)) ?_))))
 intro ah ai aj
 have ak:Le w ah:=Ll.ja aj (fun q hq=>by cases hq;exact j)
 refine Nx (Rt (E.MQ Z Z ai WQ (by simp[hsl]) ?_))
 exact⟨rfl,ak⟩
theorem WW (w:World):Calls prog 230 #[] w fun e w'=>e= .returned (.agg (table.map jL).toArray)/\Le w w':=by
 refine En func230 Z ?_
 have c:=Le.refl w
 refine Sr (Yz Z WO fun o s d f i=>?_)
 have j:=c.trans i
 refine Nx (Sr (Wa (.kU (cells:=(table.map jL).toArray) underlying322 NL WO Z (by kernel_rfl)) Z (W.jR Z Z (Ef.storeAll NU Z Z Z f Z (fun v hv=>nT _ v (by simpa using hv)) ?_))))
 intro k l m
 have n:Le w k:=j.ja m (fun q hq=>by cases hq;exact d)
 refine Nx (Rt (E.MQ Z Z l WQ Z ?_))
 exact⟨rfl,n⟩
theorem WX (w:World):Calls prog 205 #[] w fun e w'=>e= .returned (.agg (first.map jL).toArray)/\Le w w':=by
 refine En func205 Z ?_
 have c:=Le.refl w
 refine Sr (Yz Z TV fun o s d f i=>?_)
 have j:=c.trans i
 refine Nx (Sr (Wa (.kU (cells:=(first.map jL).toArray) underlying299 NL TV Z (by kernel_rfl)) Z (W.jR Z Z (Ef.storeAll Fb Z Z Z f Z (fun v hv=>nT _ v (by simpa using hv)) ?_))))
 intro k l m
 have n:Le w k:=j.ja m (fun q hq=>by cases hq;exact d)
 refine Nx (Rt (E.MQ Z Z l JY Z ?_))
 exact⟨rfl,n⟩
set_option maxHeartbeats 1000000 in
theorem WY {b:List Byte}{h:List Word} (w:World) (hl:h.length=8) (hS:Sb w A n b) (hn:n=64) (hc:n<=c):Calls prog 206 #[.agg (h.map jL).toArray,.slice A n c] w fun e w'=>e= .returned (.agg ((mix h b).map jL).toArray)/\Le w w':=by
 have hsl:(sched b).length=64:=nQ b 64
 unfold mix
 refine En func206 Z ?_
 have L0:=Le.refl w
 refine Sr (Yv Z fun y a7 a8 u aq=>?_)
 have ak:=L0.trans aq
 refine Yz Z TV fun B ar au S m=>?_
 have al:=ak.trans m
 refine Nx (Rr 1 Z (Yc Z (NZ ar (hS.le al) hn hc) fun av f=>?_))
 have aw:=al.trans f
 refine Yc Z (WW av) fun a9 k=>?_
 have an:=aw.trans k
 refine Yz Z WO fun U ba ax V o=>?_
 have ao:=an.trans o
 refine Yz Z WO fun X bb ay az C=>?_
 have aA:=ao.trans C
 refine W.jR Z Z (Ef.storeAll NU (by simp[hsl]) Z Z (V.le C) (by simp[hsl]) (fun v hv=>nT _ v (by simpa using hv)) ?_)
 intro aB aC D
 have aD:Le w aB:=aA.tb D an ax
 have _:=V.lt
 refine W.jR Z Z (Ef.storeAll NU Z Z Z (az.ch D (by simp;omega)) Z (fun v hv=>nT _ v (by simpa using hv)) ?_)
 intro aE Y F
 have aa:Le w aE:=aD.tb F ao ay
 have N:=aC.ch F (by simp;omega)
 have _:=u.lt
 have _:=m.size
 have _:=f.size
 have _:=k.size
 have _:=o.size
 refine Nx (Sr (Wr (.jM JY (by simp[hl]) Z (((((((u.le m).le f).le k).le o).le C).ch D (by simp;omega)).ch F (by simp;omega))) Z ?_))
 have O:=((((((u.le m).le f).le k).le o).le C).ch D (by simp;omega)).ch F (by simp;omega)
 have _:=S.lt
 have P:=(((((S.le f).le k).le o).le C).ch D (by simp;omega)).ch F (by simp;omega)
 refine Yz Z TV fun l bc ap aF H=>?_
 have aG:=aa.trans H
 refine W.jR Z Z (Ef.storeAll Fb (by simp[hl]) Z Z aF (by simp[hl]) (fun v hv=>nT _ v (by simpa using hv)) ?_)
 intro aH aI I
 have aJ:Le w aH:=aG.tb I aa ap
 have _:=O.lt
 have s:=(O.le H).ch I (by simp;omega)
 have _:=P.lt
 have t:=(P.le H).ch I (by simp;omega)
 have _:=N.lt
 have Q:=(N.le H).ch I (by simp;omega)
 have _:=Y.lt
 have R:=(Y.le H).ch I (by simp;omega)
 have n2:y<l:=by omega
 have n4:B<l:=by omega
 have n5:U<l:=by omega
 have n6:X<l:=by omega
 have hgv:w.heap.size<=l:=Nat.le_trans aa.size ap
 clear O P N
 refine Nx (Sq (Rn 1 Z (Bk (WC.loop (ι:=Nat) (fun i=>[(2,.pointer (some ⟨y,0,none⟩)),(4,.pointer (some ⟨B,0,none⟩)),(5,.pointer (some ⟨U,0,none⟩)),(6,.pointer (some ⟨X,0,none⟩)),(7,.pointer (some ⟨l,0,none⟩)),(18,J (i:Int))]) (fun i wl=>i<=64/\Le w wl/\ik wl y 299 (h.map jL).toArray/\ik wl B 299 zw8/\ik wl U 322 ((sched b).map jL).toArray/\ik wl X 322 (table.map jL).toArray/\ik wl l 299 ((mM h (sched b) i).map jL).toArray) (fun i=>64-i) 0 ?_ ?_ ?_))))
 ·exact .of Z
 ·exact⟨by omega,aJ,s,t,Q,R,aI⟩
 rintro i wl ⟨hi,Ll,s,t,Q,R,bv⟩
 have hvl:=x9 h (sched b) hl i
 obtain⟨v,hv⟩:∃v,v=mM h (sched b) i:=⟨_,rfl⟩
 rw[<-hv]at bv hvl
 refine Rn 1 Z (Sq (WC.cond Z (fun c0=>?_) (fun c0=>?_)))
 ·refine Nb (Rn 2 Z (Sq (WC.draw [0,1,3,4,7,8,2,5,6,9,10,11] mixed (by kernel_rfl) fun w6 d6=>?_)))
  have L6:=Ll.trans d6
  have v6:=bv.le d6
  refine Xo 4 Z (Xl Z v6 (nJ _ (by omega)) (Xo 4 Z (Xl Z v6 (nJ _ (by omega)) (Xo 4 Z (Xl Z v6 (nJ _ (by omega)) (Xc Z (wB _ 6 w6 (by omega)) fun aK ac=>?_))))))
  have aL:=L6.trans ac
  refine Xc Z (wB _ 11 aK (by omega)) fun aM ad=>?_
  have aN:=aL.trans ad
  refine Ga Z (.qM Z Z) (Xc Z (wB _ 25 aM (by omega)) fun bd ae=>?_)
  have aO:=aN.trans ae
  refine Ga Z (.qM Z Z) (Xx 1 Z (Sq (WC.draw [0,1,2,3,4,5,6,7,8,9,10,11,12,13,14,15,16,17,18,19,20,21,22,23,24] mixed (by kernel_rfl) fun w7 d7=>?_)))
  have LL:=d6.trans (ac.trans (ad.trans (ae.trans d7)))
  have K:=bv.le LL
  refine Xo 7 Z (Xl Z K (nJ _ (by omega)) (Xn 1 Z (Ga Z (.add32 Z Z) (Xo 6 Z (Xl Z K (nJ _ (by omega)) (Xo 4 Z (Xl Z K (nJ _ (by omega)) (Xo 5 Z (Xl Z K (nJ _ (by omega)) ?_)))))))))
  refine Xo 6 Z (Xl Z K (nJ _ (by omega)) (Ga Z (.qM Z Z) (Ga Z (.ET Z Z) (Ga Z (.qM Z Z) (Ga Z (.add32 Z Z) (Xn 1 Z (Xo i Z (Xl Z (R.le LL) (nJ _ (by show i<64;omega)) (Ga Z (.add32 Z Z) ?_)))))))))
  refine Xn 1 Z (Xo i Z (Xl Z (Q.le LL) (nJ _ (by rw[hsl];omega)) (Ga Z (.add32 Z Z) (Xx 1 Z (Sq (WC.draw [0,1,3,4,7,8,2,5,6,9,10,11] mixed (by kernel_rfl) fun w8 d8=>?_))))))
  have L8:=(aO.trans d7).trans d8
  have LL:=LL.trans d8
  have v8:=bv.le LL
  refine Xo 0 Z (Xl Z v8 (nJ _ (by omega)) (Xo 0 Z (Xl Z v8 (nJ _ (by omega)) (Xo 0 Z (Xl Z v8 (nJ _ (by omega)) (Xc Z (wB _ 2 w8 (by omega)) fun aP af=>?_))))))
  have aQ:=L8.trans af
  refine Xc Z (wB _ 13 aP (by omega)) fun aR ah=>?_
  have aS:=aQ.trans ah
  refine Ga Z (.qM Z Z) (Xc Z (wB _ 22 aR (by omega)) fun be ai=>?_)
  have aT:=aS.trans ai
  refine Ga Z (.qM Z Z) (Xx 1 Z (Sr ?_))
  have LL:=LL.trans (af.trans (ah.trans ai))
  have d:=bv.le LL
  refine Yo 0 Z (Yl Z d (nJ _ (by omega)) (Yo 1 Z (Yl Z d (nJ _ (by omega)) (Wa (.ET Z Z) Z (Yo 2 Z (Yl Z d (nJ _ (by omega)) (Yo 0 Z (Yl Z d (nJ _ (by omega)) (Yo 1 Z ?_)))))))))
  refine Yl Z d (nJ _ (by omega)) (Wa (.Jh Z Z) Z (Wa (.ET Z Z) Z (Wa (.Jh Z Z) Z (Yx 1 Z (Rg (Yn 2 Z (Wa (.add32 Z Z) Z (Yn 1 Z (Wa (.add32 Z Z) Z ?_)))))))))
  refine Yo 0 Z (Yl Z d (nJ _ (by omega)) (Yo 1 Z (Yl Z d (nJ _ (by omega)) (Yo 2 Z (Yl Z d (nJ _ (by omega)) (Yo 3 Z (Yl Z d (nJ _ (by omega)) (Yn 1 Z (Wa (.add32 Z Z) Z ?_)))))))))
  refine Yo 4 Z (Yl Z d (nJ _ (by omega)) (Yo 5 Z (Yl Z d (nJ _ (by omega)) (Yo 6 Z (Yl Z d (nJ _ (by omega)) (Wa (.VX [_,_,_,_,_,_,_,_] underlying299 NL TV Z (adH _ _ _ _ _ _ _ _) Z Z) Z ?_))))))
  have e2:=s.le LL
  have e4:=t.le LL
  have e5:=Q.le LL
  have e6:=R.le LL
  refine W.jR Z Z (Ef.storeAll Fb Z Z Z d (by simp[hvl]) (fun v hv=>adH _ _ _ _ _ _ _ _ v (by simpa using hv)) ?_)
  intro aU aV L
  have aW:Le w aU:=aT.ja L (fun q hq=>by cases hq;exact hgv)
  refine W.nil (Lp 1 Z Z (E.again (i+1) (.of Z) ?_ ?_))
  ·exact⟨by omega,aW,e2.ch L (by simp;omega),e4.ch L (by simp;omega),e5.ch L (by simp;omega),e6.ch L (by simp;omega),aV.cast (by rw[mM,<-hv];rfl)⟩
  first|omega|(simp only[];omega)
 rw[hv]at bv hvl
 have aX:i=64:=by omega
 subst aX
 refine Ex (Sq (Rn 1 Z (Bk (WC.loop (ι:=Nat) (fun j=>[(2,.pointer (some ⟨y,0,none⟩)),(4,.pointer (some ⟨B,0,none⟩)),(7,.pointer (some ⟨l,0,none⟩)),(104,J (j:Int))]) (fun j wm=>j<=8/\Le w wm/\ik wm y 299 (h.map jL).toArray/\ik wm B 299 zw8/\ik wm l 299 ((vC (mM h (sched b) 64) h j).map jL).toArray) (fun j=>8-j) 0 ?_ ?_ ?_))))
 ·exact .of Z
 ·exact⟨by omega,Ll,s,t,bv.cast (by rw[Gs _ _ hvl])⟩
 rintro j wm ⟨hj,Lm,s,t,bv⟩
 have hal:=ql (mM h (sched b) 64) h j
 refine Rn 1 Z (Sq (WC.cond Z (fun c1=>?_) (fun c1=>?_)))
 ·refine Nb (Rn 2 Z (WC.draw [0,1,2,3,4,5,6,7,8] mixed (by kernel_rfl) fun bf x=>?_))
  have aY:=Lm.trans x
  refine Xn 1 Z (Xo j Z (Xl Z (bv.le x) ((nJ _ (by omega)).trans (by rw[Mr _ _ _ _ (by omega),if_neg (by omega)])) (Xn 1 Z (Xo j Z (Xl Z (s.le x) (nJ _ (by omega)) (Ga Z (.add32 Z Z) (Xo j Z (G.jR Z Z Z Z (Ef.store NL Z Z (bv.le x) (by simp;omega) Z ?_)))))))))
  intro aZ a0 aj
  have a1:Le w aZ:=aY.ja aj (fun q hq=>by cases hq;exact hgv)
  refine noT (by kernel_rfl) (G.nil (Lp 1 Z Z (E.again (j+1) (.of Z) ?_ ?_)))
  ·exact⟨by omega,a1,(s.le x).ch aj (by simp;omega),(t.le x).ch aj (by simp;omega),a0.cast (by rw[<-Gt _ _ j (by omega)];apply Array.ext';simp)⟩
  first|omega|(simp only[];omega)
 have a2:j=8:=by omega
 subst a2
 refine Ex (Sr (Wr (.jM JY (by simp[hal]) Z bv) Z (W.jR Z Z (Ef.storeAll Fb (by simp[hal]) Z Z t (by simp[hal]) (fun v hv=>nT _ v (by simpa using hv)) ?_))))
 intro a3 a4 a5
 have a6:Le w a3:=Lm.tb a5 ak au
 refine Nx (Rt (E.MQ Z Z a4 JY (by simp[hal]) ?_))
 exact⟨rfl,a6⟩
theorem WZ (w:World)(hS:Sb w A n xs)(hn:n<=70368744177664):Calls prog 185 #[.slice A n c] w fun e w'=>∃A' c',e= .returned (.slice A' n c')/\Own w' w.heap.size 5 1 A' n c' (xs.map jf)/\Le w w':=by
 refine En func185 Z ?_
 have f:=Le.refl w
 refine Rn 1 Z (Sq (Rr 1 Z (Wa (.isNil underlying78 Z) Z (Nx (WC.yh Z (fun i=>?_) (fun i=>?_))))))
 ·have hA:A=none:=by simpa using i
  subst hA
  have hl:=hS.len
  have hx:xs=[]:=by cases xs with |nil=>rfl|cons x xs=>exact absurd (hS.isSome (by rw[<-hl];simp)) (by simp)
  subst hx
  have j:n=0:=by simpa using hl.symm
  subst j
  refine Rn 1 Z (Rt (E.il (E.mP Z Z ?_)))
  exact⟨none,0,rfl,Own.empty _ _ _ _ _,f⟩
 refine Sn (Sr (W.ef Z Z Z (Ef.oz underlying78 xD fun y k B C l=>?_)))
 have d:=f.trans l
 refine Yn 1 Z (W.ef Z Z Z (Ef.append underlying78 xD Z (Own.empty k w.heap.size 5 1 _) Z ((hS.le d).src underlying78 _) (by omega) (by unfold maxLen;omega) d.size ?_))
 intro m o s t u D
 have v:Le w s:=d.ja u (fun q hq=>by rw[jI]at hq;cases hq)
 refine Yx 1 Z (Rt (E.mP Z Z ?_))
 exact⟨m,o,by rw[Nat.zero_add],t.cast (Nat.zero_add n) (List.nil_append _),v⟩
theorem Ls {base:Nat}(m:Nat)(w:World)(hO:Own w base 5 1 A n c (xs.map jf))(_hm:m<=9223372036854775807)(hn:n<=70368744177664)(hb:base<=w.heap.size):Calls prog 164 #[.slice A n c,J (m:Int)] w fun e w'=>∃A' c',e= .returned (.slice A' (n+8) c')/\Own w' base 5 1 A' (n+8) c' ((xs++vB m).map jf)/\Ch w w' (rowOf A c)/\At w A c A' c':=by
 refine En func164 Z (Rn 1 Z (Sq (Rn 1 Z (Bk (WC.loop (ι:=Nat×Option Addr×Nat) (fun⟨k,d,f⟩=>[(0,.slice d (n+k) f),(1,J (m:Int)),(5,J (56-8*(k:Int)))]) (fun⟨k,d,f⟩ wl=>k<=8/\Own wl base 5 1 d (n+k) f ((xs++rH m k).map jf)/\Ch w wl (rowOf A c)/\At w A c d f) (fun⟨k,d,f⟩=>8-k) (0,A,c) ?_ ?_ ?_)))))
 ·exact .of Z
 ·exact⟨by omega,hO.cast Z (by simp[rH]),Ch.refl _ _,At.refl _ _ _⟩
 rintro⟨k,d,f⟩ wl ⟨hk,ol,chl,atl⟩
 refine Sq (Rn 2 Z (WC.cond Z (fun j=>?_) (fun j=>?_)))
 ·refine Nb (Rg (Yn 3 Z (Wa (.Pw m (56-8*k) Z Z Z (by omega) (by show 56-8*k<=64;omega)) Z (Wr (.toU8 (m>>>(56-8*k)) (rG underlying3) underlying5 Z Z) Z (W.ef Z Z Z (Ef.mI underlying78 xD Z Z fun y B C l i=>W.ef Z Z Z (Ef.append underlying78 xD Z (ol.le i) Z (l.Ji underlying78 Z) (by omega) (by unfold maxLen;omega) (Nat.le_trans hb (Nat.le_trans chl.size i.size)) ?_)))))))
  intro o s D t u v
  refine Yn 1 Z (W.nil (E.jD (E.iM (Rg (Yn 1 Z (Yp Z (Yn 1 Z (W.nil (E.again (k+1,o,s) (.cons Z (.cons Z (.cons' Z (int_eq (by omega)) (.nil _)))) ?_ ?_)))))))))
  ·exact⟨by omega,t.cast Z (by rw[xE m k (by omega)];simp),(chl.trans (i.ch _)).ja u (fun q hq=>(atl q hq).symm),atl.trans (Nat.le_trans chl.size i.size) v⟩
  first|omega|(simp only[];omega)
 have x:k=8:=by omega
 subst x
 refine Ex (Rn 2 Z (Rt (E.mP Z Z ?_)))
 exact⟨d,f,rfl,ol,chl,atl⟩
set_option maxHeartbeats 1000000 in
theorem W9 (w:World) (hS:Sb w A n xs) (hn:n<=35184372088832) (hc:n<=c):Calls prog 157 #[.slice A n c] w fun e w'=>e= .returned (.agg ((sum xs).map jf).toArray)/\Le w w':=by
 have hl:=hS.len
 refine enter func157 Z Z ?_
 have L0:=Le.refl w
 refine Sr (Yz Z z23 fun f Q R aj ak=>?_)
 have F:=L0.trans ak
 have d:ik Q f 23 ((List.replicate 32 0#8).map jf).toArray:=aj
 refine Nx (Sr (Yn 5 Z (Wa (.rem Z Z (by omega)) Z (Yp Z (Wa (.uP (n-n%64) underlying78 yC Z Z (by omega) (by omega) (by omega)) Z (Yd Z (WZ Q ((hS.le F).uP c (n-n%64) (by omega) hc) (by omega)) ?_))))))
 rintro _ a1 ⟨A1,S,rfl,o,H⟩
 have al:=F.trans H
 have U:=o
 have o:=o.mono F.size
 refine W.ef Z Z Z (Ef.mI underlying78 xD Z Z fun a2 a3 a4 an B=>?_)
 have V:=al.trans B
 refine W.ef Z Z Z (Ef.append underlying78 xD Z (o.le B) Z (an.Ji underlying78 Z) (by omega) (by unfold maxLen;omega) V.size ?_)
 intro X Y ao ap aa aq
 have ar:Le w ao:=V.ja aa (fun q hq=>(o.row hq).1)
 have _:=d.lt
 have s:rowOf X Y≠some f:=aq.off (by have:=H.size;have:=B.size;omega) (U.rl (by omega))
 have d:=((d.le H).le B).ch aa (U.rl (by have:=d.lt;omega))
 refine Yn 1 Z (Nx (Sq (WC.block (WC.loop (ι:=Nat×Option Addr×Nat) (fun⟨k,l,j⟩=>[(0,.slice A n c),(2,.pointer (some ⟨f,0,none⟩)),(3,.slice l (n%64+1+k) j)]) (fun⟨k,l,j⟩ wl=>k<=noughts n/\Le w wl/\Own wl w.heap.size 5 1 l (n%64+1+k) j ((xs.drop (n-n%64)++[128]++List.replicate k 0).map jf)/\ik wl f 23 ((List.replicate 32 0#8).map jf).toArray/\rowOf l j≠some f) (fun⟨k,l,j⟩=>64-k) (0,X,Y) ?_ ?_ ?_))))
 ·exact .cons Z (.cons Z (.cons' Z (oK (by omega)) (.nil _)))
 ·exact⟨Nat.zero_le _,ar,ap.cast (by omega) (by simp;rfl),d,s⟩
 rintro⟨k,l,j⟩ wl ⟨hk,Ll,ol,d,s⟩
 have a5:noughts n<=63:=by unfold noughts;omega
 refine Sq (Sr (Yn 2 Z (Wa (.rem Z Z (by omega)) Z (Yn 1 Z (Nx (WC.cond Z (fun c0=>?_) (fun c0=>?_)))))))
 ·refine Sn (WC.block (WC.region (Yn 1 Z (W.ef Z Z Z (Ef.mI underlying78 xD Z Z fun a6 a7 a8 au t=>?_)))))
  have av:=Ll.trans t
  refine W.ef Z Z Z (Ef.append underlying78 xD Z (ol.le t) Z (au.Ji underlying78 Z) (by omega) (by unfold maxLen;omega) (Nat.le_trans Ll.size t.size) ?_)
  intro aw ax ay az ac aA
  have aB:Le w ay:=av.ja ac (fun q hq=>(ol.row hq).1)
  refine Yn 1 Z (W.nil (E.jD (E.again (k+1,aw,ax) (.cons Z (.cons Z (.cons' Z (oK (by omega)) (.nil _)))) ?_ ?_)))
  ·exact⟨by unfold noughts at*;omega,aB,az.cast (by omega) (by simp[List.replicate_succ'];rfl),(d.le t).ch ac s,aA.off (by have:=d.lt;have:=t.size;omega) s⟩
  first|omega|(simp only[];omega)
 have hkn:k=noughts n:=by unfold noughts at*;omega
 subst hkn
 refine WC.exit (E.jW (E.jW (E.rQ (E.iM (Sr (Yn 3 Z (Yp Z (Yd Z (Ls (8*n) wl ol (by omega) (by omega) Ll.size) ?_))))))))
 rintro _ C ⟨A4,c4,rfl,I,ad,a9⟩
 have ae:Le w C:=Ll.ja ad (fun q hq=>(ol.row hq).1)
 have d:=d.ch ad s
 obtain⟨ge,aC,ba,aD,hrow⟩:=I.lit (by omega)
 subst aC
 have hce:=I.cap.1
 have hE:Sb C (some ⟨ge,0,none⟩) (n%64+1+noughts n+8) (tail xs):=I.sb.cast Z (by simp[tail,hl])
 have htl:=Ms xs
 have hlen:=hE.len
 rw[hlen]at htl
 refine Yn 1 Z (Nx (Sr (Yc Z (WX C) fun bb D=>?_)))
 have af:=ae.trans D
 refine Yz Z TV fun i bc ah aE K=>?_
 have aF:=af.trans K
 refine W.jR Z Z (Ef.storeAll Fb Z Z Z aE Z (fun v hv=>nT _ v (by simpa using hv)) ?_)
 intro aG aH L
 have aI:Le w aG:=aF.tb L af ah
 have N:C.heap.size<=i:=Nat.le_trans D.size ah
 have bd:f<i:=Nat.lt_of_lt_of_le d.lt N
 have be:ge<i:=Nat.lt_of_lt_of_le aD N
 have hgh:w.heap.size<=i:=Nat.le_trans ae.size N
 have d:=((d.le D).le K).ch L (by simp;omega)
 have hE:=((hE.le D).le K).ch L (fun q hq=>by cases hq;simp[lN];omega)
 refine Nx (Sq (WC.block (WC.loop (ι:=Option Addr×Nat×Nat×List Byte×List Word) (fun⟨Ab,nb,cb,ys,hh⟩=>[(0,.slice Ab nb cb),(2,.pointer (some ⟨f,0,none⟩)),(3,.slice (some ⟨ge,0,none⟩) (n%64+1+noughts n+8) c4),(4,.pointer (some ⟨i,0,none⟩))]) (fun⟨Ab,nb,cb,ys,hh⟩ wp=>Sb w Ab nb ys/\nb<=cb/\hh.length=8/\lK hh ys=lK first xs/\Le w wp/\ik wp i 299 (hh.map jL).toArray/\ik wp f 23 ((List.replicate 32 0#8).map jf).toArray/\Sb wp (some ⟨ge,0,none⟩) (n%64+1+noughts n+8) (tail xs)) (fun⟨Ab,nb,cb,ys,hh⟩=>nb) (A,n,c,xs,first) ?_ ?_ ?_)))
 ·exact .of Z
 ·exact⟨hS,hc,rfl,rfl,aI,aH,d,hE⟩
 rintro⟨Ab,nb,cb,ys,hh⟩ wp ⟨hb,hcb,Zz,hmx,Lp,bh,d,hE⟩
 have hyl:=hb.len
 refine Sq (Sr (Yn 3 Z (Nx (WC.cond Z (fun S=>?_) (fun S=>?_)))))
 ·refine Sn (Sq (WC.block (WC.draw [0,1,2,3,4] mixed (by kernel_rfl) fun w8 u=>?_)))
  have L8:=Lp.trans u
  refine Gd Z (.jM JY (by simp[Zz]) Z (bh.le u)) (Xn 1 Z (Ga Z (.Fy 64 underlying78 yC Z Z Z (by omega)) (Xc Z (WY w8 Zz ((hb.le L8).Fy 64 (by omega)) Z (by omega)) fun bf x=>?_)))
  have aJ:=L8.trans x
  refine G.jR Z Z Z Z (Ef.storeAll Fb (by simp[qX]) Z Z ((bh.le u).le x) (by simp[qX,Zz]) (fun v hv=>nT _ v (by simpa using hv)) ?_)
  intro aK aL O
  have aM:Le w aK:=aJ.ja O (fun q hq=>by cases hq;exact hgh)
  refine noT (by kernel_rfl) (G.nil (E.jD (E.iM (WC.region (Yn 1 Z (Wa (.uP 64 underlying78 yC Z Z Z (by omega) (by omega)) Z (Yn 1 Z (W.nil (E.again (mZ Ab cb 64 1,nb-64,cb-64,ys.drop 64,mix hh (ys.take 64)) (.of Z) ?_ ?_)))))))))
  ·exact⟨hb.uP cb 64 (by omega) hcb,by omega,qX _ _,(tH _ _ (by omega)).symm.trans hmx,aM,aL,((d.le u).le x).ch O (by simp;omega),((hE.le u).le x).ch O (fun q hq=>by cases hq;simp[lN];omega)⟩
  first|omega|(simp only[];omega)
 have hhe:hh=lK first xs:=by rw[<-hmx,uM _ _ (by omega)]
 refine WC.exit (E.jW (E.jW (E.rQ (E.iM (Sq (WC.block (WC.loop (ι:=Option Addr×Nat×Nat×List Byte×List Word) (fun⟨Ab,nb,cb,ys,hh⟩=>[(2,.pointer (some ⟨f,0,none⟩)),(3,.slice Ab nb cb),(4,.pointer (some ⟨i,0,none⟩))]) (fun⟨Ab,nb,cb,ys,hh⟩ wq=>Sb wq Ab nb ys/\lN Ab=some ge/\nb<=cb/\nb%64=0/\hh.length=8/\lK hh ys=lK (lK first xs) (tail xs)/\Le w wq/\ik wq i 299 (hh.map jL).toArray/\ik wq f 23 ((List.replicate 32 0#8).map jf).toArray) (fun⟨Ab,nb,cb,ys,hh⟩=>nb) (some ⟨ge,0,none⟩,n%64+1+noughts n+8,c4,tail xs,hh) ?_ ?_ ?_)))))))
 ·exact .of Z
 ·exact⟨hE,rfl,hce,htl,Zz,by rw[hhe],Lp,bh,d⟩
 rintro⟨Ab,nb,cb,ys,hh⟩ wq ⟨hb,hbe,hcb,bg,Zz,hmx,Lq,bh,d⟩
 have hyl:=hb.len
 refine Sq (Sr (Yn 3 Z (Nx (WC.cond Z (fun j=>?_) (fun j=>?_)))))
 ·refine Sn (Sq (WC.block (WC.draw [0,1,2,3,4] mixed (by kernel_rfl) fun aN m=>?_)))
  have aO:=Lq.trans m
  refine Gd Z (.jM JY (by simp[Zz]) Z (bh.le m)) (Xn 1 Z (Ga Z (.Fy 64 underlying78 yC Z Z Z (by omega)) (Xc Z (WY aN Zz ((hb.le m).Fy 64 (by omega)) Z (by omega)) fun bi y=>?_)))
  have aP:=aO.trans y
  refine G.jR Z Z Z Z (Ef.storeAll Fb (by simp[qX]) Z Z ((bh.le m).le y) (by simp[qX,Zz]) (fun v hv=>nT _ v (by simpa using hv)) ?_)
  intro aQ aR P
  have aS:Le w aQ:=aP.ja P (fun q hq=>by cases hq;exact hgh)
  refine noT (by kernel_rfl) (G.nil (E.jD (E.iM (WC.region (Yn 1 Z (Wa (.uP 64 underlying78 yC Z Z Z (by omega) (by omega)) Z (Yn 1 Z (W.nil (E.again (mZ Ab cb 64 1,nb-64,cb-64,ys.drop 64,mix hh (ys.take 64)) (.of Z) ?_ ?_)))))))))
  ·exact⟨(((hb.le m).le y).ch P (fun q hq=>by cases hq;rw[hbe];simp;omega)).uP cb 64 (by omega) hcb,by rw[GQ,hbe],by omega,by omega,qX _ _,(tH _ _ (by omega)).symm.trans hmx,aS,aR,((d.le m).le y).ch P (by simp;omega)⟩
  first|omega|(simp only[];omega)
 have hhe:hh=lK (lK first xs) (tail xs):=by rw[<-hmx,uM _ _ (by omega)]
 refine WC.exit (E.jW (E.jW (E.rQ (E.iM (Sq (Sr (Yn 1 Z (Nx (WC.block (WC.loop (ι:=Nat) (fun k=>[(2,.pointer (some ⟨f,0,none⟩)),(4,.pointer (some ⟨i,0,none⟩)),(48,J (k:Int))]) (fun k wr=>k<=32/\Le w wr/\ik wr i 299 (hh.map jL).toArray/\ik wr f 23 ((rJ hh k).map jf).toArray) (fun k=>32-k) 0 ?_ ?_ ?_))))))))))
 ·exact .of Z
 ·exact⟨by omega,Lq,bh,d⟩
 rintro k wr ⟨hk,Lr,bh,d⟩
 have hdl:=yc hh k hk
 refine Sr (Yn 1 Z (Nx (Sq (WC.cond Z (fun c3=>?_) (fun c3=>?_)))))
 ·refine Sn (Sq (WC.block (Sr (Yn 2 Z (Nx (WC.region (Yn 2 Z (Wa (.quo Z Z (by omega)) Z (Yo (k/4) Z ?_)))))))))
  refine Yl Z bh (nJ _ (by omega)) (Yn 1 Z (Wa (.rem Z Z (by omega)) Z (Yp Z (Yp Z (Wa (.EW (24-8*(k%4)) Z Z (by omega) (by omega)) Z (Wr (.VT (rG underlying25) underlying5 Z) Z (Yo k Z (W.jR Z Z (Ef.store yC Z Z d (by simp;omega) Z ?_)))))))))
  intro aT aU ai
  have aV:Le w aT:=Lr.ja ai (fun q hq=>by cases hq;exact R)
  refine W.nil (E.jD (E.iM (WC.region (Yp Z (Yn 1 Z (W.nil (E.again (k+1) (.of Z) ?_ ?_)))))))
  ·exact⟨by omega,aV,bh.ch ai (by simp;omega),aU.cast (by rw[<-AQ hh k (by omega)];apply Array.ext';simp)⟩
  first|omega|(simp only[];omega)
 have aW:k=32:=by omega
 subst aW
 refine WC.exit (E.jW (E.jW (E.rQ (E.iM (Sr (Wr (.jM ug (by simp[hdl]) Z d) Z (W.jR Z Z (Ef.storeAll zb (by simp[hdl]) Z Z d (by simp) (rT _) ?_))))))))
 intro aX aY aZ
 have a0:Le w aX:=Lr.ja aZ (fun q hq=>by cases hq;exact R)
 refine Nx (Rt (E.MQ Z Z aY ug (by simp[hdl]) ?_))
 exact⟨by rw[Fv.sum,<-hhe];simp[rJ,List.take_of_length_le,qJ],a0⟩
variable {vs:List Value}{ps:List (List Byte)}
set_option maxHeartbeats 1000000 in
theorem Ib (name:ByteArray) (nm:List Byte) (w:World) (hnm:byteCells name=nm.map jf) (hV:Sl w 1 A n vs) (hP:Parts w vs ps) (hT:(kY nm ps).length<=1099511627776):Calls prog 121 #[.string name,.slice A n c] w fun e w'=>e= .returned (.agg ((tag nm ps).map jf).toArray)/\Le w w':=by
 have hns:name.size=nm.length:=by have:=congrArg List.length hnm;simpa[byteCells_length]using this
 have hnl:nm.length=name.size:=hns.symm
 have hvl:=hV.1
 have hpl:=hP.1
 have hpn:=yJ nm ps
 have hle:=wF nm ps 0
 rw[pK]at hle
 simp[iL]at hle
 refine En func121 Z ?_
 have N:=Le.refl w
 refine Sr (Yz Z z23 fun f m O s P=>?_)
 have t:=N.trans P
 have d:ik m f 23 ((List.replicate 32 0#8).map jf).toArray:=s
 refine Nx (Rr 1 Z (Wr (.VS underlying9 Z) Z (Yd Z (Ls (xs:=[]) name.size m (Own.empty m w.heap.size 5 1 none) (by omega) (by omega) t.size) ?_)))
 rintro _ u ⟨Q,R,rfl,x,y,S⟩
 have B:Le w u:=t.ja y (fun q hq=>by rw[jI]at hq;cases hq)
 have d:=d.ch y (by rw[jI];simp)
 have i:rowOf Q R≠some f:=fun he=>by have:=S.none he;have:=s.lt;omega
 refine Yn 1 Z (W.ef Z Z Z (Ef.append underlying78 xD Z x Z (Src.ofString u underlying9 name) (by omega) (by unfold maxLen;omega) B.size ?_))
 intro C D U V F X
 have Y:Le w U:=B.ja F (fun q hq=>(x.row hq).1)
 have i:rowOf C D≠some f:=X.off (by have:=d.lt;omega) i
 have d:=d.ch F (by assumption)
 refine Yx 1 Z (Sq (Rn 3 Z (Bk (WC.loop (ι:=Nat×Option Addr×Nat) (fun⟨k,j,l⟩=>[(4,.pointer (some ⟨f,0,none⟩)),(5,.slice j (pz nm ps k).length l),(13,.slice A n c),(14,J (n:Int)),(15,J (k:Int))]) (fun⟨k,j,l⟩ wl=>k<=n/\Le w wl/\Own wl w.heap.size 5 1 j (pz nm ps k).length l ((pz nm ps k).map jf)/\ik wl f 23 ((List.replicate 32 0#8).map jf).toArray/\rowOf j l≠some f) (fun⟨k,j,l⟩=>n-k) (0,C,D) ?_ ?_ ?_))))
 ·exact .cons Z (.cons' Z (oK (by rw[pK];simp[iL,hnl])) (.of Z))
 ·exact⟨Nat.zero_le _,Y,V.cast (by rw[pK];simp[iL,hnl]) (by rw[pK,hnm];simp[hnl]),d,i⟩
 rintro⟨k,j,l⟩ wl ⟨hk,Ll,ol,d,i⟩
 have hTk:(pz nm ps k).length<=1099511627776:=Nat.le_trans (wF nm ps k) hT
 refine Rn 1 Z (Sq (WC.cond Z (fun c0=>?_) (fun c0=>?_)))
 ·have hkn:k<n:=by omega
  obtain⟨q,hq⟩:∃q,ps[k]? =some q:=⟨_,List.getElem?_eq_getElem (by omega)⟩
  obtain⟨v,hv⟩:∃v,vs[k]? =some v:=⟨_,List.getElem?_eq_getElem (by omega)⟩
  obtain⟨Aq,cq,rfl,aa⟩:=hP.2 k v q hv hq
  have hsucc:=Gu nm ps k q hq
  have ar:(pz nm ps (k+1)).length<=1099511627776:=Nat.le_trans (wF nm ps (k+1)) hT
  have hsl:(pz nm ps (k+1)).length=(pz nm ps k).length+8+q.length:=by rw[hsucc];simp[iL];omega
  refine Nb (Sr (Yu k Z (hV.isSome hkn (by decide)) (Wr (.j3 WK Z (hV.le Ll) hv) Z (Yx 1 Z (Rg (Yn 3 Z (Yd Z (Ls q.length wl ol (by omega) (by omega) Ll.size) ?_)))))))
  rintro _ ac ⟨A3,c3,rfl,H,I,ad⟩
  have o:Le w ac:=Ll.ja I (fun q hq=>(ol.row hq).1)
  have agt:rowOf A3 c3≠some f:=ad.off (by have:=d.lt;omega) i
  have d:=d.ch I i
  refine Yn 1 Z (W.ef Z Z Z (Ef.append underlying78 xD Z H Z ((aa.le o).src underlying78 _) (by omega) (by unfold maxLen;omega) o.size ?_))
  intro ae af ah ai K aj
  have ak:Le w ah:=o.ja K (fun q hq=>(H.row hq).1)
  refine Yn 1 Z (W.nil (Lp 1 Z Z (E.again (k+1,ae,af) (.cons Z (.cons' Z (oK (by rw[hsucc];simp[iL];omega)) (.of Z))) ?_ ?_)))
  ·exact⟨by omega,ak,ai.cast (by rw[hsucc];simp[iL];omega) (by rw[hsucc];simp),d.ch K agt,aj.off (by have:=d.lt;omega) agt⟩
  first|omega|(simp only[];omega)
 have hkn:k=n:=by omega
 refine Ex (Rr 1 Z (Yc Z (W9 wl ol.sb (by omega) ol.cap.1) fun au L=>?_))
 have al:=Ll.trans L
 refine W.jR Z Z (Ef.storeAll zb (by simp[mO]) Z Z (d.le L) (by simp[mO]) (rT _) ?_)
 intro an ao ap
 have aq:Le w an:=al.ja ap (fun q hq=>by cases hq;exact O)
 refine Nx (Rt (E.MQ Z Z ao ug (by simp[mO]) ?_))
 exact⟨by rw[tag,Ju nm ps k (by omega)],aq⟩
theorem qP (x:BitVec 32)(k:Nat)(w:World)(hk:1<=k/\k<=31):Calls prog 245 #[jL x,J (k:Int)] w fun e w'=>e= .returned (jL (QN x k))/\Le w w':=by
 refine En func245 Z (WC.sr (Yn 1 Z (W.nx (WC.seq (WC.draw [0,1,2,3,4,5,6,7,8] mixed (by kernel_rfl) fun f c=>?_)))))
 have d:=(Le.refl w).trans c
 refine Xn 2 Z (Ga Z (.EW k Z Z Z (by omega)) (Xn 2 Z (Xp Z (Ga Z (.EU (32-k) Z Z (by omega) (by omega)) (Ga Z (.Jh Z Z) (Xx 1 Z (WC.ret (E.mP Z Z ?_))))))))
 exact⟨by rw[VI],d⟩
theorem P9 (w:World):Calls prog 226 #[] w fun e w'=>∃A' c',e= .returned (.slice A' 8 c')/\Own w' w.heap.size 25 1 A' 8 c' (first.map jL)/\Le w w':=by
 refine En func226 Z ?_
 have c:=Le.refl w
 refine Rn 1 Z (Sr (W.ef Z Z Z (Ef.lQ (first.map jL) underlying319 H5 (by kernel_rfl) (nT _) Z (by decide) (by decide) fun k l d f i=>?_)))
 have j:=c.trans i
 refine Yx 1 Z (Rt (E.mP Z Z ?_))
 exact⟨_,_,rfl,f.own (s:=1) (n:=8) d Z (by unfold maxLen;omega),j⟩
theorem Xm (w:World):Calls prog 244 #[] w fun e w'=>∃A' c',e= .returned (.slice A' 64 c')/\Own w' w.heap.size 25 1 A' 64 c' (table.map jL)/\Le w w':=by
 refine En func244 Z ?_
 have c:=Le.refl w
 refine Rn 1 Z (Sr (W.ef Z Z Z (Ef.lQ (table.map jL) underlying319 H5 (by kernel_rfl) (nT _) Z (by decide) (by decide) fun k l d f i=>?_)))
 have j:=c.trans i
 refine Yx 1 Z (Rt (E.mP Z Z ?_))
 exact⟨_,_,rfl,f.own (s:=1) (n:=64) d Z (by unfold maxLen;omega),j⟩
theorem T9 {b:List Byte}(w:World)(hS:Sb w A n b)(hn:n=64):Calls prog 243 #[.slice A n c] w fun e w'=>∃A' c',e= .returned (.slice A' 64 c')/\Own w' w.heap.size 25 1 A' 64 c' ((sched b).map jL)/\Le w w':=by
 have hbl:=hS.len
 refine En func243 Z (Rn 1 Z (Rn 1 Z (Sq (Rn 1 Z (Bk (WC.loop (ι:=Nat×Option Addr×Nat) (fun⟨k,f,d⟩=>[(0,.slice A n c),(3,.slice f k d),(4,J (k:Int))]) (fun⟨k,f,d⟩ wl=>k<=16/\Le w wl/\Own wl w.heap.size 25 1 f k d ((pq b k).map jL)) (fun⟨k,f,d⟩=>16-k) (0,none,0) ?_ ?_ ?_))))))
 ·exact .of Z
 ·exact⟨by omega,(Le.refl w),Own.empty _ _ _ _ _⟩
 rintro⟨k,f,d⟩ wl ⟨hk,Ll,ol⟩
 refine Sq (Rn 2 Z (WC.cond Z (fun D=>?_) (fun D=>?_)))
 ·refine Nb (WC.draw [0,1,2,3,4,5,6,7,8,9,10,11,12,13,14,15,16,17,18,19,20,21,22,23,24,25,26,27,28,29,30,31,32,33,34,35,36] mixed (by kernel_rfl) fun w5 s=>?_)
  have i:=Ll.trans s
  refine Xn 3 Z (Xp Z (Xu (4*k) Z (hS.isSome (by omega)) (Gd Z (.j3 Vs Z (hS.le i) (MR b (by omega))) (Gd Z (.yR (rG underlying5) underlying25 Z) (Ga Z (.EU 24 Z Z Z (by decide)) (Xn 2 Z (Xp Z (Xp Z (Xu (4*k+1) Z (hS.isSome (by omega)) ?_)))))))))
  refine Gd Z (.j3 Vs Z (hS.le i) (MR b (by omega))) (Gd Z (.yR (rG underlying5) underlying25 Z) (Ga Z (.EU 16 Z Z Z (by decide)) (Ga Z (.Jh Z Z) (Xn 2 Z (Xp Z (Xp Z (Xu (4*k+2) Z (hS.isSome (by omega)) (Gd Z (.j3 Vs Z (hS.le i) (MR b (by omega))) (Gd Z (.yR (rG underlying5) underlying25 Z) ?_)))))))))
  refine Ga Z (.EU 8 Z Z Z (by decide)) (Ga Z (.Jh Z Z) (Xn 2 Z (Xp Z (Xp Z (Xu (4*k+3) Z (hS.isSome (by omega)) (Gd Z (.j3 Vs Z (hS.le i) (MR b (by omega))) (Gd Z (.yR (rG underlying5) underlying25 Z) (Ga Z (.Jh Z Z) (G.ef Z Z Z Z Z ?_)))))))))
  refine Ef.mI underlying319 H5 Z Z fun al an ao F l=>?_
  have t:=i.trans l
  refine⟨fun _=>l,?_⟩
  refine G.ef Z Z Z Z Z (Ef.append underlying319 H5 Z ((ol.le s).le l) Z (F.Ji underlying319 Z) (by omega) (by unfold maxLen;omega) t.size ?_)
  intro H I K L N ap
  have O:Le w K:=t.ja N (fun q hq=>(ol.row hq).1)
  refine noT (by kernel_rfl) (Xn 1 Z (G.nil (E.jD (E.iM (Rg (Yn 1 Z (Yp Z (Yn 1 Z (W.nil (E.again (k+1,H,I) (.of Z) ?_ ?_))))))))))
  ·exact⟨by omega,O,L.cast Z (by rw[pq,if_pos (by omega),Ti];simp)⟩
  first|omega|(simp only[];omega)
 have P:k=16:=by omega
 subst P
 refine Ex (Sq (Rn 1 Z (Bk (WC.loop (ι:=Nat×Option Addr×Nat) (fun⟨k,f,d⟩=>[(3,.slice f k d),(5,J (k:Int))]) (fun⟨k,f,d⟩ wm=>16<=k/\k<=64/\Le w wm/\Own wm w.heap.size 25 1 f k d ((pq b k).map jL)) (fun⟨k,f,d⟩=>64-k) (16,f,d) ?_ ?_ ?_))))
 ·exact .of Z
 ·exact⟨by omega,by omega,Ll,ol⟩
 rintro⟨k,f,d⟩ wm ⟨aq,hk,Lm,ol⟩
 have hsl:=nQ b k
 refine Sq (Rn 2 Z (WC.cond Z (fun d=>?_) (fun d=>?_)))
 ·refine Nb (Rr 2 Z (Yp Z (Yu (k-15) Z (ol.sl.isSome (j:=0) (by omega) (by decide)) (Wr (.j3 qF Z ol.sl (qo _ (by omega))) Z (Yx 1 Z (Rr 2 Z (Yp Z (Yu (k-2) Z (ol.sl.isSome (j:=0) (by omega) (by decide)) (Wr (.j3 qF Z ol.sl (qo _ (by omega))) Z ?_)))))))))
  refine Yx 1 Z (Rr 1 Z (Yc Z (qP _ 7 wm (by omega)) fun Q u=>?_))
  have R:=Lm.trans u
  refine Yn 1 Z (Yc Z (qP _ 18 Q (by omega)) fun S v=>?_)
  have U:=R.trans v
  refine Wa (.qM Z Z) Z (Yn 1 Z (Wa (.EW 3 Z Z Z (by decide)) Z (Wa (.qM Z Z) Z (Yx 1 Z (Rr 1 Z (Yc Z (qP _ 17 S (by omega)) fun V x=>?_))))))
  have X:=U.trans x
  refine Yn 1 Z (Yc Z (qP _ 19 V (by omega)) fun ar y=>?_)
  have Y:=X.trans y
  refine Wa (.qM Z Z) Z (Yn 1 Z (Wa (.EW 10 Z Z Z (by decide)) Z (Wa (.qM Z Z) Z (Yx 1 Z (WC.draw [0,1,2,3,4,5,6,7,8,9,10,11,12,13,14,15,16,17,18] mixed (by kernel_rfl) ?_)))))
  intro au B
  have aa:=Y.trans B
  have m:=ol.le (u.trans (v.trans (x.trans (y.trans B))))
  refine Xn 3 Z (Xp Z (Xu (k-16) Z (ol.sl.isSome (j:=0) (by omega) (by decide)) (Gd Z (.j3 qF Z m.sl (qo _ (by omega))) (Xn 1 Z (Ga Z (.add32 Z Z) (Xn 2 Z (Xp Z (Xu (k-7) Z (ol.sl.isSome (j:=0) (by omega) (by decide)) (Gd Z (.j3 qF Z m.sl (qo _ (by omega))) ?_)))))))))
  refine Ga Z (.add32 Z Z) (Xn 1 Z (Ga Z (.add32 Z Z) (G.ef Z Z Z Z Z (Ef.mI underlying319 H5 Z Z fun av aw ax ac o=>?_))))
  have C:=aa.trans o
  refine⟨fun _=>o,?_⟩
  refine G.ef Z Z Z Z Z (Ef.append underlying319 H5 Z (m.le o) Z (ac.Ji underlying319 Z) (by omega) (by unfold maxLen;omega) C.size ?_)
  intro ad ae af ah ai ay
  have aj:Le w af:=C.ja ai (fun q hq=>(ol.row hq).1)
  refine noT (by kernel_rfl) (Xn 1 Z (G.nil (E.jD (E.iM (Rg (Yn 1 Z (Yp Z (Yn 1 Z (W.nil (E.again (k+1,ad,ae) (.of Z) ?_ ?_))))))))))
  ·exact⟨by omega,by omega,aj,ah.cast Z (by rw[pq,if_neg (by omega),Gr];simp)⟩
  first|omega|(simp only[];omega)
 have ak:k=64:=by omega
 subst ak
 refine Ex (Rn 2 Z (Rt (E.mP Z Z ?_)))
 exact⟨_,_,rfl,ol,Lm⟩
set_option maxHeartbeats 1000000 in
theorem Ua {Ab:Option Addr}{nb cb:Nat}{b:List Byte}{h:List Word} (w:World) (hl:h.length=8) (hH:Sl w 1 A 8 (h.map jL)) (hS:Sb w Ab nb b) (hn:nb=64):Calls prog 227 #[.slice A 8 c,.slice Ab nb cb] w fun e w'=>∃A' c',e= .returned (.slice A' 8 c')/\Own w' w.heap.size 25 1 A' 8 c' ((mix h b).map jL)/\Le w w':=by
 have hsl:(sched b).length=64:=nQ b 64
 unfold mix
 refine En func227 Z ?_
 have R:=Le.refl w
 refine Rn 1 Z (Rr 1 Z (Yd Z (T9 w (hS.le R) hn) ?_))
 rintro _ af ⟨A5,c5,rfl,o5,ah⟩
 have ai:=R.trans ah
 refine Yx 1 Z (Sr (Yd Z (Xm af) ?_))
 rintro _ aM ⟨A6,c6,rfl,o6,S⟩
 have aj:=ai.trans S
 refine Yx 1 Z (Sr (W.ef Z Z Z (Ef.oz underlying319 H5 fun aN ak aO aP u=>?_)))
 have x:=aj.trans u
 refine Yn 1 Z (W.ef Z Z Z (Ef.append underlying319 H5 Z (Own.empty ak w.heap.size 25 1 _) Z ((hH.le x).src underlying319 (by decide) _ (nT _)) (by omega) (by unfold maxLen;omega) x.size ?_))
 intro al an U ao y aQ
 have V:Le w U:=x.ja y (fun q hq=>by rw[jI]at hq;cases hq)
 have X:=((o5.le (S.trans u)).ch y (fun q hq=>by rw[jI]at hq;cases hq)).sl
 have s6:=((o6.le u).ch y (fun q hq=>by rw[jI]at hq;cases hq)).sl
 refine Yx 1 Z (Sq (Rn 1 Z (Bk (WC.loop (ι:=Nat×Option Addr×Nat) (fun⟨i,m,f⟩=>[(0,.slice A 8 c),(5,.slice A5 64 c5),(6,.slice A6 64 c6),(7,.slice m 8 f),(8,J (i:Int))]) (fun⟨i,m,f⟩ wl=>i<=64/\Le U wl/\Own wl w.heap.size 25 1 m 8 f ((mM h (sched b) i).map jL)) (fun⟨i,m,f⟩=>64-i) (0,al,an) ?_ ?_ ?_))))
 ·exact .of Z
 ·exact⟨by omega,Le.refl _,ao.cast Z (List.nil_append _)⟩
 rintro⟨i,m,f⟩ wl ⟨hi,Ll,ov⟩
 have hvl:=x9 h (sched b) hl i
 obtain⟨v,hv⟩:∃v,v=mM h (sched b) i:=⟨_,rfl⟩
 rw[<-hv]at ov hvl
 have d:m.isSome=true:=ov.sl.isSome (j:=0) (by omega) (by decide)
 refine Sq (Rn 2 Z (WC.cond Z (fun c0=>?_) (fun c0=>?_)))
 ·refine Nb (Sq (WC.draw [0,1,2,4,5,6,9,10,11,3,7,8,12,13,14] mixed (by kernel_rfl) fun w7 B=>?_))
  have L7:=(V.trans Ll).trans B
  have C:=(ov.le B).sl
  refine Xn 1 Z (Xu 4 Z d (Gd Z (.j3 qF Z C (qo _ (by omega))) (Xn 1 Z (Xu 4 Z d (Gd Z (.j3 qF Z C (qo _ (by omega))) (Xn 1 Z (Xu 4 Z d (Gd Z (.j3 qF Z C (qo _ (by omega))) (Xc Z (qP _ 6 w7 (by omega)) fun ap D=>?_)))))))))
  have aq:=L7.trans D
  refine Xc Z (qP _ 11 ap (by omega)) fun ar F=>?_
  have au:=aq.trans F
  refine Ga Z (.qM Z Z) (Xc Z (qP _ 25 ar (by omega)) fun aR H=>?_)
  have av:=au.trans H
  refine Ga Z (.qM Z Z) (Xx 1 Z (Sq (WC.draw [0,1,2,3,4,5,6,7,8,9,10,11,12,13,14,15,16] mixed (by kernel_rfl) fun w8 Y=>?_)))
  have LL:=B.trans (D.trans (F.trans (H.trans Y)))
  have t:=(ov.le LL).sl
  refine Xn 1 Z (Xu 4 Z d (Gd Z (.j3 qF Z t (qo _ (by omega))) (Xn 1 Z (Xu 5 Z d (Gd Z (.j3 qF Z t (qo _ (by omega))) (Ga Z (.ET Z Z) (Xn 1 Z (Xu 4 Z d (Gd Z (.j3 qF Z t (qo _ (by omega))) ?_)))))))))
  refine Ga Z (.aeM Z) (Xn 1 Z (Xu 6 Z d (Gd Z (.j3 qF Z t (qo _ (by omega))) (Ga Z (.ET Z Z) (Ga Z (.qM Z Z) (Xx 1 Z (Sq (WC.draw [0,1,2,3,4,5,6,7,8,9,10,11,12,13,14,15,16,17] mixed (by kernel_rfl) ?_))))))))
  intro w9 d9
  have LL:=LL.trans d9
  have v9:=(ov.le LL).sl
  refine Xn 1 Z (Xu 7 Z d (Gd Z (.j3 qF Z v9 (qo _ (by omega))) (Xn 1 Z (Ga Z (.add32 Z Z) (Xn 1 Z (Ga Z (.add32 Z Z) (Xn 2 Z (Xu i Z (s6.isSome (j:=0) (by omega) (by decide)) (Gd Z (.j3 qF Z (s6.le (Ll.trans LL)) (qo _ (by show i<64;omega))) ?_)))))))))
  refine Ga Z (.add32 Z Z) (Xn 2 Z (Xu i Z (X.isSome (j:=0) (by omega) (by decide)) (Gd Z (.j3 qF Z (X.le (Ll.trans LL)) (qo _ (by rw[hsl];omega))) (Ga Z (.add32 Z Z) (Xx 1 Z (Sq (WC.draw [0,1,2,4,5,6,9,10,11,3,7,8,12,13,14] mixed (by kernel_rfl) fun aw aa=>?_)))))))
  have ax:=((av.trans Y).trans d9).trans aa
  have LL:=LL.trans aa
  have I:=(ov.le LL).sl
  refine Xn 1 Z (Xu 0 Z d (Gd Z (.j3 qF Z I (qo _ (by omega))) (Xn 1 Z (Xu 0 Z d (Gd Z (.j3 qF Z I (qo _ (by omega))) (Xn 1 Z (Xu 0 Z d (Gd Z (.j3 qF Z I (qo _ (by omega))) (Xc Z (qP _ 2 aw (by omega)) fun ay K=>?_)))))))))
  have az:=ax.trans K
  refine Xc Z (qP _ 13 ay (by omega)) fun aA L=>?_
  have aB:=az.trans L
  refine Ga Z (.qM Z Z) (Xc Z (qP _ 22 aA (by omega)) fun aS N=>?_)
  have aC:=aB.trans N
  refine Ga Z (.qM Z Z) (Xx 1 Z (Sq (WC.draw [0,1,2,3,4,5,6,7,8,9,10,11,12,13,14,15,16,17,18,19,20,21,22,23] mixed (by kernel_rfl) fun aT ac=>?_)))
  have LL:=LL.trans (K.trans (L.trans (N.trans ac)))
  have o:=(ov.le LL).sl
  refine Xn 1 Z (Xu 0 Z d (Gd Z (.j3 qF Z o (qo _ (by omega))) (Xn 1 Z (Xu 1 Z d (Gd Z (.j3 qF Z o (qo _ (by omega))) (Ga Z (.ET Z Z) (Xn 1 Z (Xu 0 Z d (Gd Z (.j3 qF Z o (qo _ (by omega))) ?_)))))))))
  refine Xn 1 Z (Xu 2 Z d (Gd Z (.j3 qF Z o (qo _ (by omega))) (Ga Z (.ET Z Z) (Ga Z (.qM Z Z) (Xn 1 Z (Xu 1 Z d (Gd Z (.j3 qF Z o (qo _ (by omega))) (Xn 1 Z (Xu 2 Z d ?_)))))))))
  refine Gd Z (.j3 qF Z o (qo _ (by omega))) (Ga Z (.ET Z Z) (Ga Z (.qM Z Z) (Xx 1 Z (WC.draw [0,1,2,3,4,5,6,7,8,9,10,11,12,13,14,15,16,17,18,19,20,21,22,23,24,25,26,27,28,29] mixed (by kernel_rfl) fun aU O=>?_))))
  have ad:=(aC.trans ac).trans O
  have l:=(ov.le (LL.trans O)).sl
  refine Xn 2 Z (Ga Z (.add32 Z Z) (Xn 1 Z (Ga Z (.add32 Z Z) (Xn 1 Z (Xu 0 Z d (Gd Z (.j3 qF Z l (qo _ (by omega))) (Xn 1 Z (Xu 1 Z d (Gd Z (.j3 qF Z l (qo _ (by omega))) ?_)))))))))
  refine Xn 1 Z (Xu 2 Z d (Gd Z (.j3 qF Z l (qo _ (by omega))) (Xn 1 Z (Xu 3 Z d (Gd Z (.j3 qF Z l (qo _ (by omega))) (Xn 1 Z (Ga Z (.add32 Z Z) (Xn 1 Z (Xu 4 Z d ?_)))))))))
  refine Gd Z (.j3 qF Z l (qo _ (by omega))) (Xn 1 Z (Xu 5 Z d (Gd Z (.j3 qF Z l (qo _ (by omega))) (Xn 1 Z (Xu 6 Z d (Gd Z (.j3 qF Z l (qo _ (by omega))) (G.ef Z Z Z Z Z (Ef.lQ [_,_,_,_,_,_,_,_] underlying319 H5 Z (adH _ _ _ _ _ _ _ _) Z (by decide) (by decide) fun aV aW aD aE P=>?_))))))))
  have aX:=ad.trans P
  refine⟨fun _=>P,?_⟩
  refine Xn 1 Z (G.nil (E.jD (E.iM (Rg (Yn 1 Z (Yp Z (Yn 1 Z (W.nil (E.again (i+1,_,_) (.of Z) ?_ ?_)))))))))
  ·exact⟨by omega,Ll.trans (LL.trans (O.trans P)),(aE.own (s:=1) (n:=8) (Nat.le_trans ad.size aD) Z (by unfold maxLen;omega)).cast Z (by rw[mM,<-hv,stepW];simp[Tg,ZR])⟩
  first|omega|(simp only[];omega)
 rw[hv]at ov hvl
 have aF:i=64:=by omega
 subst aF
 obtain⟨g7,rfl,aG,_,_⟩:=ov.lit (by omega)
 refine Ex (Sq (Rn 1 Z (Bk (WC.loop (ι:=Nat) (fun j=>[(0,.slice A 8 c),(7,.slice (some ⟨g7,0,none⟩) 8 f),(14,J (j:Int))]) (fun j wm=>j<=8/\Le w wm/\Own wm w.heap.size 25 1 (some ⟨g7,0,none⟩) 8 f ((vC (mM h (sched b) 64) h j).map jL)) (fun j=>8-j) 0 ?_ ?_ ?_))))
 ·exact .of Z
 ·exact⟨by omega,(V.trans Ll),ov.cast Z (by rw[Gs _ _ hvl])⟩
 rintro j wm ⟨hj,Lm,ov⟩
 have hal:=ql (mM h (sched b) 64) h j
 refine Sq (Rn 2 Z (WC.cond Z (fun c1=>?_) (fun c1=>?_)))
 ·refine Nb (WC.draw [0,1,2,3,4,5,6,7,8,9,10,11,12] mixed (by kernel_rfl) fun aY Q=>?_)
  have ae:=Lm.trans Q
  refine Xn 4 Z (Xu j Z Z (Gd Z (.j3 qF Z ((ov.le Q).sl) ((qo (vC (mM h (sched b) 64) h j) (k:=j) (by omega)).trans (by rw[Mr _ _ _ _ (by omega),if_neg (by omega)]))) (Xn 2 Z (Xu j Z (hH.isSome (j:=0) (by omega) (by decide)) (Gd Z (.j3 qF Z (hH.le ae) (qo _ (by omega))) (Ga Z (.add32 Z Z) (Ga Z (.VV j underlying319 NL Z Z Z (by omega)) (G.jR Z Z Z Z (Ef.ac5 NL Z Z (ov.le Q) (by omega) Z fun aH aI aJ=>?_)))))))))
  have aK:Le w aH:=ae.ja aJ (fun q hq=>by cases hq;exact aG)
  refine noT (by kernel_rfl) (G.nil (E.jD (E.iM (Rg (Yn 1 Z (Yp Z (Yn 1 Z (W.nil (E.again (j+1) (.of Z) ?_ ?_)))))))))
  ·exact⟨by omega,aK,aI.cast Z (by rw[<-Gt _ _ j (by omega)];simp)⟩
  first|omega|(simp only[];omega)
 have aL:j=8:=by omega
 subst aL
 refine Ex (Rn 2 Z (Rt (E.mP Z Z ?_)))
 exact⟨_,_,rfl,ov,Lm⟩
theorem N7 (m:Nat)(w:World)(_hm:m<18446744073709551616):Calls prog 200 #[.int .u64 (m:Int)] w fun e w'=>∃A' c',e= .returned (.slice A' 8 c')/\Own w' w.heap.size 5 1 A' 8 c' ((vB m).map jf)/\Le w w':=by
 refine En func200 Z (Rn 1 Z (Rn 1 Z (Sq (Rn 1 Z (Bk (WC.loop (ι:=Nat×Option Addr×Nat) (fun⟨k,c,d⟩=>[(0,.int .u64 (m:Int)),(3,.slice c k d),(4,J (56-8*(k:Int)))]) (fun⟨k,c,d⟩ wl=>k<=8/\Le w wl/\Own wl w.heap.size 5 1 c k d ((rH m k).map jf)) (fun⟨k,c,d⟩=>8-k) (0,none,0) ?_ ?_ ?_))))))
 ·exact .of Z
 ·exact⟨by omega,(Le.refl w),Own.empty _ _ _ _ _⟩
 rintro⟨k,c,d⟩ wl ⟨hk,Ll,ol⟩
 refine Sq (Rn 2 Z (WC.cond Z (fun j=>?_) (fun j=>?_)))
 ·refine Nb (Rg (Yn 3 Z (Wa (.Pw m (56-8*k) Z Z Z (by omega) (by show 56-8*k<=64;omega)) Z (Wr (.toU8 (m>>>(56-8*k)) (rG underlying53) underlying5 Z Z) Z (W.ef Z Z Z (Ef.mI underlying78 xD Z Z fun y A B l f=>?_))))))
  have i:=Ll.trans f
  refine W.ef Z Z Z (Ef.append underlying78 xD Z (ol.le f) Z (l.Ji underlying78 Z) (by omega) (by unfold maxLen;omega) i.size ?_)
  intro n o s t u C
  have v:Le w s:=i.ja u (fun q hq=>(ol.row hq).1)
  refine Yn 1 Z (W.nil (E.jD (E.iM (Rg (Yn 1 Z (Yp Z (Yn 1 Z (W.nil (E.again (k+1,n,o) (.cons Z (.cons Z (.cons' Z (int_eq (by omega)) (.nil _)))) ?_ ?_)))))))))
  ·exact⟨by omega,v,t.cast Z (by rw[xE m k (by omega)];simp)⟩
  first|omega|(simp only[];omega)
 have x:k=8:=by omega
 subst x
 refine Ex (Rn 2 Z (Rt (E.mP Z Z ?_)))
 exact⟨_,_,rfl,ol,Ll⟩
theorem Qa (w:World)(hS:Sb w A n xs)(hn:n<=35184372088832):Calls prog 225 #[.slice A n c] w fun e w'=>∃A' c',e= .returned (.slice A' (n+1+noughts n+8) c')/\Own w' w.heap.size 5 1 A' (n+1+noughts n+8) c' ((BD xs).map jf)/\Le w w':=by
 have hl:=hS.len
 have v:noughts n<=63:=by unfold noughts;omega
 refine En func225 Z ?_
 have x:=Le.refl w
 refine Rn 1 Z (Sr (W.ef Z Z Z (Ef.oz underlying78 xD fun al y an ao B=>?_)))
 have i:=x.trans B
 refine Yn 1 Z (W.ef Z Z Z (Ef.append underlying78 xD Z (Own.empty y w.heap.size 5 1 _) Z ((hS.le i).src underlying78 _) (by omega) (by unfold maxLen;omega) i.size ?_))
 intro ap aq C j D ar
 have F:Le w C:=i.ja D (fun q hq=>by rw[jI]at hq;cases hq)
 refine Yx 1 Z (Rr 1 Z (W.ef Z Z Z (Ef.mI underlying78 xD Z Z fun au av aw H l=>?_)))
 have m:=F.trans l
 refine W.ef Z Z Z (Ef.append underlying78 xD Z (j.le l) Z (H.Ji underlying78 Z) (by omega) (by unfold maxLen;omega) m.size ?_)
 intro I K L N O ax
 have P:Le w L:=m.ja O (fun q hq=>(j.row hq).1)
 refine Yx 1 Z (Sq (Bk (WC.loop (ι:=Nat×Option Addr×Nat) (fun⟨k,d,f⟩=>[(0,.slice A n c),(3,.slice d (n+1+k) f)]) (fun⟨k,d,f⟩ wl=>k<=noughts n/\Le w wl/\Own wl w.heap.size 5 1 d (n+1+k) f ((xs++[128]++List.replicate k 0).map jf)) (fun⟨k,d,f⟩=>64-k) (0,I,K) ?_ ?_ ?_)))
 ·exact .cons Z (.cons' Z (oK (by omega)) (.nil _))
 ·exact⟨Nat.zero_le _,P,N.cast (by omega) (by simp;rfl)⟩
 rintro⟨k,d,f⟩ wl ⟨hk,Ll,ol⟩
 have v:noughts n<=63:=by unfold noughts;omega
 refine Sq (Rr 2 Z (Wa (.rem Z Z (by omega)) Z (Yx 1 Z (WC.cond Z (fun Q=>?_) (fun Q=>?_)))))
 ·refine Sn (Bk (Rg (Yn 1 Z (W.ef Z Z Z (Ef.mI underlying78 xD Z Z fun ay az aA R o=>?_)))))
  have s:=Ll.trans o
  refine W.ef Z Z Z (Ef.append underlying78 xD Z (ol.le o) Z (R.Ji underlying78 Z) (by omega) (by unfold maxLen;omega) s.size ?_)
  intro S U V X Y aB
  have aa:Le w V:=s.ja Y (fun q hq=>(ol.row hq).1)
  refine Yn 1 Z (W.nil (E.jD (E.again (k+1,S,U) (.cons Z (.cons' Z (oK (by omega)) (.nil _))) ?_ ?_)))
  ·exact⟨by unfold noughts at*;omega,aa,X.cast (by omega) (by simp[List.replicate_succ'];rfl)⟩
  first|omega|(simp only[];omega)
 have hkn:k=noughts n:=by unfold noughts at*;omega
 subst hkn
 refine Ex (Rr 2 Z (Wr (.vW (i':=(n:Int)) (rG underlying3) underlying53 Z (by rw[wrap_u64];omega)) Z (Wa (.ahb Z Z (by omega)) Z (Yx 1 Z (Sq (Rn 1 Z (Bk (WC.loop (ι:=Nat×Option Addr×Nat) (fun⟨k,d,cz⟩=>[(3,.slice d (n+1+noughts n+k) cz),(4,.int .u64 (8*(n:Int))),(5,J (56-8*(k:Int)))]) (fun⟨k,d,cz⟩ wm=>k<=8/\Le w wm/\Own wm w.heap.size 5 1 d (n+1+noughts n+k) cz ((xs++[128]++List.replicate (noughts n) 0++rH (8*n) k).map jf)) (fun⟨k,d,cz⟩=>8-k) (0,d,f) ?_ ?_ ?_))))))))
 ·exact .of Z
 ·exact⟨by omega,Ll,ol.cast Z (by simp[rH])⟩
 rintro⟨k,d,cz⟩ wm ⟨hk,Lm,ol⟩
 refine Sq (Rn 2 Z (WC.cond Z (fun f=>?_) (fun f=>?_)))
 ·refine Nb (Rg (Yn 3 Z (Wa (.Pw (8*n) (56-8*k) Z (by omega) Z (by omega) (by show 56-8*k<=64;omega)) Z (Wr (.toU8 ((8*n)>>>(56-8*k)) (rG underlying53) underlying5 Z Z) Z (W.ef Z Z Z (Ef.mI underlying78 xD Z Z fun aC aD aE ac t=>?_))))))
  have u:=Lm.trans t
  refine W.ef Z Z Z (Ef.append underlying78 xD Z (ol.le t) Z (ac.Ji underlying78 Z) (by omega) (by unfold maxLen;omega) u.size ?_)
  intro ad ae af ah ai aF
  have aj:Le w af:=u.ja ai (fun q hq=>(ol.row hq).1)
  refine Yn 1 Z (W.nil (E.jD (E.iM (Rg (Yn 1 Z (Yp Z (Yn 1 Z (W.nil (E.again (k+1,ad,ae) (.cons Z (.cons Z (.cons' Z (int_eq (by omega)) (.nil _)))) ?_ ?_)))))))))
  ·exact⟨by omega,aj,ah.cast Z (by rw[xE (8*n) k (by omega)];simp)⟩
  first|omega|(simp only[];omega)
 have ak:k=8:=by omega
 subst ak
 refine Ex (Rn 2 Z (Rt (E.mP Z Z ?_)))
 exact⟨_,_,rfl,ol.cast Z (by rw[BD,hl];rfl),Lm⟩
set_option maxHeartbeats 1000000 in
theorem aaz (w:World) (hS:Sb w A n xs) (hn:n<=35184372088832):Calls prog 201 #[.slice A n c] w fun e w'=>e= .returned (.agg ((sum xs).map jf).toArray)/\Le w w':=by
 have an:noughts n<=63:=by unfold noughts;omega
 refine En func201 Z ?_
 have K:=Le.refl w
 refine Sr (Yz Z z23 fun l x L y O=>?_)
 have B:=K.trans O
 have f:ik x l 23 ((List.replicate 32 0#8).map jf).toArray:=y
 refine Nx (Rr 1 Z (Yd Z (Qa x (hS.le B) hn) ?_))
 rintro _ P ⟨Q,m,rfl,C,t⟩
 have R:=B.trans t
 have hP:=C.sb
 have hPl:=hP.len
 have hPm:=VJ xs
 have hPc:=C.cap
 rw[hPl]at hPm
 obtain⟨N,hN⟩:∃N,N=n+1+noughts n+8:=⟨_,rfl⟩
 rw[<-hN]at hP hPl hPm hPc ⊢
 refine Yx 1 Z (Sr (Yd Z (P9 P) ?_))
 rintro _ S ⟨U,V,rfl,X,o⟩
 have i:=R.trans o
 refine Yx 1 Z (Sq (Rn 1 Z (Bk (WC.loop (ι:=Nat×Option Addr×Nat×List Word) (fun⟨j,Ah,ch,hh⟩=>[(2,.pointer (some ⟨l,0,none⟩)),(3,.slice Q N m),(4,.slice Ah 8 ch),(5,J (64*(j:Int)))]) (fun⟨j,Ah,ch,hh⟩ wl=>64*j<=N/\Le S wl/\hh.length=8/\Sl wl 1 Ah 8 (hh.map jL)/\lK hh ((BD xs).drop (64*j))=lK first (BD xs)) (fun⟨j,Ah,ch,hh⟩=>N-64*j) (0,U,V,first) ?_ ?_ ?_))))
 ·exact .of Z
 ·exact⟨by omega,Le.refl _,rfl,X.sl,rfl⟩
 rintro⟨j,Ah,ch,hh⟩ wl ⟨hj,Ll,Zz,sh,hmx⟩
 refine Sq (Rn 4 Z (WC.cond Z (fun Y=>?_) (fun Y=>?_)))
 ·have hjN:64*j+64<=N:=by omega
  refine Nb (Rg (Yn 4 Z (Yp Z (Wa (.cut (64*j) (64*j+64) underlying78 yC Z Z (by omega) Z (by omega) (by omega) (by omega)) Z (Yd Z (Ua wl Zz sh (((hP.le (o.trans Ll)).cut m (64*j) (64*j+64) (by omega) (by omega) hPc.1).cast Z (show _=((BD xs).drop (64*j)).take 64 by rw[show 64*j+64-64*j=64 by omega])) (by omega)) ?_)))))
  rintro _ ao ⟨A6,c6,rfl,o6,D⟩
  have ap:=(i.trans Ll).trans D
  refine Yn 1 Z (W.nil (E.jD (E.iM (Rg (Yn 1 Z (Yp Z (Yn 1 Z (W.nil (E.again (j+1,A6,c6,mix hh (((BD xs).drop (64*j)).take 64)) (.cons Z (.cons Z (.cons Z (.cons' Z (int_eq (by omega)) (.nil _))))) ?_ ?_)))))))))
  ·exact⟨by omega,Ll.trans D,qX _ _,o6.sl,by rw[<-hmx,tH hh ((BD xs).drop (64*j)) (by rw[List.length_drop];omega),List.drop_drop]<;>(try congr 2)<;>(try omega)⟩
  first|omega|(simp only[];omega)
 have hjN:64*j=N:=by omega
 have hhe:hh=lK first (BD xs):=by rw[<-hmx,uM _ _ (by rw[List.length_drop];omega)]
 refine Ex (Sr (Yz Z z23 fun d F u aa v=>?_))
 have H:=(i.trans Ll).trans v
 have s:ik F d 23 ((List.replicate 32 0#8).map jf).toArray:=aa
 have f:=f.le (t.trans (o.trans (Ll.trans v)))
 have aq:l<d:=by have:=y.lt;have:=t.size;have:=o.size;have:=Ll.size;omega
 refine Nx (Sq (Sr ?_))
 have ah9:lN Ah≠some d:=by
  obtain⟨ad,rfl,ac⟩:=sh.2 0 (jL (hh.getD 0 0)) (qo _ (by omega))
  have:=block_lt_of_cell ac
  simp[lN]at this ⊢;have h0:(ad.add 0).block=ad.block:=by simp[Addr.add]
  omega
 refine Yx 1 Z (Bk (WC.loop (ι:=Nat) (fun k=>[(2,.pointer (some ⟨l,0,none⟩)),(4,.slice Ah 8 ch),(6,.pointer (some ⟨d,0,none⟩)),(7,J (k:Int))]) (fun k wr=>k<=32/\Ch F wr (some d)/\ik wr d 23 ((rJ hh k).map jf).toArray) (fun k=>32-k) 0 ?_ ?_ ?_))
 ·exact .of Z
 ·exact⟨by omega,Ch.refl _ _,s⟩
 rintro k wr ⟨hk,Cr,s⟩
 have hdl:=yc hh k hk
 have f:=f.ch Cr (by simp;omega)
 have sh:=(sh.le v).ch Cr (fun q hq=>by cases hq;exact ah9)
 refine Sq (Rn 2 Z (WC.cond Z (fun m=>?_) (fun m=>?_)))
 ·refine Nb (Rg (Yn 3 Z (Wa (.quo Z Z (by omega)) Z (Yu (k/4) Z (sh.isSome (j:=0) (by omega) (by decide)) (Wr (.j3 qF Z sh (qo _ (by omega))) Z (Yn 1 Z (Wa (.rem Z Z (by omega)) Z (Yp Z (Yp Z ?_)))))))))
  refine Wa (.EW (24-8*(k%4)) Z Z (by omega) (by omega)) Z (Wr (.VT (rG underlying25) underlying5 Z) Z (Yo k Z (W.jR Z Z (Ef.store yC Z Z s (by simp;omega) Z ?_))))
  intro ae af I
  have ar:Le w ae:=(H.ja Cr (fun q hq=>by cases hq;exact Nat.le_trans (i.trans Ll).size u)).ja I (fun q hq=>by cases hq;exact Nat.le_trans (i.trans Ll).size u)
  refine W.nil (E.jD (E.iM (Rg (Yn 1 Z (Yp Z (Yn 1 Z (W.nil (E.again (k+1) (.of Z) ?_ ?_))))))))
  ·exact⟨by omega,Cr.trans I,af.cast (by rw[<-AQ hh k (by omega)];apply Array.ext';simp)⟩
  first|omega|(simp only[];omega)
 have ah:k=32:=by omega
 subst ah
 refine Ex (Sr (Wr (.jM ug (by simp[hdl]) Z s) Z (W.jR Z Z (Ef.storeAll zb (by simp[hdl]) Z Z f (by simp[hdl]) (rT _) ?_))))
 intro ai aj ak
 have al:Le w ai:=(H.ja Cr (fun q hq=>by cases hq;exact Nat.le_trans (i.trans Ll).size u)).ja ak (fun q hq=>by cases hq;exact L)
 refine Nx (Rt (E.MQ Z Z aj ug (by simp[hdl]) ?_))
 exact⟨by rw[ZT,<-hhe];simp[rJ,List.take_of_length_le,qJ],al⟩
theorem Ub (xs key:List Byte)(k:Nat)(h:k<key.length):(xs++key.take k).map jf++[jf (key.getD k 0)]=(xs++key.take (k+1)).map jf:=by
 have e:key.take (k+1)=key.take k++[key.getD k 0]:=by rw[List.take_add_one,List.getElem?_eq_getElem h,show key.getD k 0=key[k] by simp[List.getD,h]];rfl
 rw[e,<-List.append_assoc,List.map_append (l₁:=xs++key.take k)];rfl
set_option maxHeartbeats 1000000 in
theorem aaA (name:ByteArray) (nm:List Byte) (w:World) (hnm:byteCells name=nm.map jf) (hV:Sl w 1 A n vs) (hP:Parts w vs ps) (hT:(kY nm ps).length<=1099511627776):Calls prog 149 #[.string name,.slice A n c] w fun e w'=>e= .returned (.agg ((tag nm ps).map jf).toArray)/\Le w w':=by
 have hns:name.size=nm.length:=by have:=congrArg List.length hnm;simpa[byteCells_length]using this
 have hnl:nm.length=name.size:=hns.symm
 have hvl:=hV.1
 have hpl:=hP.1
 have hpn:=yJ nm ps
 have hle:=wF nm ps 0
 rw[pK]at hle
 simp[iL]at hle
 refine En func149 Z ?_
 have K:=Le.refl w
 refine Sr (Yz Z z23 fun D m L F N=>?_)
 have d:=K.trans N
 have t:ik m D 23 ((List.replicate 32 0#8).map jf).toArray:=F
 have ap:=t.lt
 refine Nx (Rr 1 Z (Wr (.VS underlying9 Z) Z (Wr (.vW (i':=(name.size:Int)) (rG underlying3) underlying53 Z (by rw[wrap_u64];omega)) Z (Yd Z (N7 name.size m (by omega)) ?_))))
 rintro _ aq ⟨A1,c1,rfl,o,s⟩
 have O:=d.trans s
 refine Yn 1 Z (W.ef Z Z Z (Ef.VY underlying9 underlying78 underlying5 Z fun A2 c2 ar P _ f=>?_))
 have Q:=O.trans f
 refine W.ef Z Z Z (Ef.append underlying78 xD Z (o.le f) Z (P.src underlying78 (by decide) _ (fun u hu=>by rw[hnm]at hu;exact rT _ u hu)) (by omega) (by unfold maxLen;omega) (Nat.le_trans s.size f.size) ?_)
 intro R S U V x au
 have av:Le w U:=Q.ja x (fun q hq=>Nat.le_trans d.size (o.row hq).1)
 have X:=V.mono (Nat.le_refl _)
 have t:=t.le (s.trans f)|>.ch x (o.rl (by omega))
 refine Yx 1 Z (Sq (Rn 1 Z (Bk (WC.loop (ι:=Nat×Option Addr×Nat) (fun⟨k,i,j⟩=>[(1,.slice A n c),(4,.pointer (some ⟨D,0,none⟩)),(5,.slice i (pz nm ps k).length j),(6,J (k:Int))]) (fun⟨k,i,j⟩ wl=>k<=n/\Le m wl/\Own wl m.heap.size 5 1 i (pz nm ps k).length j ((pz nm ps k).map jf)) (fun⟨k,i,j⟩=>n-k) (0,R,S) ?_ ?_ ?_))))
 ·exact .cons Z (.cons Z (.cons' Z (oK (by rw[pK];simp[iL,hnl])) (.cons Z (.nil _))))
 ·exact⟨Nat.zero_le _,(s.trans f).ja x (fun q hq=>(o.row hq).1),X.cast (by rw[pK];simp[iL,hnl]) (by rw[pK,hnm,hnl];simp)⟩
 rintro⟨k,i,j⟩ wl ⟨hk,Ll,ol⟩
 have hTk:(pz nm ps k).length<=1099511627776:=Nat.le_trans (wF nm ps k) hT
 refine Sq (Rn 4 Z (WC.cond Z (fun Y=>?_) (fun Y=>?_)))
 ·have hkn:k<n:=by omega
  obtain⟨q,hq⟩:∃q,ps[k]? =some q:=⟨_,List.getElem?_eq_getElem (by omega)⟩
  obtain⟨v,hv⟩:∃v,vs[k]? =some v:=⟨_,List.getElem?_eq_getElem (by omega)⟩
  obtain⟨Aq,cq,rfl,aa⟩:=hP.2 k v q hv hq
  have hsucc:=Gu nm ps k q hq
  have aw:(pz nm ps (k+1)).length<=1099511627776:=Nat.le_trans (wF nm ps (k+1)) hT
  have hsl:(pz nm ps (k+1)).length=(pz nm ps k).length+8+q.length:=by rw[hsucc];simp[iL];omega
  refine Nb (Rr 2 Z (Yu k Z (hV.isSome hkn (by decide)) (Wr (.j3 WK Z (hV.le (d.trans Ll)) hv) Z (Yn 1 Z (Wr (.vW (i':=(q.length:Int)) (rG underlying3) underlying53 Z (by rw[wrap_u64];omega)) Z (Yd Z (N7 q.length wl (by omega)) ?_))))))
  rintro _ ax ⟨A4,c4,rfl,o4,l⟩
  have ac:=(d.trans Ll).trans l
  refine Yx 1 Z (Rr 2 Z (W.ef Z Z Z (Ef.append underlying78 xD Z (ol.le l) Z (o4.sb.src underlying78 _) (by omega) (by unfold maxLen;omega) (Nat.le_trans Ll.size l.size) ?_)))
  intro ay az ad y B aA
  have C:Le w ad:=ac.ja B (fun q hq=>Nat.le_trans d.size (ol.row hq).1)
  refine Yx 1 Z (Rg (Yn 3 Z (Yu k Z (hV.isSome hkn (by decide)) (Wr (.j3 WK Z (hV.le C) hv) Z (W.ef Z Z Z (Ef.append underlying78 xD Z y Z ((aa.le C).src underlying78 _) (by omega) (by unfold maxLen;omega) (Nat.le_trans (Nat.le_trans Ll.size l.size) B.size) ?_))))))
  intro ae af ah ai H aB
  have aC:Le w ah:=C.ja H (fun q hq=>Nat.le_trans d.size (y.row hq).1)
  refine Yn 1 Z (W.nil (E.jD (E.iM (Rg (Yn 1 Z (Yp Z (Yn 1 Z (W.nil (E.again (k+1,ae,af) (.cons Z (.cons Z (.cons' Z (oK (by rw[hsucc];simp[iL];omega)) (.cons Z (.nil _))))) ?_ ?_)))))))))
  ·exact⟨by omega,(Le.ja (Le.ja (Ll.trans l) B (fun q hq=>(ol.row hq).1)) H (fun q hq=>(y.row hq).1)),ai.cast (by rw[hsucc];simp[iL];omega) (by rw[hsucc];simp)⟩
  first|omega|(simp only[];omega)
 have hkn:k=n:=by omega
 refine Ex (Rr 1 Z (Yc Z (aaz wl ol.sb (by omega)) fun aD I=>?_))
 have aj:=(d.trans Ll).trans I
 refine W.jR Z Z (Ef.storeAll zb (by simp[mO]) Z Z (F.le (Ll.trans I)) (by simp[mO]) (rT _) ?_)
 intro ak al an
 have ao:Le w ak:=aj.ja an (fun q hq=>by cases hq;exact L)
 refine Nx (Rt (E.MQ Z Z al ug (by simp[mO]) ?_))
 exact⟨by rw[tag,Ju nm ps k (by omega)],ao⟩
theorem Qb (key:List Byte)(hk:key.length=32){A:Option Addr}{n c:Nat}{xs:List Byte}(w:World)(hS:Sb w A n xs)(hn:n<=35184372088832):Calls prog 150 #[.slice A n c,.agg (key.map jf).toArray] w fun e w'=>∃A' c',e= .returned (.slice A' (n+32) c')/\Own w' w.heap.size 5 1 A' (n+32) c' ((xs++key).map jf)/\Le w w':=by
 refine En func150 Z ?_
 have v:=Le.refl w
 refine Sr (Yv Z fun x m S o y=>?_)
 have d:=v.trans y
 refine Yx 1 Z (Sr (W.ef Z Z Z (Ef.oz underlying78 xD fun U B V X j=>?_)))
 have t:=d.trans j
 refine Yn 1 Z (W.ef Z Z Z (Ef.append underlying78 xD Z (Own.empty B m.heap.size 5 1 _) Z ((hS.le t).src underlying78 _) (by omega) (by unfold maxLen;omega) j.size ?_))
 intro C D F H s Y
 have aa:Le w F:=t.ja s (fun q hq=>by rw[jI]at hq;cases hq)
 have b0:=(o.le j).ch s (by rw[jI];simp)
 have ac:=o.lt
 refine Yx 1 Z (Sq (Rn 1 Z (Bk (WC.loop (ι:=Nat×Option Addr×Nat) (fun⟨k,f,i⟩=>[(3,.pointer (some ⟨x,0,none⟩)),(5,.slice f (n+k) i),(6,J (k:Int))]) (fun⟨k,f,i⟩ wl=>k<=32/\Le m wl/\Own wl m.heap.size 5 1 f (n+k) i ((xs++key.take k).map jf)) (fun⟨k,f,i⟩=>32-k) (0,C,D) ?_ ?_ ?_))))
 ·exact .cons Z (.cons' Z (oK (by omega)) (.cons Z (.nil _)))
 ·exact⟨by omega,j.ja s (fun q hq=>by rw[jI]at hq;cases hq),H.cast (by omega) (by simp)⟩
 rintro⟨k,f,i⟩ wl ⟨ad,Ll,ol⟩
 refine Sq (Rn 2 Z (WC.cond Z (fun I=>?_) (fun I=>?_)))
 ·refine Nb (Rg (Yn 2 Z (Yo k Z (Yl Z (o.le Ll) (JB _ (by omega)) (W.ef Z Z Z (Ef.mI underlying78 xD Z Z fun ae af ah K l=>?_))))))
  have L:=(d.trans Ll).trans l
  refine W.ef Z Z Z (Ef.append underlying78 xD Z (ol.le l) Z (K.Ji underlying78 Z) (by omega) (by unfold maxLen;omega) (Nat.le_trans Ll.size l.size) ?_)
  intro N O P Q u ai
  have aj:Le w P:=L.ja u (fun q hq=>Nat.le_trans d.size (ol.row hq).1)
  refine Yn 1 Z (W.nil (E.jD (E.iM (Rg (Yn 1 Z (Yp Z (Yn 1 Z (W.nil (E.again (k+1,N,O) (.of Z) ?_ ?_)))))))))
  ·exact⟨by omega,(Ll.trans l).ja u (fun q hq=>(ol.row hq).1),Q.cast Z (Ub xs key k (by omega))⟩
  first|omega|(simp only[];omega)
 have R:k=32:=by omega
 subst R
 refine Ex (Rn 2 Z (Rt (E.mP Z Z ?_)))
 exact⟨_,_,rfl,(ol.mono d.size).cast Z (by rw[List.take_of_length_le (by omega)]),(d.trans Ll)⟩
theorem RN (nm p:List Byte):(kY nm [p]).length=16+nm.length+p.length:=by simp[kY,iL];omega
theorem RO (nm p q:List Byte):(kY nm [p,q]).length=24+nm.length+p.length+q.length:=by simp[kY,iL];omega
end Go.Proofs.YtkpmaajniagncaaGreatDoor
