/- LedgerSides: for every input the law answers true and leaves its arguments as they were. -/
import Derived.Test.YtkpmaajniagncaaGreatDoorLedgerSidesQ
import Derived.Lib.TrailingZeros
set_option linter.defProp false
set_option linter.unusedVariables false
set_option linter.unusedSimpArgs false
namespace Go.Sx
theorem Any.air {P:Program}{env:Env}{n:Nat}{d:Option Nat}{p:String}{af:Array Edge}{g:Option (Nat×Bool)}{t ty:TypeId}{x:Operand}{i:Int}(a:Nat)(ht:P.underlying t=some (.int .u64))(hx:ev env x=some (.int .u64 i))(hi:i=(a:Int))(h1:0<a)(h2:a<18446744073709551616):Any P env n ⟨d,.unOp .neg t x,ty,p,af,g⟩ (.int .u64 ((18446744073709551616-a:Nat):Int)):=fun r ha w=>by
 subst hi
 have h:IntKind.u64.wrap (-(a:Int))=((18446744073709551616-a:Nat):Int):=by rw[IntKind.wrap_u64];omega
 simp[execOp,ha.eval hx,Op.unary,Op.intArith,h]
end Go.Sx
namespace Go.Proofs.YtkpmaajniagncaaGreatDoor
open Tryz
open Go Go.Sx Go.Fv Go.Num Go.KJ Go.Gz Go.Lsp Go.JQ Go.yA Go.Scp
set_option maxRecDepth 20000
def C8 (w:World):Prop:=∀j,j<64->w.cell? ⟨4,j,none⟩=some (.int .u8 (Lib.deBruijn64tab.getD j 0:Int))
theorem C8.le {w w':World}(h:C8 w)(k:Le w w'):C8 w':=fun j hj=>k.cell (h j hj)
def tzI (x:Nat):Nat:=(x&&&(18446744073709551616-x))*285870213051353865%18446744073709551616/2^58
def tzF (x:Nat):Nat:=Lib.deBruijn64tab.getD (tzI x) 0
theorem Qx (x:Nat):tzI x<64:=by unfold tzI;omega
theorem ad5 {n:Nat}(h:n<13):min (tzF (1048575-n)) 20=hgt n:=by
 have key:∀n,n<13->min (tzF (1048575-n)) 20=hgt n:=by decide+kernel
 exact key n h
def lW (ch:List Byte)(no:Nat):Nat:=base (kD (lU ch no))
theorem OI {ch:List Byte}(h:ch.length=32)(no:Nat):(lU ch no).length=32:=lu _ _ h
theorem Kr {s xs:List Byte}{h k p:Nat}(hk:k<h)(e:kv xs (h-k) p=kv s h p):kv (uk xs (h-1-k) p) (h-(k+1)) p=kv s h p:=by
 rw[<-e,show h-k=(h-(k+1))+1 by omega,show h-1-k=h-(k+1) by omega];rfl
theorem ad6 (x:Nat):tzF x<256:=by
 have key:∀j,j<64->Lib.deBruijn64tab.getD j 0<256:=by decide+kernel
 exact key _ (Qx x)
theorem abx (x:Nat)(w:World)(hT:C8 w)(hx:0<x/\x<18446744073709551616):Calls prog 251 #[.int .u64 (x:Int)] w fun r w'=>r= .returned (J (tzF x:Int))/\Le w w':=by
 refine En func251 Z ?_
 have c:=Le.refl w
 refine Rn 1 Z (Sq (Rn 2 Z (Cn Z (dF (by omega)) (Sn (Rr 2 Z (Wa (.air x underlying53 Z Z (by omega) (by omega)) Z (Wa (.MV x (18446744073709551616-x) _ Z Z Z Z (by omega) (by omega) Z) Z (Wa (.mulN (x&&&(18446744073709551616-x)) 285870213051353865 ((x&&&(18446744073709551616-x))*285870213051353865%18446744073709551616) Z Z Z Z Z) Z (Wa (.wO _ 58 (tzI x) Z Z Z Z (by decide) Z) Z ?_)))))))))
 refine Wa (.aeL (tzI x) underlying337 yC Z Z Z (Qx x)) Z (Wr (.load (v:= .int .u8 (tzF x:Int)) Vs Z ((hT.le c) (tzI x) (Qx x))) Z (Wr (.Tp (rG underlying5) underlying3 Z (IntWalk.i64_in _ (by have:=ad6 x;omega))) Z (Yy 1 Z Z Z ?_)))
 exact⟨rfl,c⟩
theorem agL (x:Nat)(w:World)(hT:C8 w)(hx:0<x/\x<18446744073709551616):Calls prog 241 #[.int .u64 (x:Int)] w fun r w'=>r= .returned (J (tzF x:Int))/\Le w w':=by
 refine En func241 Z ?_
 have c:=Le.refl w
 refine Rn 1 Z (Sq (Cf Z (Sn (Rr 1 Z (Yc Z (abx x w (hT.le c) (by omega)) fun e d=>Yy 1 Z Z Z ?_)))))
 exact⟨rfl,(c.trans d)⟩
theorem UW (no:Nat)(w:World)(hT:C8 w)(hno:no<13):Calls prog 219 #[J ((1048575-no:Nat):Int)] w fun r w'=>r= .returned (J (hgt no:Int))/\Le w w':=by
 refine En func219 rfl ?_
 have c:=Le.refl w
 refine Rn 1 rfl (Rr 1 rfl (Wr (.as (.Tp (rG underlying3) underlying259 rfl (IntWalk.u64_in _ (by omega))) (int_eq (b:=(((1048575-no):Nat):Int)) (by omega))) rfl (Yc rfl (agL (1048575-no) w (hT.le c) (by omega)) fun f d=>?_)))
 have e:=c.trans d
 refine Wr (.min2 rfl rfl) rfl (Yy 1 rfl rfl rfl ?_)
 exact⟨by rw[<-ad5 hno];congr 2;omega,e⟩
theorem Ku (no:Nat)(h:no<=1048575)(w:World):Calls prog 112 #[J (no:Int)] w fun r w'=>r= .returned (J ((1048575-no:Nat):Int))/\Le w w':=by
 refine En func112 Z (WC.sr (Yn 1 Z (W.nx (WC.sr (Yn 1 Z (Wa (.as (.sub Z Z (by omega)) (int_eq (b:=(((1048575-no):Nat):Int)) (by omega))) Z (Yn 1 Z (W.nx (WC.ret ?_)))))))))
 refine E.iC Z Z ?_
 exact⟨rfl,(Le.refl w)⟩
theorem Md (s:List (BitVec 8))(h p:Nat)(hs:s.length=32)(hh:h<=20)(hp:p<=1048576)(w:World):Calls prog 111 #[.agg (jV s).toArray,J (h:Int),J (p:Int)] w fun r w'=>r= .returned (.agg (jV (kv s h p)).toArray)/\Le w w':=by
 refine En func111 Z ?_
 have m:=Le.refl w
 refine Sr (Yv Z fun c O A f P=>?_)
 have B:=m.trans P
 have f:ik O c 23 ((s).map jf).toArray:=f.cast (by rw[kF hs])
 refine Yz Z z23 fun d C Q (R:ik C d 23 (jV noH).toArray) D=>Nx (Sq (Rn 2 Z (Bk (WC.loop (ι:=Nat×(List (BitVec 8))) (fun⟨k,xs⟩=>[(1,J (h:Int)),(2,J (p:Int)),(3,.pointer (some ⟨c,0,none⟩)),(6,.pointer (some ⟨d,0,none⟩)),(8,J (h:Int)),(9,J (k:Int))]) (fun⟨k,xs⟩ e=>(k<=h)/\(xs.length=32)/\(kv xs (h-k) p=kv s h p)/\Le w e/\C.heap.size<=e.heap.size/\ik e c 23 (xs.map jf).toArray/\ik e d 23 (jV noH).toArray) (fun⟨k,xs⟩=>h-k) (0,s) ?_ ?_ ?_))))
 ·exact .of Z
 ·exact⟨Nat.zero_le _,hs,rfl,(B.trans D),Nat.le_refl _,(f.le D),R⟩
 rintro⟨k,xs⟩ e ⟨hk,hxl,hxe,n,F,o,t⟩
 refine Rn 1 Z (Sq ?_)
 by_cases H:(k:Int)<(h:Int)
 ·refine Cy Z (dT H) ?_
  have hpd:=Nat.div_le_self p (2^(h-1-k))
  refine Nb (Rn 2 Z (Rr 1 Z (Yp Z (Yn 1 Z (Wa (.as (.sub Z Z (by omega)) (int_eq (b:=(((h-1-k):Nat):Int)) (by omega))) Z (Yx 1 Z (Rr 2 Z (Wa (.wO p (h-1-k) (p/2^(h-1-k)) Z Z Z (by omega) (by show h-1-k<=64;omega) Z) Z (Wa (.ahi (p/2^(h-1-k)) 1 (p/2^(h-1-k)%2) Z Z Z Z (by omega) (by omega) (VZ _)) Z ?_)))))))))
  refine Yx 1 Z ?_
  by_cases I:(((p/2^(h-1-k)%2):Nat):Int)=1
  ·refine Cy Z (dT I) (Sq (WC.draw [0,1,2,3,4,5,6,7,8,9] mixed (by kernel_rfl) fun Y i=>Xn 1 Z (Ga Z (.quo Z Z (by omega)) (Xo ((h-1-k)/8) Z ?_))))
   have K:=(o.le i)
   refine Xl Z K (ahj xs 0#8 (by omega)) (Xn 1 Z (Ga Z (.rem Z Z (by omega)) (Ga Z (.ag9 (a:=1#8) ((h-1-k)%8) Z Z Z (by omega)) (Ga Z (.ag8 Z Z) (Xo ((h-1-k)/8) Z (G.jR Z Z Z Z (Ef.store yC Z Z K (by simp only[List.size_toArray,List.length_map,List.length_set];omega) Z ?_)))))))
   intro L j u
   refine noT (by kernel_rfl) ?_
   have j:ik L c 23 ((xs.set ((h-1-k)/8) (xs.getD ((h-1-k)/8) 0#8^^^1#8<<<((h-1-k)%8))).map jf).toArray:=ade j
   refine Gx (Rg (Wa (.Be underlying23 yC Z) Z (Yc Z (W9 L (j.sb (by simp only[List.length_set];exact hxl)) (by decide) (by decide)) fun aa l=>W.jR Z Z (Ef.storeAll zb (by simp only[List.size_toArray,List.length_map,mO _]) Z Z (j.le l) (by simp only[List.size_toArray,List.length_map,List.length_set,hxl,mO _]) (rT _) ?_))))
   intro S v x
   have v:ik S c 23 ((sum (xs.set ((h-1-k)/8) (xs.getD ((h-1-k)/8) 0#8^^^1#8<<<((h-1-k)%8)))).map jf).toArray:=v
   refine W.nil (Lp 1 Z Z ?_)
   have N:c≠d:=by have:=f.lt;omega
   refine E.again (k+1,sum (xs.set ((h-1-k)/8) (xs.getD ((h-1-k)/8) 0#8^^^1#8<<<((h-1-k)%8)))) (.of Z) ?_ ?_
   ·exact⟨by omega,mO _,(show kv (sum (VP xs (h-1-k))) (h-(k+1)) p=_ from by rw[<-Kr (by omega) hxe,show uk xs (h-1-k) p=sum (VP xs (h-1-k))from if_pos (by omega)]),((((n.trans i).tb u m A).trans l).tb x m A),by have:=F;have:=i.size;have:=u.size;have:=l.size;have:=x.size;omega,v,((((t.le i).cn u N).le l).cn x N)⟩
   first|omega|(simp only[];omega)
  refine Cn Z (dF I) (WC.skip (Lp 1 Z Z (E.again (k+1,xs) (.of Z) ?_ ?_)))
  ·exact⟨by omega,hxl,(show kv xs (h-(k+1)) p=_ from by rw[<-Kr (by omega) hxe,show uk xs (h-1-k) p=xs from if_neg (by omega)]),n,by have:=F;omega,o,t⟩
  first|omega|(simp only[];omega)
 refine Cn Z (dF H) ?_
 have hkh:k=h:=by omega
 subst hkh
 rw[Nat.sub_self]at hxe
 have hxe:xs=_:=hxe
 refine Ex (Sr (Wr (.jM ug (by simp only[List.size_toArray,List.length_map,hxl]) Z o) Z (W.jR Z Z (Ef.storeAll zb (by simp[hxl]) Z Z t (by simp[jV,hxl]) (rT _) ?_))))
 intro U y V
 have y:ik U d 23 (xs.map jf).toArray:=y
 have X:=n.tb V B Q
 refine Nx (Re Z (lV Z y ug (by simp[hxl])) ?_)
 exact⟨by rw[<-hxe,kF hxl],X⟩
theorem UX (ch:List (BitVec 8))(no:Nat)(hch:ch.length=32)(w:World):Calls prog 111 #[.agg (jV ch).toArray,J 20,J ((1048575-no:Nat):Int)] w fun r w'=>r= .returned (.agg (jV (lU ch no)).toArray)/\Le w w':=by
 have h:=Md ch 20 (1048575-no) hch (by decide) (by omega) w
 unfold lU
 exact h
theorem Ee (ch:List (BitVec 8))(no:Nat)(hch:ch.length=32)(hno:no<1048576)(w:World):Calls prog 57 #[.agg (jV ch).toArray,J (no:Int)] w fun r w'=>r= .returned (.tuple #[.agg (jV (lU ch no)).toArray,.bool true])/\Le w w':=by
 refine En func57 Z (Sr (Yv Z fun l m B (n:ik m l 23 (jV ch).toArray) o=>?_))
 have i:=(Le.refl w).trans o
 refine Yz Z z23 fun j s t (u:ik s j 23 (jV noH).toArray) k=>Yx 1 Z (Sq (Sr (Yf 2 Z (Yf 3 Z (Yx 1 Z (Cf Z (Sn (Sq ?_))))))))
 refine WC.draw [0,1,2,3,4,5] mixed (by kernel_rfl) fun v c=>Xh Z (n.le (k.trans c)) (Xn 1 Z (Xc Z (Ku no (by omega) v) fun x d=>Xc Z (UX ch no hch x) fun C e=>Xw Z (u.le (c.trans (d.trans e))) (qc.one (lU ch no)) ?_))
 intro y f A
 refine noT (by kernel_rfl) ?_
 have f:ik y j 23 (jV (lU ch no)).toArray:=f
 refine Xx 1 Z (Rt (E.lD Z (lV Z f ug (by rfl)) Z ?_))
 exact⟨rfl,(((((i.trans k).trans c).trans d).trans e).tb A i t)⟩
theorem ui (k:Kt)(no:Nat)(hch:k.ch.length=32)(hno:no<1048576)(w:World):Calls prog 26 #[.agg (mD k).toArray,J (no:Int)] w fun r w'=>r= .returned (.tuple #[.int .u64 (lW k.ch no:Int),.bool true])/\Le w w':=by
 refine En func26 Z (Sr (Yv Z fun e c s (f:ik c e 70 (mD k).toArray) i=>Yx 2 Z (Rr 1 Z (Yb (jV k.ch) Z f Z (Yn 1 Z (Yc Z (Ee k.ch no hch (by omega) c) fun t j=>Yn 1 Z (Wa (.extract (v:= .agg (jV (lU k.ch no)).toArray) Z Z) Z ?_)))))))
 refine Yn 1 Z (W.ab Z z23 zb (qc.one (lU k.ch no)) fun l d u (m:ik d l 23 (jV (lU k.ch no)).toArray) n=>Yx 1 Z (Sq (Rn 2 Z (Cf Z (Sn (Sr (Yh Z m (Yc Z (Ou (lU k.ch no) (OI hch _) d) fun x o=>?_))))))))
 refine Yx 2 Z (Rt (E.lD Z Z Z ?_))
 exact⟨rfl,(((((Le.refl w).trans i).trans j).trans n).trans o)⟩
end Go.Proofs.YtkpmaajniagncaaGreatDoor
namespace Go.Sx
variable {P:Program}{t e s gb o:Nat}
theorem Jr {len:Nat}(m:Nat){k:IntKind}{i:Int}(ht:P.underlying t=some (.array len e))(hs:Sz P e s)(hi:i=(m:Int))(h2:m<=len)(w:World):
  (Instr.sliceAt t (.pointer (some ⟨gb,o,none⟩)) none (some (.int k i)) none).run P w= .ok (.slice (some ⟨gb,o,none⟩) m len) w:=by
 subst hi
 simp[Instr.sliceAt,Instr.sureAddr,Instr.sliceBounds,Instr.sliceBound,asIntOf,run_underlying ht,hs.run,h2,Addr.add]
theorem Any.OJ {env:Env}{n:Nat}{d:Option Nat}{T:TypeId}{p:String}{af:Array Edge}{g:Option (Nat×Bool)}{len:Nat}{x:Operand}(m:Nat){hi:Operand}{k:IntKind}{i:Int}(ht:P.underlying t=some (.array len e))(hs:Sz P e s)(hx:ev env x=some (.pointer (some ⟨gb,o,none⟩)))
  (hhi:ev env hi=some (.int k i))(hm:i=(m:Int))(h2:m<=len):Any P env n ⟨d,.slice t x none (some hi) none,T,p,af,g⟩ (.slice (some ⟨gb,o,none⟩) m len):=fun a ha w=>by
 simp[execOp,ha.eval hx,ha.eval hhi,Jr m ht hs hm h2]
end Go.Sx
namespace Go.Proofs.YtkpmaajniagncaaGreatDoor
open Tryz
open Go Go.Sx Go.Fv Go.Num Go.KJ Go.Gz Go.Lsp Go.JQ Go.yA Go.Scp
set_option maxRecDepth 20000
structure Dm where
 nx:Nat
 ps:Nat->Option Nat
def uz:Option Nat->Value
 |none=> .pointer none
 |some q=> .pointer (some ⟨q,0,none⟩)
def Dm.put (e:Dm)(j:Nat)(v:Option Nat):Dm:=⟨e.nx,fun i=>if i=j then v else e.ps i⟩
def sV (e:Dm):List Value:= J (e.nx:Int)::(List.range 21).map fun i=>uz (e.ps i)
theorem aby (v:Option Nat):(uz v).oneCell'=true:=by cases v<;>rfl
theorem IP:kM sV 22:=⟨fun _=>rfl,fun x v hv=>by
 simp only[sV,List.mem_cons,List.mem_map]at hv
 rcases hv with rfl|⟨i,_,rfl⟩
 ·rfl
 ·exact aby _,by decide⟩
theorem Me (e:Dm){j:Nat}(h:j<21):(sV e).toArray[1+j]? =some (uz (e.ps j)):=by
 rw[show 1+j=j+1 by omega]
 simp[sV,h]
theorem ad7 (e:Dm){j:Nat}(h:j<21):((sV e).toArray.toList.drop 1).toArray[j]? =some (uz (e.ps j)):=by simp[sV,h]
theorem Sy (e:Dm)(v:Option Nat){j:Nat}(h:j<21):(sV e).toArray.setIfInBounds (1+j) (uz v)=(sV (e.put j v)).toArray:=by
 rw[show 1+j=j+1 by omega,List.setIfInBounds_toArray]
 congr 1
 unfold sV
 rw[List.set_cons_succ]
 congr 1
 refine List.ext_getElem (by simp) fun i c d=>?_
 simp only[List.getElem_set,List.getElem_map,List.getElem_range,Dm.put]
 by_cases e1:j=i
 ·rw[if_pos e1,if_pos e1.symm]
 ·rw[if_neg e1,if_neg (fun e=>e1 e.symm)]
theorem Qy (e:Dm)(j:Nat)(v:Option Nat):(e.put j v).ps j=v:=if_pos Z
theorem Qz (e:Dm){j i:Nat}(v:Option Nat)(h:i≠j):(e.put j v).ps i=e.ps i:=if_neg h
structure Kep where
 p:Nat
 s:List (BitVec 8)
def Mf (e:Kep):List Value:= J (e.p:Int)::jV e.s
def mX (w:World)(_b:Nat)(ps:Nat->Option Nat)(z:List (BitVec 8)×Nat×Nat):Prop:=
 ∀h,h<21->if h<z.2.2 then(∀p,AB z.2.1 h=some p->∃q,ps h=some q/\ik w q 245 (Mf ⟨p,kv z.1 20 p⟩).toArray)/\(AB z.2.1 h=none->ps h=none)else ps h=none
section
variable {w w':World}{b b':Nat}{ps:Nat->Option Nat}{z:List (BitVec 8)×Nat×Nat}{F:Nat->Prop}
theorem mX.map (h:mX w b ps z)(k:∀q cs,ik w q 245 cs->ik w' q 245 cs):mX w' b' ps z:=fun i hi=>by
 have:=h i hi
 split
 ·rename_i hz
  rw[if_pos hz]at this
  exact⟨fun p hp=>let⟨q,c,d⟩:=this.1 p hp;⟨q,c,k q _ d⟩,this.2⟩
 ·rename_i hz
  rw[if_neg hz]at this
  exact this
theorem mX.le (h:mX w b ps z)(k:Le w w'):mX w' b ps z:=h.map fun _ _ q=>q.le k
variable {s:List (BitVec 8)}{n m i:Nat}
theorem mX.at (h:mX w b ps (s,n,m))(hi:i<21)(hm:i<m):(∀p,AB n i=some p->∃q,ps i=some q/\ik w q 245 (Mf ⟨p,kv s 20 p⟩).toArray)/\(AB n i=none->ps i=none):=by
 have:=h i hi
 rwa [if_pos hm]at this
theorem mX.rest (h:mX w b ps (s,n,m))(hi:i<21)(hm:m<=i):ps i=none:=by
 have:=h i hi
 rwa [if_neg (Nat.not_lt.2 hm)]at this
theorem mX.skip (h:mX w b ps (s,n,m))(hm:m<21)(hp:AB n m=none):mX w b ps (s,n,m+1):=fun i hi=>by
 by_cases e1:i<m
 ·rw[if_pos (show i<m+1 by omega)];exact h.at hi e1
 ·by_cases e2:i=m
  ·subst e2
   rw[if_pos (show i<i+1 by omega)]
   exact⟨fun p hp'=>(by rw[show AB n i=none from hp]at hp';cases hp'),fun _=>h.rest hi (Nat.le_refl _)⟩
  ·rw[if_neg (show¬i<m+1 by omega)];exact h.rest hi (by omega)
variable {e:Dm}
theorem mX.put {p g:Nat}(h:mX w b e.ps (s,n,m))(hm:m<21)(hp:AB n m=some p)(hB:ik w g 245 (Mf ⟨p,kv s 20 p⟩).toArray):mX w b (e.put m (some g)).ps (s,n,m+1):=fun i hi=>by
 by_cases e1:i<m
 ·rw[if_pos (show i<m+1 by omega),Qz _ _ (show i≠m by omega)];exact h.at hi e1
 ·by_cases e2:i=m
  ·subst e2
   rw[if_pos (show i<i+1 by omega),Qy]
   exact⟨fun p' hp'=>by rw[show AB n i=some p from hp]at hp';cases hp';exact⟨g,rfl,hB⟩,fun hp'=>by rw[show AB n i=some p from hp]at hp';cases hp'⟩
  ·rw[if_neg (show¬i<m+1 by omega),Qz _ _ e2];exact h.rest hi (by omega)
theorem mX.add {g:Nat}(h:mX w b e.ps (s,n,21))(hn:n<13)(hB:ik w g 245 (Mf ⟨1048575-n,lU s n⟩).toArray):mX w b' (e.put (hgt n) (some g)).ps (s,n+1,21):=fun i hi=>by
 have hk:=(QS hn).2.2 i hi
 rw[if_pos (show i<21 from hi)]
 show(∀p,AB (n+1) i=some p->_)/\(AB (n+1) i=none->_)
 rw[hk]
 by_cases e1:i=hgt n
 ·subst e1
  rw[if_pos Z,Qy]
  exact⟨fun p' hp'=>by cases hp';exact⟨g,rfl,hB⟩,fun hp'=>by cases hp'⟩
 ·rw[if_neg e1,Qz _ _ e1]
  exact h.at hi hi
theorem mX.mono (h:mX w b ps z)(k:b'<=b):mX w b' ps z:=h.map fun _ _ q=>q
variable {t:Nat}
theorem mX.AP {g:Nat}{cs:Array Value}(h:mX w b ps z)(k:Ch w w' (some g))(o:ik w g t cs)(h1:245≠t):mX w' b ps z:=h.map fun q cs hq=>hq.ch k fun e=>h1 (by cases e;exact FE hq o)
theorem mX.chG {g:Nat}{cs:Array Value}(h:mX w b ps z)(k:iX w w' (fun q=>q=g))(o:ik w g t cs)(h1:245≠t):mX w' b ps z:=h.map fun q cs hq=>hq.ji k fun e=>h1 (by subst e;exact FE hq o)
theorem mX.chO {b1 e s c:Nat}{α:Type}{f:α->List Value}{A:Option Addr}{xs:List α}(h:mX w b ps z)(k:Ch w w' (rowOf A c))(o:iy w b1 e f s A n c xs)(h1:245≠e):mX w' b ps z:=h.map fun q cs hq=>hq.ch k fun e=>h1 (by obtain⟨cs',hb⟩:=o.qU e;exact FE hq hb)
theorem mX.O7 {base gp:Nat}{G:Nat->Prop}{s:List (BitVec 8)×Bool}(h:mX w b ps z)(k:iX w w' G)(hp:yI w base gp G s)(h1:336≠245)(h2:5≠245)(_:True)(_:True):mX w' b ps z:=h.map fun q cs hq=>hq.ji k (hp.jg hq h1 h2)
end
variable {st:Dm}
theorem C8.chG {w w':World}{g t:Nat}(h:C8 w)(k:iX w w' (fun q=>q=g))(hb:ik w g t (sV st).toArray):C8 w':=fun j hj=>by
 have hc:=h j hj
 have hg:g≠4:=fun e=>by
  subst e
  have d:=h 0 (by decide)
  have c:=hb.cell (i:=0)
  rw[d]at c
  exact absurd c (by simp[sV])
 exact(World.cell?_of_block (w:=w) (a:=⟨4,j,none⟩) (k.block 4 (World.block_lt_of_cell? w _ hc) (fun e=>hg e.symm))).trans hc
def zu (n h:Nat):Int:=if h=20 then 0 else 1048575-((n:Int)-1)+Int.tmod (Int.tmod (((2^h:Nat):Int)-(1048575-((n:Int)-1))) ((2^(h+1):Nat):Int)+((2^(h+1):Nat):Int)) ((2^(h+1):Nat):Int)
def lastB (n h:Nat):Bool:=if h=20 then decide (1048575-((n:Int)-1)=0)else decide (zu n h<1048576)
theorem C9:∀n,n<14->∀h,h<21->((h<20->1<=2^h/\2^h<=1048576/\(2:Nat)^(h+1)=2*2^h)/\(n≠0->AB n h=if lastB n h then some (zu n h).toNat else none))/\0<=zu n h/\zu n h<=4194304:=by
 have key:((List.range 14).all fun n=>(List.range 21).all fun h=>(decide (h<20->1<=2^h/\2^h<=1048576/\(2:Nat)^(h+1)=2*2^h)&&decide (n≠0->AB n h=if lastB n h then some (zu n h).toNat else none))&&decide (0<=zu n h/\zu n h<=4194304))=true:=by decide+kernel
 intro n hn h hh
 rw[List.all_eq_true]at key
 have k1:=key n (List.mem_range.2 hn)
 rw[List.all_eq_true]at k1
 have k2:=k1 h (List.mem_range.2 hh)
 simp only[Bool.and_eq_true,decide_eq_true_eq]at k2
 exact k2
variable {n:Nat}
theorem z8 {h p:Nat}(hn:n<14)(hh:h<21)(hp:AB n h=some p):(n≠0/\lastB n h=true)/\zu n h=(p:Int)/\(p<1048576/\p%2^h=0)/\h<20:=by
 have d:n≠0:=fun e=>by rw[e]at hp;simp[AB]at hp
 have hl:=C9 n hn h hh
 have c:=hl.1.2 d
 rw[hp]at c
 have hb:lastB n h=true:=Classical.byContradiction fun e=>by rw[if_neg e]at c;cases c
 rw[if_pos hb]at c
 injection c with c
 exact⟨⟨d,hb⟩,by omega,ZY n hn h hh p hp⟩
theorem UY {h:Nat}(hn:n<14)(hh:h<21)(hp:AB n h=none)(hb:lastB n h=true):n=0:=Classical.byContradiction fun d=>by
 have c:=(C9 n hn h hh).1.2 d
 rw[hp,if_pos hb]at c
 cases c
def yw (s:List Byte)(n i:Nat):List Byte:=((List.range' i (21-i)).map (vH s n)).flatten
theorem YO (s:List Byte)(n:Nat):jZ s n 21=yw s n 0:=by unfold jZ yw;rw[List.range_eq_range']
theorem Kv (s:List Byte)(n:Nat){i:Nat}(h:i<21):yw s n i=vH s n i++yw s n (i+1):=by
 unfold yw
 rw[show 21-i=(21-(i+1))+1 by omega,List.range'_succ]
 rfl
variable {s:List Byte}{i:Nat}
theorem Kw (h:i<21)(hp:AB n i=none):yw s n i=yw s n (i+1):=by
 rw[Kv s n h,show vH s n i=[]from by unfold vH;rw[hp]];rfl
theorem UZ {m:List Byte}{p:Nat}{s':List Byte×Bool}(hs:s.length=32)(h:i<21)(hp:AB n i=some p)(k:acP (yw s n i,false) m s'):s'=(yw s n (i+1),false)/\m=kv s 20 p:=by
 have e:=Kv s n h
 rw[show vH s n i=kv s 20 p from by unfold vH;rw[hp]]at e
 have hl:=lu 20 p hs
 obtain⟨c,d⟩:=k.2 Z (by rw[e,List.length_append];omega)
 rw[c,d]
 simp only[e]
 rw[List.drop_append_of_le_length (by omega),List.take_append_of_le_length (by omega),List.drop_of_length_le (by omega),List.take_of_length_le (by omega)]
 exact⟨rfl,rfl⟩
theorem IQ {s:List Byte}{n:Nat}(hs:s.length=32):∀k,(jZ s n k).length<=32*k
 |0=>Nat.le_refl 0
 |k+1=>by
  rw[yO,List.length_append]
  have h1:=IQ (n:=n) hs k
  have c:(vH s n k).length<=32:=by
   unfold vH
   split
   ·rw[lu 20 _ hs];exact Nat.le_refl _
   ·exact Nat.zero_le _
  omega
theorem Eg (h:n<14):jF n=[BitVec.ofNat 8 n]/\(BitVec.ofNat 8 n).toNat=n:=by
 have key:∀n,n<14->jF n=[BitVec.ofNat 8 n]/\(BitVec.ofNat 8 n).toNat=n:=by decide+kernel
 exact key n h
theorem abz (h:Nat):AB 0 h=none:=by simp[AB]
theorem SA {a b:Int}(h:0<b)(hb:b<=2097152): -2097152<=Int.tmod a b/\Int.tmod a b<=2097152:=by
 have d:=Int.tmod_lt_of_pos a h
 have c:=Int.neg_le_neg (Int.le_of_lt (Int.tmod_lt_of_pos (-a) h))
 rw[Int.neg_tmod,Int.neg_neg]at c
 omega
theorem QA (i:Int)(h: -1<=i/\i<=1048575)(w:World):Calls prog 112 #[J (i)] w fun r w'=>r= .returned (J (1048575-i))/\Le w w':=by
 refine En func112 Z (WC.sr (Yn 1 Z (W.nx (WC.sr (Yn 1 Z (Yp Z (Yn 1 Z (W.nx (WC.ret ?_)))))))))
 refine E.iC Z Z ?_
 exact⟨rfl,(Le.refl w)⟩
theorem abA (n h:Nat)(hn:n<14)(hh:h<21)(w:World):Calls prog 238 #[J (n:Int),J (h:Int)] w fun r w'=>r= .returned (.tuple #[J (zu n h),.bool (lastB n h)])/\Le w w':=by
 have d:=((C9 n hn h hh).1).1
 have m:(2:Nat)^(h+1)=2*2^h:=by rw[Nat.pow_succ];omega
 have o:1<=2^h/\2^h<=1048576:=by by_cases e:h<20;exact⟨(d e).1,(d e).2.1⟩;(have:h=20:=by omega);subst this;decide
 refine En func238 Z (Rn 2 Z (Sq (WC.draw [0,1,3,4,5,2,6,7] mixed (by kernel_rfl) fun k l=>Xn 1 Z (Ga Z (.as (.sub Z Z (by omega)) (int_eq (b:=((n:Int)-1)) (by omega))) (Xn 1 Z (Xp Z (Ga Z (.adO 1 (h+1) (2^(h+1)) Z Z Z (by omega) (by omega) (by omega) (by omega)) (Xc Z (QA ((n:Int)-1) (by omega) k) fun s f=>?_))))))))
 have i:=((Le.refl w).trans l).trans f
 refine Xx 2 Z (Sq (Rn 2 Z ?_))
 by_cases j:(h:Int)=20
 ·refine Cy Z (dT j) ?_
  have c:h=20:=by omega
  refine Rn 4 Z (Rt (E.il (E.lD Z Z Z ?_)))
  exact⟨by simp only[zu,lastB,if_pos c],i⟩
 refine Cn Z (dF j) ?_
 have c:h≠20:=by omega
 have hr:=C9 n hn h hh
 refine Sn (Rr 2 Z (Wa (.adO 1 h (2^h) Z Z Z (by omega) (by omega) (by omega) (by omega)) Z (Yn 1 Z (Wa (.as (.sub Z Z (by omega)) (int_eq (b:=(((2^h:Nat):Int)-(1048575-((n:Int)-1)))) (by omega))) Z (Yn 1 Z (Wa (.agw Z Z (by omega)) Z ?_))))))
 have t: -2097152<=(Int.tmod (((2^h:Nat):Int)-(1048575-((n:Int)-1))) ((2^(h+1):Nat):Int))/\(Int.tmod (((2^h:Nat):Int)-(1048575-((n:Int)-1))) ((2^(h+1):Nat):Int))<=2097152:=SA (by omega) (by omega)
 refine Yn 1 Z (Yp Z (Yn 1 Z (Wa (.agw Z Z (by omega)) Z ?_)))
 have u: -2097152<=(Int.tmod ((Int.tmod (((2^h:Nat):Int)-(1048575-((n:Int)-1))) ((2^(h+1):Nat):Int))+((2^(h+1):Nat):Int)) ((2^(h+1):Nat):Int))/\(Int.tmod ((Int.tmod (((2^h:Nat):Int)-(1048575-((n:Int)-1))) ((2^(h+1):Nat):Int))+((2^(h+1):Nat):Int)) ((2^(h+1):Nat):Int))<=2097152:=SA (by omega) (by omega)
 refine Yp Z (Yx 1 Z (Rn 5 Z (Rt (E.lD Z Z Z ?_))))
 exact⟨by simp only[zu,lastB,if_neg c],i⟩
theorem SB (seed:List (BitVec 8))(w:World):Calls prog 79 #[] w fun r w'=>∃g st,r= .returned (.pointer (some ⟨g,0,none⟩))/\w.heap.size<=g/\ik w' g 241 (sV st).toArray/\mX w' w.heap.size st.ps (seed,0,21)/\st.nx=0/\Le w w':=by
 refine En func79 Z (WC.sr (Yn 1 Z (W.nx (WC.sr (Wa (.iF (sV (⟨0,fun _=>none⟩:Dm)) acF afY Z Z) Z (Yv Z fun c d e (f:ik d c 241 (sV (⟨0,fun _=>none⟩:Dm)).toArray) i=>Yn 1 Z (W.nx (WC.ret ?_))))))))
 refine E.iC Z Z ?_
 exact⟨_,_,rfl,e,f,(fun h hh=>by rw[if_pos hh];exact⟨fun p hp=>(by rw[abz]at hp;cases hp),fun _=>rfl⟩),rfl,((Le.refl w).trans i)⟩
variable {no:Nat}{seed:List (BitVec 8)}
theorem Ae {g b:Nat}(w:World)(hb:ik w g 241 (sV st).toArray)(hK:mX w b st.ps (seed,no,21))(hx:st.nx=no)(hs:seed.length=32)(hn:no<14):Calls prog 80 #[.pointer (some ⟨g,0,none⟩)] w fun r w'=>∃A' c',r= .returned (.slice A' (jF no++jZ seed no 21).length c')/\iy w' w.heap.size 5 jv 1 A' (jF no++jZ seed no 21).length c' (jF no++jZ seed no 21)/\Le w w':=by
 have hrn:=jy no (by omega)
 subst hx
 refine En func80 Z ?_
 have j:=Le.refl w
 refine Rn 1 Z (Rr 3 Z (Yk (J (st.nx:Int)) Z hb Z (Yd Z (wC st.nx (by omega) w (Vec.nil _ _ _ _) (by first|omega|(simp only[List.length_append,List.length_nil];omega))) ?_)))
 rintro _ o ⟨s,t,rfl,u,f⟩
 have x:=j.trans f
 refine Yx 1 Z (Sq (Rr 3 Z (Yb [(uz (st.ps 0)),(uz (st.ps 1)),(uz (st.ps 2)),(uz (st.ps 3)),(uz (st.ps 4)),(uz (st.ps 5)),(uz (st.ps 6)),(uz (st.ps 7)),(uz (st.ps 8)),(uz (st.ps 9)),(uz (st.ps 10)),(uz (st.ps 11)),(uz (st.ps 12)),(uz (st.ps 13)),(uz (st.ps 14)),(uz (st.ps 15)),(uz (st.ps 16)),(uz (st.ps 17)),(uz (st.ps 18)),(uz (st.ps 19)),(uz (st.ps 20))] Z (hb.le f) Z (Yx 1 Z (Bk ?_)))))
 refine WC.loop (ι:=Nat×(List (BitVec 8))×(Option Addr)×Nat) (fun⟨k,xs,Aa,ca⟩=>[(3,.slice Aa xs.length ca),(14,.agg #[(uz (st.ps 0)),(uz (st.ps 1)),(uz (st.ps 2)),(uz (st.ps 3)),(uz (st.ps 4)),(uz (st.ps 5)),(uz (st.ps 6)),(uz (st.ps 7)),(uz (st.ps 8)),(uz (st.ps 9)),(uz (st.ps 10)),(uz (st.ps 11)),(uz (st.ps 12)),(uz (st.ps 13)),(uz (st.ps 14)),(uz (st.ps 15)),(uz (st.ps 16)),(uz (st.ps 17)),(uz (st.ps 18)),(uz (st.ps 19)),(uz (st.ps 20))]),(15,J (k:Int))]) (fun⟨k,xs,Aa,ca⟩ d=>(k<=21)/\(xs.length<=20+32*k)/\(xs=jF st.nx++jZ seed st.nx k)/\Le w d/\o.heap.size<=d.heap.size/\iy d w.heap.size 5 jv 1 Aa xs.length ca xs) (fun⟨k,xs,Aa,ca⟩=>21-k) (0,([]++jF st.nx),s,t) ?_ ?_ ?_
 ·exact .of Z
 ·exact⟨Nat.zero_le _,by rw[List.nil_append];omega,by simp[jZ],x,Nat.le_refl _,u⟩
 rintro⟨k,xs,Aa,ca⟩ d ⟨hk,hxl,hxe,e,l,i⟩
 have F:w.heap.size<=d.heap.size:=by have:=f.size;omega
 refine Rn 1 Z (Sq ?_)
 by_cases m:(k:Int)<21
 ·refine Cy Z (dT m) (Nb (Sr (Wa (.xQ (v:=(uz (st.ps k))) k underlying239 Ia afU Z Z Z (by omega) (ad7 st (by omega))) Z (Yx 1 Z (Sr ?_)))))
  by_cases hck:(AB st.nx k).isSome=true
  ·obtain⟨pk,hpk⟩:=Option.isSome_iff_exists.1 hck
   obtain⟨qk,hqk,bqk⟩:=((hK.le e).at (by omega) (by omega)).1 pk hpk
   rw[hqk]
   have aiK:=z8 (by omega) (by omega) hpk
   refine Yn 1 Z (Wa (.dec (.uE (by kernel_rfl) Z) Z) Z (Nx (Ct Z (Rg (Yn 4 Z (Yb (jV (kv seed 20 pk)) Z bqk Z (Yd Z (by have q:=R4 (kv seed 20 pk) (lu 20 pk hs) (c:=ca) d i.vec (by omega);rw[<-kF (lu 20 pk hs)]at q;exact q) ?_)))))))
   rintro _ H ⟨y,A,rfl,B,n⟩
   have C:=e.trans n
   refine Yn 1 Z (W.nil (Lp 1 Z Z (E.again (k+1,(xs++(kv seed 20 pk)),y,A) (.of Z) ?_ ?_)))
   ·exact⟨by omega,by rw[List.length_append,lu 20 pk hs];omega,by rw[yO,<-List.append_assoc,<-hxe,show vH seed st.nx k=kv seed 20 pk from by unfold vH;rw[hpk]],C,by have:=l;have:=n.size;omega,(B.mono (by omega))⟩
   first|omega|(simp only[];omega)
  have agM:=Option.not_isSome_iff_eq_none.1 hck
  have hqk:=((hK.le e).at (by omega) (by omega)).2 agM
  rw[hqk]
  refine Yn 1 Z (Wa (.dec (.uE (by kernel_rfl) Z) Z) Z (Nx (Cf Z (WC.skip (Lp 1 Z Z (E.again (k+1,xs,Aa,ca) (.of Z) ?_ ?_))))))
  ·exact⟨by omega,by omega,by rw[yO,<-List.append_assoc,<-hxe,show vH seed st.nx k=[]from by unfold vH;rw[agM],List.append_nil],e,by have:=l;omega,i⟩
  first|omega|(simp only[];omega)
 refine Cn Z (dF m) (Ex (Ry 2 Z Z Z ?_))
 have D:k=21:=by omega
 subst D
 exact⟨_,_,by rw[<-hxe],by rw[<-hxe];exact(i.mono j.size),e⟩
set_option maxHeartbeats 4000000 in
theorem YP (seed:List (BitVec 8)) (no:Nat) {A:Option Addr} {n c:Nat} (w:World) (hV:Vec w jv 1 A n (jF no++jZ seed no 21)) (hs:seed.length=32) (hn:no<14):Calls prog 218 #[.slice A n c] w fun r w'=>∃g st,r= .returned (.tuple #[.pointer (some ⟨g,0,none⟩),.bool true])/\w.heap.size<=g/\ik w' g 241 (sV st).toArray/\mX w' w.heap.size st.ps (seed,no,21)/\st.nx=no/\Le w w':=by
 have hl:=hV.1
 have hbl:=IQ (n:=no) hs 21
 have hrn:=jy no (by omega)
 rw[List.length_append]at hl
 refine En func218 Z ?_
 have L:=Le.refl w
 refine Rn 2 Z (Rr 1 Z (Yd Z (abf w (hV.le L) (by omega)) ?_))
 rintro _ aR ⟨N,U,rfl,al,an⟩
 refine Yx 1 Z (Rr 1 Z (Yd Z (adT al) ?_))
 rintro _ aS ⟨aF,ao,rfl,ap,aq,ar⟩
 have V:=(L.trans an).jP ar (fun i hi=>Nat.le_trans L.size (al.old hi))
 have aT:=ap.1
 obtain⟨aG,au⟩:=ap.2.2.2 (BitVec.ofNat 8 no) (jZ seed no 21) (by show jF no++_=_;rw[(Eg hn).1];rfl) (by rw[(Eg hn).2];omega)
 rw[(Eg hn).2]at aG
 subst aF
 have au:ao=(yw seed no 0,false):=by rw[au,<-YO]
 subst ao
 refine Wa (.iF (sV (⟨no,fun _=>none⟩:Dm)) acF afY Z Z) Z (Yv Z fun m aH X (aI:ik aH m 241 (sV (⟨no,fun _=>none⟩:Dm)).toArray) Y=>Yx 1 Z (Sq (Rr 1 Z ?_)))
 have f4:=(aq.le Y)
 refine Yc Z (acQ f4) fun o O=>?_
 have L5:=(V.trans Y).trans O
 refine Yn 5 Z ?_
 have f6:=(aI.le O)
 refine Yk (J (no:Int)) Z f6 Z (Yf 1 Z (Yx 1 Z (Cf Z (Sn (Sq (Rn 1 Z (Bk ?_)))))))
 have ko:mX o o.heap.size (fun _=>none) (seed,no,0):=fun h hh=>by rw[if_neg (Nat.not_lt_zero _)]
 refine WC.loop (ι:=Nat×(Nat->Option Nat)) (fun⟨i,ps⟩=>[(4,.pointer (some ⟨N,0,none⟩)),(5,.pointer (some ⟨m,0,none⟩)),(27,J (i:Int))]) (fun⟨i,ps⟩ t=>(i<=21)/\Le w t/\o.heap.size<=t.heap.size/\yI t w.heap.size N U (yw seed no i,false)/\ik t m 241 (sV (⟨no,ps⟩:Dm)).toArray/\mX t o.heap.size ps (seed,no,i)) (fun⟨i,ps⟩=>21-i) (0,(fun _=>none)) ?_ ?_ ?_
 ·exact .of Z
 ·exact⟨Nat.zero_le _,L5,Nat.le_refl _,(f4.le O),f6,ko⟩
 rintro⟨i,ps⟩ t ⟨hi,av,aa,D,F,P⟩
 have aJ:o.heap.size<=t.heap.size:=by omega
 refine Rn 1 Z (Sq ?_)
 by_cases c1:(i:Int)<21
 ·refine Cy Z (dT c1) (Nb (Rn 2 Z (Rr 3 Z (Yk (J (no:Int)) Z F Z (Yn 1 Z (Yc Z (abA no i (by omega) (by omega) t) fun aU f=>?_))))))
  have L8:=av.trans f
  refine Yx 5 Z (Sq (Sr ?_))
  by_cases hci:(AB no i).isSome=true
  ·obtain⟨pi,hpi⟩:=Option.isSome_iff_exists.1 hci
   have ad8:=z8 (by omega) (by omega) hpi
   rw[ad8.1.2,ad8.2.1]
   refine Yn 6 Z ?_
   have f9:=(F.le f)
   refine Yk (J (no:Int)) Z f9 Z (Yf 1 Z (Yx 1 Z (Cf Z (Sn (Sq (WC.draw [0,1,2,3,7,8,4,5,6,9,10] mixed (by kernel_rfl) fun aV B=>Xn 6 Z ?_))))))
   have ac:=(D.le (f.trans B))
   refine Xd Z (abd ac) ?_
   rintro _ aW ⟨aX,aY,rfl,aZ,aK,aw,H⟩
   refine noT (by kernel_rfl) ?_
   have ad:=(f9.le B).ji H (show¬U m from(fun hF=>by have:=aq.lt hF;have:=X;omega))
   obtain⟨rfl,rfl⟩:=UZ hs (by omega) hpi aK
   refine Ga Z (.iF (Mf (⟨pi,(kv seed 20 pi)⟩:Kep)) acG af0 Z Z) (G.ef Z Z Z Z Z (Ef.Tn Z fun l aL a0 (aM:ik aL l 245 (Mf (⟨pi,(kv seed 20 pi)⟩:Kep)).toArray) x=>⟨fun _=>x,?_⟩))
   refine Xi i Z ?_
   have ax:=(ad.le x)
   refine G.jR Z Z Z Z (Ef.store Ia Z Z ax (by simp[IP.len,-List.getD_eq_getElem?_getD];omega) Z ?_)
   intro ae af C
   refine noT (by kernel_rfl) ?_
   have af:ik ae m 241 (sV ((⟨no,ps⟩:Dm).put i (some l))).toArray:=af.cast (Sy (⟨no,ps⟩:Dm) (some l) (by omega))
   refine Gx (Sr ?_)
   have aN:=((((P.le (f.trans B)).O7 H ac (by decide) (by decide) (by decide) (by decide)).le x).AP C ax (by decide))
   have ay:=(aM.cn C (by have:=ad.lt;omega))
   have kn:mX ae o.heap.size ((⟨no,ps⟩:Dm).put i (some l)).ps (seed,no,i+1):=mX.put (e:=(⟨no,ps⟩:Dm)) aN (by omega) hpi ay
   refine Yn 4 Z (Wa (.OJ i underlying239 Ia Z Z Z (by omega)) Z (Yx 2 Z (Bk ?_)))
   have aO:=((aw.le x).ch C (fun q hqq hF=>by cases hqq;exact(aw.jg ad (by decide) (by decide)) hF))
   refine WC.loop (ι:=Nat) (fun j=>[(4,.pointer (some ⟨N,0,none⟩)),(5,.pointer (some ⟨m,0,none⟩)),(6,J (i:Int)),(7,J (pi:Int)),(27,J (i:Int)),(62,.slice (some ⟨m,1,none⟩) i 21),(63,J (i:Int)),(64,J (j:Int))]) (fun j u=>(j<=i)/\Le w u/\ae.heap.size<=u.heap.size/\yI u w.heap.size N U (yw seed no (i+1),false)/\ik u m 241 (sV ((⟨no,ps⟩:Dm).put i (some l))).toArray/\mX u o.heap.size (((⟨no,ps⟩:Dm).put i (some l)).ps) (seed,no,i+1)/\ik u l 245 (Mf (⟨pi,(kv seed 20 pi)⟩:Kep)).toArray) (fun j=>i-j) 0 ?_ ?_ ?_
   ·exact .of Z
   ·exact⟨Nat.zero_le _,((((L8.trans B).jP H (fun i hi=>Nat.le_trans L.size (ac.old hi))).trans x).tb C V X),Nat.le_refl _,aO,af,kn,ay⟩
   rintro j u ⟨hj,az,Q,R,I,aA,ah⟩
   have _:=f.size
   have _:=B.size
   have _:=H.size
   have _:=x.size
   have _:=C.size
   have a1:o.heap.size<=u.heap.size:=Nat.le_trans aJ (by omega)
   refine Rn 1 Z (Sq ?_)
   by_cases c3:(j:Int)<(i:Int)
   ·refine Cy Z (dT c3) (Nb (Rr 1 Z (Wa (.ac3 j underlying312 Ia Z Z Z (by omega)) Z (Yk (uz (((⟨no,ps⟩:Dm).put i (some l)).ps j)) Z I (by rw[Nat.mul_one];exact Me ((⟨no,ps⟩:Dm).put i (some l)) (by omega)) (Yx 2 Z (Sq (WC.draw [0,1,2,3,4,5,6,7,8,9,10,11,12,13,14,15,16,17,18,19,20,21,22,23,24,25,26,27,28,30,31,32,33,34,35,36,37,38,29,39,40] mixed (by kernel_rfl) fun aP k=>?_)))))))
    have ai:=az.trans k
    have K:=(aA.le k)
    by_cases hcj:(AB no j).isSome=true
    ·obtain⟨pj,hpj⟩:=Option.isSome_iff_exists.1 hcj
     obtain⟨qj,hqj,bqj⟩:=(K.at (by omega) (by omega)).1 pj hpj
     rw[hqj]
     have ais:=z8 (by omega) (by omega) hpj
     refine Xn 1 Z (Ga Z (.dec (.uE (by kernel_rfl) Z) Z) (Xn 4 Z (Xk (J (pj:Int)) Z bqj Z (Xn 1 Z (F7 Z (.wO pj i (pj/2^i) Z Z Z (by omega) (by show i<=64;omega) Z) (Xn 2 Z (F7 Z (.wO pi i (pi/2^i) Z Z Z (by omega) (by show i<=64;omega) Z) (Xn 2 Z ?_))))))))
     by_cases aB:(((pj/2^i):Nat):Int)=(((pi/2^i):Nat):Int)
     ·refine Xq 1 Z (dT aB) (Xn 4 Z (Xi i Z ?_))
      have aj:=(I.le k)
      refine Xk (.pointer (some ⟨l,0,none⟩)) Z aj (by have:=Me ((⟨no,ps⟩:Dm).put i (some l)) (j:=i) (by omega);rwa [Qy]at this) (Xn 2 Z ?_)
      have aC:=(ah.le k)
      refine Xb (jV (kv seed 20 pi)) Z aC Z (Xn 4 Z (Xk (J (pj:Int)) Z bqj Z (Xn 4 Z (Xi j Z (Xk (.pointer (some ⟨qj,0,none⟩)) Z aj (by have:=Me ((⟨no,ps⟩:Dm).put i (some l)) (j:=j) (by omega);rwa [hqj]at this) (Xn 2 Z (Xb (jV (kv seed 20 pj)) Z bqj Z (Xc Z (Md (kv seed 20 pi) i pj (lu 20 pi hs) (by omega) (by omega) aP) fun a2 y=>?_))))))))
      rw[Jz (by omega) (by omega) ad8.2.2.1.2]
      rw[kF (lu 20 pj hs)]
      refine F7 Z (.dec (.neA afc Z Z (yU.bytes (d:=9998) (kv seed 20 pj) (kv seed 20 pj) underlying23 yC underlying5 (lu 20 pj hs) (lu 20 pj hs))) (congrArg not (dT Z))) (Xx 1 Z (Cf Z (WC.skip (Lp 1 Z Z (E.again (j+1) (.of Z) ?_ ?_)))))
      ·exact⟨by omega,(ai.trans y),by have:=Q;have:=k.size;have:=y.size;omega,(R.le (k.trans y)),(aj.le y),(K.le y),(aC.le y)⟩
      first|omega|(simp only[];omega)
     refine Xq 1 Z (dF aB) (Xx 26 Z (Cf Z (WC.skip (Lp 1 Z Z (E.again (j+1) (.of Z) ?_ ?_)))))
     ·exact⟨by omega,ai,by have:=Q;have:=k.size;omega,(R.le k),(I.le k),K,(ah.le k)⟩
     first|omega|(simp only[];omega)
    have ad9:=Option.not_isSome_iff_eq_none.1 hcj
    have hqj:=(K.at (by omega) (by omega)).2 ad9
    rw[hqj]
    refine Xn 1 Z (Ga Z (.dec (.uE (by kernel_rfl) Z) Z) (Xx 39 Z (Cf Z (WC.skip (Lp 1 Z Z ?_)))))
    refine E.again (j+1) (.of Z) ?_ ?_
    ·exact⟨by omega,ai,by have:=Q;have:=k.size;omega,(R.le k),(I.le k),K,(ah.le k)⟩
    first|omega|(simp only[];omega)
   refine Cn Z (dF c3) (WC.exit (E.jW (E.jW (E.rQ (Lp 1 Z Z (E.again (i+1,((⟨no,ps⟩:Dm).put i (some l)).ps) (.of Z) ?_ ?_))))))
   ·exact⟨by omega,az,by have:=aa;have:=Q;have:=an.size;have:=ar.size;have:=Y.size;have:=O.size;omega,R,I,aA⟩
   first|omega|(simp only[];omega)
  have YQ:=Option.not_isSome_iff_eq_none.1 hci
  refine Yn 2 Z ?_
  by_cases aD:(lastB no i)=true
  ·refine Yq 1 Z (congrArg not aD) (Yn 3 Z ?_)
   have aE:=(F.le f)
   refine Yk (J (no:Int)) Z aE Z (Yq 1 Z (dT (by have:=UY (by omega) (by omega) YQ (by assumption);omega)) (Yx 1 Z (Ct Z (WC.exit (E.jW (E.rQ (E.iM (Rg (Yp Z ?_)))))))))
   refine Yn 1 Z (W.nil (E.again (i+1,ps) (.of Z) ?_ ?_))
   ·exact⟨by omega,L8,by have:=aa;have:=f.size;omega,(Kw (s:=seed) (by omega) YQ▸(D.le f)),aE,((P.le f).skip (by omega) YQ)⟩
   first|omega|(simp only[];omega)
  refine Yq 1 Z (congrArg not (Bool.eq_false_iff.2 aD)) (Yx 6 Z (Ct Z (WC.exit (E.jW (E.rQ (E.iM (Rg (Yp Z (Yn 1 Z ?_)))))))))
  refine W.nil (E.again (i+1,ps) (.of Z) ?_ ?_)
  ·exact⟨by omega,L8,by have:=aa;have:=f.size;omega,(Kw (s:=seed) (by omega) YQ▸(D.le f)),(F.le f),((P.le f).skip (by omega) YQ)⟩
  first|omega|(simp only[];omega)
 refine Cn Z (dF c1) (Ex (Sq (Sr ?_)))
 have aQ:i=21:=by omega
 subst aQ
 refine Yn 1 Z (Yc Z (acQ D) fun a3 S=>Yn 3 Z (Yc Z (abe (show yI _ _ _ _ ([],false)from(D.le S))) fun a4 ak=>Yq 1 Z (show _=false from by first|decide|rfl) (Yx 1 Z (Cf Z (Sn (Rn 3 Z (Rt ?_)))))))
 refine E.lD Z Z Z ?_
 exact⟨_,_,rfl,Nat.le_trans V.size X,(F.le (S.trans ak)),((P.le (S.trans ak)).mono L5.size),rfl,((av.trans S).trans ak)⟩
theorem abB {g b:Nat}(w:World)(hb:ik w g 241 (sV st).toArray)(hK:mX w b st.ps (seed,no,21))(hT:C8 w)(hx:st.nx=no)(hs:seed.length=32)(hn:no<13):Calls prog 187 #[.pointer (some ⟨g,0,none⟩),J (no:Int),.agg (jV (lU seed no)).toArray] w fun r w'=>∃st',r= .returned (J 0)/\ik w' g 241 (sV st').toArray/\mX w' w.heap.size st'.ps (seed,no+1,21)/\st'.nx=no+1/\iX w w' (fun k=>k=g):=by
 have hh:=QS hn
 have hle:=hh.1.1
 refine En func187 Z (Sr (Yv Z fun t C af (V:ik C t 23 (jV (lU seed no)).toArray) D=>Yx 1 Z (Sq (Rr 4 Z ?_))))
 have F:=(hb.le D)
 refine Yk (J (st.nx:Int)) Z F Z (Yf 1 Z (Yf 3 Z (Yx 1 Z (Cf Z (Sn (Rr 1 Z (Yc Z (Ku no (by omega) C) fun X u=>?_)))))))
 have H:=((iX.refl w (fun k=>k=g)).le D).le u
 refine Yx 1 Z (Rr 1 Z (Yc Z (UW no X (hT.chG H hb) (by omega)) fun Y x=>Yx 1 Z (Sq (Rr 4 Z (Wa (.OJ (hgt no) underlying239 Ia Z Z Z (by omega)) Z (Yx 2 Z (Bk (WC.loop (ι:=Nat) (fun j=>[(0,.pointer (some ⟨g,0,none⟩)),(5,.pointer (some ⟨t,0,none⟩)),(7,J (((1048575-no):Nat):Int)),(8,J (hgt no:Int)),(29,.slice (some ⟨g,1,none⟩) (hgt no) 21),(30,J (((hgt no):Nat):Int)),(31,J (j:Int))]) (fun j e=>(j<=hgt no)/\iX w e (fun k=>k=g)/\Y.heap.size<=e.heap.size/\ik e g 241 (sV st).toArray/\ik e t 23 (jV (lU seed no)).toArray) (fun j=>hgt no-j) 0 ?_ ?_ ?_))))))))
 ·exact .of Z
 ·exact⟨Nat.zero_le _,(H.le x),Nat.le_refl _,(F.le (u.trans x)),(V.le (u.trans x))⟩
 rintro j e ⟨hj,I,K,f,y⟩
 refine Rn 1 Z (Sq ?_)
 by_cases L:(j:Int)<(((hgt no):Nat):Int)
 ·refine Cy Z (dT L) (Nb (Sr (Wa (.ac3 j underlying312 Ia Z Z Z (by omega)) Z (Yk (uz (st.ps j)) Z f (by rw[Nat.mul_one];exact Me st (by omega)) (Yx 1 Z (Sq (WC.draw [0,1,2,3,4,5,6,7,8,10,11,12,13,9,14,15] mixed (by kernel_rfl) fun w8 c=>?_)))))))
  have n:=I.le c
  by_cases hcj:(AB no j).isSome=true
  ·obtain⟨pj,hpj⟩:=Option.isSome_iff_exists.1 hcj
   obtain⟨qj,hqj,bqj⟩:=((hK.chG n hb (by decide)).at (by omega) (by omega)).1 pj hpj
   rw[hqj]
   have ais:=z8 (by omega) (by omega) hpj
   refine Xn 1 Z (Ga Z (.dec (.uE (by kernel_rfl) Z) Z) (Xn 1 Z ?_))
   have N:=(y.le c)
   refine Xh Z N (Xn 4 Z (Xk (J (pj:Int)) Z bqj Z (Xn 3 Z (Xb (jV (kv seed 20 pj)) Z bqj Z (Xc Z (Md (lU seed no) (hgt no) pj (lu 20 (1048575-no) hs) (by omega) (by omega) w8) fun ah l=>?_)))))
   rw[show kv (lU seed no) (hgt no) pj=kv seed 20 pj from Jz (by omega) (hh.2.1 j (by omega) pj hpj).symm hh.1.2]
   rw[kF (lu 20 pj hs)]
   refine F7 Z (.dec (.neA afc Z Z (yU.bytes (d:=9998) (kv seed 20 pj) (kv seed 20 pj) underlying23 yC underlying5 (lu 20 pj hs) (lu 20 pj hs))) (congrArg not (dT Z))) (Xx 1 Z (Cf Z (WC.skip (Lp 1 Z Z (E.again (j+1) (.of Z) ?_ ?_)))))
   ·exact⟨by omega,(n.le l),by have:=K;have:=c.size;have:=l.size;omega,(f.le (c.trans l)),(N.le l)⟩
   first|omega|(simp only[];omega)
  have ad9:=Option.not_isSome_iff_eq_none.1 hcj
  have hqj:=((hK.chG n hb (by decide)).at (by omega) (by omega)).2 ad9
  rw[hqj]
  refine Xn 1 Z (Ga Z (.dec (.uE (by kernel_rfl) Z) Z) (Xx 14 Z (Cf Z (WC.skip (Lp 1 Z Z (E.again (j+1) (.of Z) ?_ ?_))))))
  ·exact⟨by omega,n,by have:=K;have:=c.size;omega,(f.le c),(y.le c)⟩
  first|omega|(simp only[];omega)
 refine Cn Z (dF L) (Ex (Sq (WC.draw [0,1,2,3,4,6,7,5,8,9] mixed (by kernel_rfl) fun ai o=>Xn 3 Z (Xh Z (y.le o) (Ga Z (.iF (Mf (⟨(1048575-no),(lU seed no)⟩:Kep)) acG af0 Z Z) (Xn 2 Z (G.ef Z Z Z Z Z (Ef.Tn Z fun m aa aj (ac:ik aa m 245 (Mf (⟨(1048575-no),(lU seed no)⟩:Kep)).toArray) A=>⟨fun _=>A,?_⟩))))))))
 have ad:=(I.le o).le A
 refine Xi (hgt no) Z (G.jR Z Z Z Z (Ef.store Ia Z Z (f.le (o.trans A)) (by simp[IP.len,-List.getD_eq_getElem?_getD];omega) Z ?_))
 intro O s P
 refine noT (by kernel_rfl) ?_
 have s:ik O g 241 (sV (st.put (hgt no) (some m))).toArray:=s.cast (Sy st (some m) (by omega))
 have ae:iX w O (fun k=>k=g):=ad.ch P (fun i hi _=>by cases hi;exact Z)
 refine Gx (Rr 3 Z (Yk (J (st.nx:Int)) Z s Z (Yp Z (Yn 2 Z (W.jR Z Z (Ef.store nC Z Z s (by first|decide|(simp;done)|simp[IP.len]) Z ?_))))))
 intro Q B R
 have B:ik Q g 241 (sV ({(st.put (hgt no) (some m))with nx:=(st.nx+1)})).toArray:=B
 have S:iX w Q (fun k=>k=g):=ae.ch R (fun i hi _=>by cases hi;exact Z)
 refine Nx (Rn 1 Z (Rt ?_))
 have U:g≠m:=by have:=f.lt;have:=o.size;omega
 refine E.iC Z Z ?_
 exact⟨_,rfl,B,mX.add (b:=b) (hK.chG S hb (by decide)) hn ((ac.cn P U).cn R U),by show st.nx+1=_;rw[hx],S⟩
end Go.Proofs.YtkpmaajniagncaaGreatDoor
namespace Go.Sx
theorem Any.Aj {P:Program}{env:Env}{n:Nat}{d:Option Nat}{T:TypeId}{p:String}{af:Array Edge}{g:Option (Nat×Bool)}{x:Operand}{A:Option Addr}{j:Nat}(hA:A.isSome=true)(hx:ev env x=some (ptr A j)):Any P env n ⟨d,.nilCheck x,T,p,af,g⟩ (ptr A j):=by
 obtain⟨ad,rfl⟩:=Option.isSome_iff_exists.1 hA
 exact Any.nilCheck hx
end Go.Sx
namespace Go.Proofs.YtkpmaajniagncaaGreatDoor
open Tryz
open Go Go.Sx Go.Fv Go.Num Go.KJ Go.Gz Go.Lsp Go.JQ Go.yA Go.Scp Go.E8
set_option maxRecDepth 20000
structure jU where
 ch:vM
 kt:Kt
 me:Nat
 h0:Int
 h1:Int
 rt:Int
 lg:Nat->List kT
 mi:Cut
 th:Cut
 un:Cut
 wt:Bool
 sg:yA.BF
 q0:Nat
 q1:Nat
 nk:Nat
 sd:List (BitVec 8)
def jU.hv (z:jU)(i:Nat):Int:=if i=0 then z.h0 else z.h1
def jU.fst (z:jU):ny:=⟨0,z.h0,z.h1,[],z.rt⟩
def jU.lens (z:jU):jw:=⟨(z.lg 0).length,(z.lg 1).length⟩
def jU.si (z:jU)(no:Int):ny:=WE no z.fst (z.lg 0) (z.lg 1)
structure lJ (z:jU):Prop where
 me:z.me<2
 lk:∀i,i<2->pX ((i:Nat):Int) (z.lg i) (z.lg (1-i))
 ln:∀i,i<2->(z.lg i).length<=30
 h0:0<=z.h0/\z.h0<=1125899906842624
 h1:0<=z.h1/\z.h1<=1125899906842624
 rt:0<=z.rt/\z.rt<=1000
 ch:CO z.ch
 rs:kz z.ch.am z.ch.op (z.si 0)
 c8:(z.si 0).cs.length<=8
 kl:z.kt.ch.length=32
theorem lJ.hv {z:jU}(h:lJ z)(i:Nat):0<=z.hv i/\z.hv i<=1125899906842624:=by unfold jU.hv;split;exact h.h0;exact h.h1
def zw (z:jU):Prop:=∀i,i<2->z.mi.n.ix i=((z.lg i).length:Int)/\z.th.n.ix i=((z.lg i).length:Int)
def jU.sp (z:jU)(i:Nat):Int:=z.hv i-AJ (z.lg i) (z.lg (1-i))+AL (z.lg (1-i)) (z.lg i)
def jU.kp (z:jU)(i:Nat):Int:=if(i:Int)=z.ch.op then 200+lF z.rt 16 else 200
structure kZ where
 A:Option Addr
 n:Nat
 c:Nat
structure sF where
 z:jU
 a:Nat->kZ
def cutV (c:Cut):List Value:=[J (c.no:Int),J c.n.a,J c.n.b]
theorem mE:kM cutV 3:=⟨fun _=>rfl,fun x v hv=>by simp[cutV]at hv;rcases hv with rfl|rfl|rfl<;>rfl,by decide⟩
def mg (u:kT):List Value:= J (u.kd:Int)::jl u.c++[.int .u64 (u.sec:Int),.slice none 0 0,J 0,.slice none 0 0]
theorem jK:kM mg 10:=⟨fun _=>rfl,fun x v hv=>by simp[mg,jl]at hv;rcases hv with rfl|rfl|rfl|rfl|rfl|rfl|rfl|rfl|rfl|rfl<;>rfl,by decide⟩
def yE (o:Bz):List Value:=jl o.c++[J (o.at_:Int),J (o.en:Int),.slice none 0 0]++mg o.how
theorem jm:kM yE 18:=⟨fun _=>rfl,fun x v hv=>by
 simp only[yE,List.mem_append]at hv
 rcases hv with(hv|hv)|hv
 ·exact iN.one x.c v hv
 ·simp at hv;rcases hv with rfl|rfl|rfl<;>rfl
 ·exact jK.one x.how v hv,by decide⟩
def tX (m:sF):List Value:=mU m.z.ch++(mD m.z.kt++([J (m.z.me:Int),J 0,J m.z.h0,J m.z.h1,.slice none 0 0,J m.z.rt,.slice (m.a 0).A (m.a 0).n (m.a 0).c,.slice (m.a 1).A (m.a 1).n (m.a 1).c]++(cutV m.z.mi++(cutV m.z.th++(cutV m.z.un++[.bool m.z.wt,.int .u64 (m.z.sg.r:Int),.int .u64 (m.z.sg.s:Int),.int .u64 (m.z.q0:Int),.int .u64 (m.z.q1:Int),.slice (m.a 2).A (m.a 2).n (m.a 2).c,.slice (m.a 3).A (m.a 3).n (m.a 3).c])))))
theorem IU:kM mU 57:=⟨fun c=>by simp[mU],fun c v hv=>by
 simp only[mU,List.mem_append]at hv
 rcases hv with hv|hv
 ·rw[List.eq_of_mem_replicate hv];rfl
 ·simp only[List.mem_cons,List.not_mem_nil,or_false]at hv
  repeat (first|(rcases hv with rfl|hv;· rfl)|(subst hv;rfl)),by decide⟩
theorem qW:kM tX 118:=⟨fun m=>by simp[tX,mU,mD,cutV,jV],fun m v hv=>by
 simp only[tX,List.mem_append]at hv
 rcases hv with hv|hv|hv|hv|hv|hv|hv
 ·exact IU.one m.z.ch v hv
 ·exact xh.one m.z.kt v hv
 ·simp at hv;rcases hv with rfl|rfl|rfl|rfl|rfl|rfl|rfl|rfl<;>rfl
 ·exact mE.one m.z.mi v hv
 ·exact mE.one m.z.th v hv
 ·exact mE.one m.z.un v hv
 ·simp at hv;rcases hv with rfl|rfl|rfl|rfl|rfl|rfl|rfl<;>rfl,by decide⟩
variable {i:Nat}
theorem xw {l:List kT}(h:i<l.length):l.getD i iJ∈l:=by simp[List.getD,h]
theorem kX (h:i<2):i=0\/i=1:=by omega
theorem pg (h:i<2):1-(1-i)=i:=by omega
theorem QB (c:Cut){j:Nat}(h:j<2):(cutV c).toArray[1+j]? =some (J (c.n.ix j)):=by rcases kX h with rfl|rfl<;>rfl
theorem SC (c:Cut)(v:Int){j:Nat}(h:j<2):(cutV c).toArray.setIfInBounds (1+j) (J v)=(cutV (c.put j v)).toArray:=by rcases kX h with rfl|rfl<;>rfl
theorem abC (m:sF){j:Nat}(h:j<2):(tX m).toArray[96+j]? =some (J (m.z.hv j)):=by rcases kX h with rfl|rfl<;>rfl
theorem oM (m:sF){j:Nat}(h:j<2):(tX m).toArray[100+j]? =some (.slice (m.a j).A (m.a j).n (m.a j).c):=by rcases kX h with rfl|rfl<;>rfl
def j5 (a:Nat->kZ)(j:Nat)(s:kZ):Nat->kZ:=fun i=>if i=j then s else a i
theorem Da (a:Nat->kZ)(j:Nat)(s:kZ):j5 a j s j=s:=if_pos Z
theorem vQ (a:Nat->kZ){i j:Nat}(s:kZ)(h:i≠j):j5 a j s i=a i:=if_neg h
theorem xx (a:Nat->kZ)(j:Nat):j5 a j (a j)=a:=funext fun i=>by unfold j5;split<;>simp_all
theorem U0 (m:sF)(s:kZ){j:Nat}(h:j<2):(tX m).toArray.setIfInBounds (100+j) (.slice s.A s.n s.c)=(tX ⟨m.z,j5 m.a j s⟩).toArray:=by rcases kX h with rfl|rfl<;>rfl
theorem YR (m:sF){j:Nat}(h:j<2):(tX m).toArray[103+j]? =some (J (m.z.mi.n.ix j)):=by rcases kX h with rfl|rfl<;>rfl
theorem YS (m:sF){j:Nat}(h:j<2):(tX m).toArray[106+j]? =some (J (m.z.th.n.ix j)):=by rcases kX h with rfl|rfl<;>rfl
theorem YT (m:sF){j:Nat}(h:j<2):(tX m).toArray[34+j*5+0]? =some (.int .u64 (m.z.ch.b j 0:Int)):=by rcases kX h with rfl|rfl<;>rfl
theorem agN (m:sF){j:Nat}(h:j<2):(tX m).toArray[44+j*6+1]? =some (J 200):=by rcases kX h with rfl|rfl<;>rfl
theorem ait (m:sF){j:Nat}(h:j<2):((tX m).toArray.toList.drop (44+j*6)).take 6=[J 100,J 200,J (5+(j:Int)),J 16,J 1,J 1125899906842624]:=by rcases kX h with rfl|rfl<;>rfl
structure Al (w:World)(g:Nat)(z:jU)(a:Nat->kZ):Prop where
 b:ik w g 80 (tX ⟨z,a⟩).toArray
 l:∀i,i<2->Vec w mg 10 (a i).A (a i).n (z.lg i)
 cap:∀i,i<2->(a i).n<=(a i).c
variable {w:World}
theorem Al.mk2 {g of b1 b2 e1 e2:Nat}{z:jU}{a:Nat->kZ}(h:of<2)(hB:ik w g 80 (tX ⟨z,a⟩).toArray)(hO:iy w b1 e1 mg 10 (a of).A (a of).n (a of).c (z.lg of))(hP:iy w b2 e2 mg 10 (a (1-of)).A (a (1-of)).n (a (1-of)).c (z.lg (1-of))):Al w g z a:=by
 have key:∀i,i<2->i=of\/i=1-of:=fun i hi=>by omega
 exact⟨hB,fun i hi=>by rcases key i hi with rfl|rfl;exact hO.vec;exact hP.vec,fun i hi=>by rcases key i hi with rfl|rfl;exact hO.cap.1;exact hP.cap.1⟩
theorem Al.le {w':World}{g:Nat}{z:jU}{a:Nat->kZ}(h:Al w g z a)(k:Le w w'):Al w' g z a:=⟨h.b.le k,fun i hi=>(h.l i hi).le k,h.cap⟩
theorem Bq (rt:Int)(hr:0<=rt/\rt<=1000)(w:World):Calls prog 78 #[J (rt)] w fun r w'=>r= .returned (J (lF rt 16))/\Le w w':=by
 refine En func78 Z (Rn 1 Z (Rr 1 Z (Yc Z (LG rt 16 (by omega) (by omega) w) fun d c=>Yp Z (Yy 1 Z Z Z ?_))))
 exact⟨rfl,((Le.refl w).trans c)⟩
theorem Db {g:Nat}{z:jU}{a:Nat->kZ}(of:Nat)(hof:of<2)(w:World)(hS:Al w g z a)(hz:lJ z)(hfu:zw z):Calls prog 215 #[.pointer (some ⟨g,0,none⟩),J (of:Int)] w fun r w'=>r= .returned (J ((z.lg of).length:Int))/\Le w w':=by
 obtain⟨hm,ht⟩:=hfu of hof
 refine En func215 Z (WC.sr (Yn 1 Z (W.nx (WC.seq (WC.draw [0,1,2,3,4,5,6,7,8,9,10,11,12,13,14,15] mixed (by kernel_rfl) fun e d=>?_)))))
 have c:=(Le.refl w).trans d
 refine Xn 5 Z (Xi of Z (Xk (J (z.mi.n.ix of)) Z (hS.b.le c) (YR (⟨z,a⟩:sF) (by omega)) (Xn 5 Z (Xi of Z (Xk (J (z.th.n.ix of)) Z (hS.b.le c) (YS (⟨z,a⟩:sF) (by omega)) (Gd Z (.min2 Z Z) (Xx 1 Z (WC.ret (E.iC Z Z ?_)))))))))
 exact⟨by rw[hm,ht];simp,c⟩
theorem vg {g:Nat}{z:jU}{a:Nat->kZ}(of:Nat)(hof:of<2)(w:World)(hS:Al w g z a)(hz:lJ z):Calls prog 84 #[.pointer (some ⟨g,0,none⟩),J (of:Int)] w fun r w'=>∃A' c' rs,r= .returned (.slice A' rs.length c')/\iy w' w.heap.size 209 yE 18 A' rs.length c' rs/\yo rs (z.lg of) (z.lg (1-of))/\Le w w':=by
 have aL:=(hS.l of (by omega)).1
 have av:=(hS.l (1-of) (by omega)).1
 have aM:=hz.ln of (by omega)
 have aN:=hz.ln (1-of) (by omega)
 refine En func84 Z ?_
 have f:=Le.refl w
 refine Rn 1 Z (Rn 1 Z (Sq (Rr 4 Z (Yi of Z (Yk (.slice ((a of).A) ((a of).n) ((a of).c)) Z (hS.b.le f) (oM (⟨z,a⟩:sF) (by omega)) (Yx 2 Z (Bk (WC.loop (ι:=Nat×(List Bz)×Nat×(Option Addr)×Nat) (fun⟨k,rs,nr,Ax,cx⟩=>[(0,.pointer (some ⟨g,0,none⟩)),(1,J (of:Int)),(5,.slice Ax nr cx),(16,.slice ((a of).A) ((a of).n) ((a of).c)),(17,J ((a of).n:Int)),(18,J (k:Int))]) (fun⟨k,rs,nr,Ax,cx⟩ u=>(k<=(a of).n)/\(xc rs (z.lg of) (a (1-of)).n k)/\(nr=rs.length)/\Le w u/\w.heap.size<=u.heap.size/\iy u w.heap.size 209 yE 18 Ax nr cx rs) (fun⟨k,rs,nr,Ax,cx⟩=>(a of).n-k) (0,[],0,none,0) ?_ ?_ ?_))))))))
 ·exact .of Z
 ·exact⟨Nat.zero_le _,xc.nil _ _,rfl,f,Nat.le_refl _,(iy.nil w w.heap.size 209 yE 18 none)⟩
 rintro⟨k,rs,nr,Ax,cx⟩ u ⟨hk,hra,hnr,B,U,C⟩
 have V:w.heap.size<=u.heap.size:=by omega
 have hrl:=hra.len
 have hal:=rY ((z.lg of).take k)
 rw[List.length_take]at hal
 refine Rn 1 Z (Sq ?_)
 by_cases X:(k:Int)<((a of).n:Int)
 ·refine Cy Z (dT X) (Nb (Rr 1 Z (Ys k Z ((hS.l of (by omega)).isSome jK (by omega)) (Wr (.lX Li Z ((hS.l of (by omega)).le B) jK (jN (z.lg of) iJ (by first|omega|(simp only[List.length_cons,List.length_nil];omega)))) Z (Yz Z z85 fun Y aw ax (ay:ik aw Y 85 (mg iJ).toArray) x=>Yn 1 Z (Yw Z ay (jK.one ((z.lg of).getD k iJ)) ?_))))))
  intro az I y
  have I:ik az Y 85 (mg ((z.lg of).getD k iJ)).toArray:=I
  have L2:=(B.trans x).tb y B ax
  refine Nx (Rr 1 Z (Yk (J (((z.lg of).getD k iJ).kd:Int)) Z I Z (Yx 1 Z ?_)))
  by_cases c1:(((z.lg of).getD k iJ).kd:Int)=1
  ·refine Cy Z (dT c1) (WC.draw [0,1,2,3,4,5,6,7,8,9,10,11,12,13,14,15,16,17] mixed (by kernel_rfl) fun w6 D=>?_)
   have L3:=L2.trans D
   refine Xn 2 Z ?_
   have f4:=(I.le D)
   refine Xb (jl (((z.lg of).getD k iJ).c)) Z f4 Z (Xn 3 Z (Ga Z (.as (.sub Z Z (by omega)) (int_eq (b:=((1-of:Nat):Int)) (by omega))) (Xn 2 Z (Xi (1-of) Z (Xk (.slice ((a (1-of)).A) ((a (1-of)).n) ((a (1-of)).c)) Z (hS.b.le L3) (oM (⟨z,a⟩:sF) (by omega)) (Xn 2 Z (Xk (.slice none 0 0) Z f4 Z (Ga Z (.iF (yE (⟨(((z.lg of).getD k iJ).c),k,(a (1-of)).n,iJ⟩:Bz)) agr TU Z Z) (G.ef Z Z Z Z Z ?_)))))))))
   refine Ef.iw (len:=1) [_] underlying206 RF Z (by simp[Value.cells,jm.len]) Z (by decide) (by decide) ?_
   intro aa ac aA K F
   refine⟨fun _=>F,?_⟩
   have K:ik ac aa 209 (([(⟨(((z.lg of).getD k iJ).c),k,(a (1-of)).n,iJ⟩:Bz)]).map yE).flatten.toArray:=K
   have aO:iy ac w6.heap.size 209 yE 18 (some ⟨aa,0,none⟩) 1 1 ([(⟨(((z.lg of).getD k iJ).c),k,(a (1-of)).n,iJ⟩:Bz)]):=K.j4 aA jm Z Z (by decide)
   have f6:=(((C.le x).cb y (C.rn (by omega))).le (D.trans F))
   have _:=x.size
   have _:=y.size
   have _:=D.size
   refine G.ef Z Z Z Z Z (Ef.vJ (a:=(⟨(((z.lg of).getD k iJ).c),k,(a (1-of)).n,iJ⟩:Bz)) underlying206 RF underlying206 jm Z f6 Z K (by omega) (by unfold maxLen;omega) (by have:=V;have:=F.size;omega) ?_)
   intro aB aC aP aD ad aQ
   refine noT (by kernel_rfl) (Xn 1 Z (G.nil (Lp 1 Z Z (E.again (k+1,(rs++[(⟨(((z.lg of).getD k iJ).c),k,(a (1-of)).n,iJ⟩:Bz)]),(nr+1),aB,aC) (.of Z) ?_ ?_))))
   ·exact⟨by omega,(hra.add (by omega) (by omega)),(by rw[List.length_append,hnr];rfl),((L3.trans F).ja ad (fun q hq=>Nat.le_trans f.size (f6.row hq).1)),by have:=U;have:=F.size;have:=ad.size;omega,aD⟩
   first|omega|(simp only[];omega)
  refine Cn Z (dF c1) (WC.skip (Lp 1 Z Z ?_))
  have f8:=((C.le x).cb y (C.rn (by omega)))
  refine E.again (k+1,rs,nr,Ax,cx) (.of Z) ?_ ?_
  ·exact⟨by omega,(hra.skip (by omega) (by omega)),hnr,L2,by have:=U;have:=x.size;have:=y.size;omega,f8⟩
  first|omega|(simp only[];omega)
 refine Cn Z (dF X) (Ex (Sq (Rr 2 Z (Wa (.as (.sub Z Z (by omega)) (int_eq (b:=((1-of:Nat):Int)) (by omega))) Z (Yn 2 Z (Yi (1-of) Z (Yk (.slice ((a (1-of)).A) ((a (1-of)).n) ((a (1-of)).c)) Z (hS.b.le B) (oM (⟨z,a⟩:sF) (by omega)) (Yx 2 Z (Bk ?_)))))))))
 refine WC.loop (ι:=Nat×(List Bz)×(Option Addr)×Nat) (fun⟨i,rt,Ay,cy⟩=>[(5,.slice Ay nr cy),(50,.slice ((a (1-of)).A) ((a (1-of)).n) ((a (1-of)).c)),(51,J ((a (1-of)).n:Int)),(52,J (i:Int))]) (fun⟨i,rt,Ay,cy⟩ H=>(i<=(a (1-of)).n)/\(y9 rt (z.lg of) (z.lg (1-of)) i)/\(nr=rt.length)/\Le w H/\u.heap.size<=H.heap.size/\iy H w.heap.size 209 yE 18 Ay nr cy rt) (fun⟨i,rt,Ay,cy⟩=>(a (1-of)).n-i) (0,rs,Ax,cx) ?_ ?_ ?_
 ·exact .of Z
 ·exact⟨Nat.zero_le _,(xc.all (by rw[av,show(z.lg of).length=k by omega];exact hra)),hnr,B,Nat.le_refl _,C⟩
 rintro⟨i,rt,Ay,cy⟩ H ⟨hi,hri,hns,L,O,d⟩
 have aR:w.heap.size<=H.heap.size:=Nat.le_trans V (by omega)
 have hrl:=hri.len
 have hal:=rY (z.lg of)
 refine Rn 1 Z (Sq ?_)
 by_cases c2:(i:Int)<((a (1-of)).n:Int)
 ·refine Cy Z (dT c2) (Nb (Rr 1 Z (Ys i Z ((hS.l (1-of) (by omega)).isSome jK (by omega)) (Wr (.lX Li Z ((hS.l (1-of) (by omega)).le L) jK (jN (z.lg (1-of)) iJ (by first|omega|(simp only[List.length_cons,List.length_nil];omega)))) Z (Yz Z z85 fun N aE aF (aG:ik aE N 85 (mg iJ).toArray) s=>Yn 1 Z (Yw Z aG (jK.one ((z.lg (1-of)).getD i iJ)) ?_))))))
  intro aH m t
  have m:ik aH N 85 (mg ((z.lg (1-of)).getD i iJ)).toArray:=m
  have P:=(L.trans s).tb t L aF
  refine Nx (Rr 1 Z (Yk (J (((z.lg (1-of)).getD i iJ).kd:Int)) Z m Z (Yn 1 Z ?_)))
  by_cases ae:(((z.lg (1-of)).getD i iJ).kd:Int)=2
  ·refine Dt ae Z Z (Yx 4 Z (Ct Z ?_))
   have hde:=(hz.lk of (by omega)).ends _ (xw (l:=z.lg (1-of)) (i:=i) (by omega)) (by omega)
   refine Rr 3 Z (Yk (J ((((z.lg (1-of)).getD i iJ).c).id)) Z m Z (Yp Z (Ys ((((((z.lg (1-of)).getD i iJ).c).id)-1).toNat) Z (d.vec.isSome jm (by omega)) (Yx 1 Z (WC.Q3 (fun Q w'=>Le w w'/\ik w' N 85 (mg ((z.lg (1-of)).getD i iJ)).toArray) [0,1,2,3,4,5,6,7,8,9] mixed (by kernel_rfl) fun Q e=>?_)))))
   have af:=P.trans e
   have ah:=(m.le e)
   refine⟨⟨af,ah⟩,?_⟩
   refine GR.any Z Z (.move Z) Z Z Z (GR.any Z Z (.move Z) Z Z Z (GR.any Z Z (.move Z) Z Z Z (GR.rd Z Z (fun w' hs=> .jM Li (by rfl) Z hs.2) Z Z Z ?_)))
   refine GR.any Z Z (.Aj (d.vec.isSome jm (by omega)) Z) Z Z Z (GR.any Z Z (.Hd RJ (d.vec.isSome jm (by omega)) Z) Z Z Z ?_)
   have ai:=(((d.le s).cb t (d.rn (by omega))).le e)
   refine GR.jR Z Z Z Z (Ef.Tv (j:=(((((z.lg (1-of)).getD i iJ).c).id)-1).toNat) (o:=6) ({(rt.getD ((((((z.lg (1-of)).getD i iJ).c).id)-1).toNat) iE)with en:=i}:Bz) nC Z (by omega) Z ai jm (jN rt iE (by omega)) (by decide) Z Z fun aS aj R=>?_)
   have ak:=af.ja R (fun q hq=>Nat.le_trans f.size (ai.row hq).1)
   refine⟨fun _=>⟨ak,(ah.ch R (d.rn (by omega)))⟩,?_⟩
   refine GR.any Z Z (.Aj (d.vec.isSome jm (by omega)) Z) Z Z Z (GR.any Z Z (.Hd RL (d.vec.isSome jm (by omega)) Z) Z Z Z (GR.jR Z Z Z Z ?_))
   refine Ef.acd (j:=(((((z.lg (1-of)).getD i iJ).c).id)-1).toNat) (o:=8) ({((rt.set ((((((z.lg (1-of)).getD i iJ).c).id)-1).toNat) ({(rt.getD ((((((z.lg (1-of)).getD i iJ).c).id)-1).toNat) iE)with en:=i}:Bz)).getD ((((((z.lg (1-of)).getD i iJ).c).id)-1).toNat) iE)with how:=(z.lg (1-of)).getD i iJ}:Bz) P5 (by rfl) Z (by omega) Z aj jm (jN (rt.set ((((((z.lg (1-of)).getD i iJ).c).id)-1).toNat) ({(rt.getD ((((((z.lg (1-of)).getD i iJ).c).id)-1).toNat) iE)with en:=i}:Bz)) iE (by first|omega|(rw[List.length_set];omega))) (by show 8+10<=18;decide) Z (jK.one ((z.lg (1-of)).getD i iJ)) ?_
   intro aT aI al
   refine noT (by kernel_rfl) (GR.nil (E.jD (E.iM (WC.region (Wa (.add Z Z (by omega)) Z (Wn 1 Z (W.nil (E.again (i+1,((rt.set ((((((z.lg (1-of)).getD i iJ).c).id)-1).toNat) ({(rt.getD ((((((z.lg (1-of)).getD i iJ).c).id)-1).toNat) iE)with en:=i}:Bz)).set ((((((z.lg (1-of)).getD i iJ).c).id)-1).toNat) ({((rt.set ((((((z.lg (1-of)).getD i iJ).c).id)-1).toNat) ({(rt.getD ((((((z.lg (1-of)).getD i iJ).c).id)-1).toNat) iE)with en:=i}:Bz)).getD ((((((z.lg (1-of)).getD i iJ).c).id)-1).toNat) iE)with how:=(z.lg (1-of)).getD i iJ}:Bz)),Ay,cy) (.of Z) ?_ ?_))))))))
   ·exact⟨by omega,(by rw[List.set_set];exact hri.end_ (hz.lk of (by omega)) (by omega) (by omega) (by omega) (q:=(((z.lg (1-of)).getD i iJ).c.id-1).toNat) (by omega) (by omega) (by rw[DR (by omega),if_pos Z])),(by rw[List.length_set,List.length_set];exact hns),(ak.ja al (fun q hq=>Nat.le_trans f.size (aj.row hq).1)),by have:=O;have:=s.size;have:=t.size;have:=e.size;have:=R.size;have:=al.size;omega,aI⟩
   first|omega|(simp only[];omega)
  refine Df ae Z Z (Yn 1 Z (Yk (J (((z.lg (1-of)).getD i iJ).kd:Int)) Z m Z (Yx 2 Z ?_)))
  by_cases c3:(((z.lg (1-of)).getD i iJ).kd:Int)=3
  ·refine Cy Z (dT c3) ?_
   have hde:=(hz.lk of (by omega)).ends _ (xw (l:=z.lg (1-of)) (i:=i) (by omega)) (by omega)
   refine Rr 3 Z (Yk (J ((((z.lg (1-of)).getD i iJ).c).id)) Z m Z (Yp Z (Ys ((((((z.lg (1-of)).getD i iJ).c).id)-1).toNat) Z (d.vec.isSome jm (by omega)) (Yx 1 Z (WC.Q3 (fun Q w'=>Le w w'/\ik w' N 85 (mg ((z.lg (1-of)).getD i iJ)).toArray) [0,1,2,3,4,5,6,7,8,9] mixed (by kernel_rfl) fun Q e=>?_)))))
   have an:=P.trans e
   have ao:=(m.le e)
   refine⟨⟨an,ao⟩,?_⟩
   refine GR.any Z Z (.move Z) Z Z Z (GR.any Z Z (.move Z) Z Z Z (GR.any Z Z (.move Z) Z Z Z (GR.rd Z Z (fun w' hs=> .jM Li (by rfl) Z hs.2) Z Z Z ?_)))
   refine GR.any Z Z (.Aj (d.vec.isSome jm (by omega)) Z) Z Z Z (GR.any Z Z (.Hd RJ (d.vec.isSome jm (by omega)) Z) Z Z Z ?_)
   have ap:=(((d.le s).cb t (d.rn (by omega))).le e)
   refine GR.jR Z Z Z Z (Ef.Tv (j:=(((((z.lg (1-of)).getD i iJ).c).id)-1).toNat) (o:=6) ({(rt.getD ((((((z.lg (1-of)).getD i iJ).c).id)-1).toNat) iE)with en:=i}:Bz) nC Z (by omega) Z ap jm (jN rt iE (by omega)) (by decide) Z Z fun aU aq S=>?_)
   have ar:=an.ja S (fun q hq=>Nat.le_trans f.size (ap.row hq).1)
   refine⟨fun _=>⟨ar,(ao.ch S (d.rn (by omega)))⟩,?_⟩
   refine GR.any Z Z (.Aj (d.vec.isSome jm (by omega)) Z) Z Z Z (GR.any Z Z (.Hd RL (d.vec.isSome jm (by omega)) Z) Z Z Z (GR.jR Z Z Z Z ?_))
   refine Ef.acd (j:=(((((z.lg (1-of)).getD i iJ).c).id)-1).toNat) (o:=8) ({((rt.set ((((((z.lg (1-of)).getD i iJ).c).id)-1).toNat) ({(rt.getD ((((((z.lg (1-of)).getD i iJ).c).id)-1).toNat) iE)with en:=i}:Bz)).getD ((((((z.lg (1-of)).getD i iJ).c).id)-1).toNat) iE)with how:=(z.lg (1-of)).getD i iJ}:Bz) P5 (by rfl) Z (by omega) Z aq jm (jN (rt.set ((((((z.lg (1-of)).getD i iJ).c).id)-1).toNat) ({(rt.getD ((((((z.lg (1-of)).getD i iJ).c).id)-1).toNat) iE)with en:=i}:Bz)) iE (by first|omega|(rw[List.length_set];omega))) (by show 8+10<=18;decide) Z (jK.one ((z.lg (1-of)).getD i iJ)) ?_
   intro aV aJ au
   refine noT (by kernel_rfl) (GR.nil (E.jD (E.iM (WC.region (Wa (.add Z Z (by omega)) Z (Wn 1 Z (W.nil (E.again (i+1,((rt.set ((((((z.lg (1-of)).getD i iJ).c).id)-1).toNat) ({(rt.getD ((((((z.lg (1-of)).getD i iJ).c).id)-1).toNat) iE)with en:=i}:Bz)).set ((((((z.lg (1-of)).getD i iJ).c).id)-1).toNat) ({((rt.set ((((((z.lg (1-of)).getD i iJ).c).id)-1).toNat) ({(rt.getD ((((((z.lg (1-of)).getD i iJ).c).id)-1).toNat) iE)with en:=i}:Bz)).getD ((((((z.lg (1-of)).getD i iJ).c).id)-1).toNat) iE)with how:=(z.lg (1-of)).getD i iJ}:Bz)),Ay,cy) (.of Z) ?_ ?_))))))))
   ·exact⟨by omega,(by rw[List.set_set];exact hri.end_ (hz.lk of (by omega)) (by omega) (by omega) (by omega) (q:=(((z.lg (1-of)).getD i iJ).c.id-1).toNat) (by omega) (by omega) (by rw[DR (by omega),if_pos Z])),(by rw[List.length_set,List.length_set];exact hns),(ar.ja au (fun q hq=>Nat.le_trans f.size (aq.row hq).1)),by have:=O;have:=s.size;have:=t.size;have:=e.size;have:=S.size;have:=au.size;omega,aJ⟩
   first|omega|(simp only[];omega)
  refine Cn Z (dF c3) ?_
  have hkd:=(hz.lk (1-of) (by omega)).kd _ (xw (l:=z.lg (1-of)) (i:=i) (by omega))
  refine WC.skip (Lp 1 Z Z ?_)
  have aK:=((d.le s).cb t (d.rn (by omega)))
  refine E.again (i+1,rt,Ay,cy) (.of Z) ?_ ?_
  ·exact⟨by omega,(hri.skip (by omega) (by omega)),hns,P,by have:=O;have:=s.size;have:=t.size;omega,aK⟩
  first|omega|(simp only[];omega)
 refine Cn Z (dF c2) (Ex (Ry 2 Z Z Z ?_))
 subst hns
 exact⟨_,_,_,rfl,(d.mono f.size),y9.all (by rw[show(z.lg (1-of)).length=i by omega];exact hri),L⟩
theorem aea {rt:Int}(h:0<=rt/\rt<=1000):0<=lF rt 16/\lF rt 16<=1000000:=by unfold lF;omega
theorem YU {g:Nat}{z:jU}{a:Nat->kZ}(of:Nat)(hof:of<2)(w:World)(hS:Al w g z a)(hz:lJ z)(hfu:zw z):Calls prog 216 #[.pointer (some ⟨g,0,none⟩),J (of:Int)] w fun r w'=>r= .returned (J (z.sp of))/\Le w w':=by
 have ay:=(hS.l of (by omega)).1
 have az:=(hS.l (1-of) (by omega)).1
 have aA:=hz.ln of (by omega)
 have aB:=hz.ln (1-of) (by omega)
 have i:=hz.lk of (by omega)
 have m:=hz.lk (1-of) (by omega)
 rw[pg hof]at m
 have hhv:=hz.hv of
 refine En func216 Z ?_
 have H:=Le.refl w
 refine Rn 1 Z (Rr 5 Z (Yi of Z (Yk (J (z.hv of)) Z (hS.b.le H) (abC (⟨z,a⟩:sF) (by omega)) (Yx 1 Z (Sq (Rr 2 Z (Yd Z (vg of (by omega) w (hS.le H) hz) ?_)))))))
 rintro _ al ⟨Q,R,d,rfl,S,B,U⟩
 have aC:=B.len
 refine Yx 2 Z (Bk (WC.loop (ι:=Nat×Int) (fun⟨k,h⟩=>[(0,.pointer (some ⟨g,0,none⟩)),(1,J (of:Int)),(5,J h),(19,.slice Q d.length R),(20,J (d.length:Int)),(21,J (k:Int))]) (fun⟨k,h⟩ o=>(k<=d.length)/\(h=z.hv of-xe Jk (z.lg of) (z.lg (1-of)) k)/\Le w o/\al.heap.size<=o.heap.size/\iy o w.heap.size 209 yE 18 Q d.length R d) (fun⟨k,h⟩=>d.length-k) (0,(z.hv of)) ?_ ?_ ?_))
 ·exact .of Z
 ·exact⟨Nat.zero_le _,(by rw[zT];omega),(H.trans U),Nat.le_refl _,S⟩
 rintro⟨k,h⟩ o ⟨hk,hh,I,K,D⟩
 have aD:w.heap.size<=o.heap.size:=by have:=U.size;omega
 have hsu:=i.sum Jk k
 have hal:=rY (z.lg of)
 refine Rn 1 Z (Sq ?_)
 by_cases V:(k:Int)<(d.length:Int)
 ·refine Cy Z (dT V) ?_
  have ham:=B.am i (k:=k) (by omega)
  refine Nb (Sr (Ys k Z (S.vec.isSome jm (by omega)) (Wr (.lX NT Z D.vec jm (jN d iE (by omega))) Z (W.ab Z TU JX (jm.one (d.getD k iE)) fun an ao aE (ap:ik ao an 209 (yE (d.getD k iE)).toArray) x=>Nx (Sq (WC.draw [0,1,2,3,4,5,6,7,8,9,10,11,12] mixed (by kernel_rfl) ?_))))))
  intro w5 s
  have X:=(I.trans x).trans s
  refine Xn 1 Z ?_
  have L:=(ap.le s)
  refine Xk (J ((d.getD k iE).en:Int)) Z L Z (Xn 2 Z (Ga Z (.as (.sub Z Z (by omega)) (int_eq (b:=((1-of:Nat):Int)) (by omega))) (Xc Z (Db (1-of) (by omega) w5 (hS.le X) hz hfu) fun aF f=>?_)))
  have N:=X.trans f
  refine Xn 1 Z ?_
  by_cases Y:((z.lg (1-of)).length:Int)<=((d.getD k iE).en:Int)
  ·refine Xq 1 Z (dT Y) (Xx 5 Z (Ct Z (Rg (Yn 3 Z (Yk (J (((d.getD k iE).c).am)) Z (L.le f) Z (Yp Z (Yn 1 Z (W.nil (Lp 1 Z Z (E.again (k+1,(h-(((d.getD k iE).c).am))) (.of Z) ?_ ?_))))))))))
   ·exact⟨by omega,(by rw[B.out i m (by omega),if_pos (by omega)];omega),N,by have:=K;have:=x.size;have:=s.size;have:=f.size;omega,(D.le (x.trans (s.trans f)))⟩
   first|omega|(simp only[];omega)
  refine Xq 1 Z (dF Y) (Xn 2 Z ?_)
  have f8:=(L.le f)
  refine Xk (J (((d.getD k iE).how).kd:Int)) Z f8 Z (Xx 2 Z ?_)
  by_cases c1:(((d.getD k iE).how).kd:Int)=2
  ·refine Cy Z (dT c1) (Rg (Yn 3 Z (Yk (J (((d.getD k iE).c).am)) Z f8 Z (Yp Z (Yn 1 Z (W.nil (Lp 1 Z Z (E.again (k+1,(h-(((d.getD k iE).c).am))) (.of Z) ?_ ?_))))))))
   ·exact⟨by omega,(by rw[B.out i m (by omega),if_pos (by omega)];omega),N,by have:=K;have:=x.size;have:=s.size;have:=f.size;omega,(D.le (x.trans (s.trans f)))⟩
   first|omega|(simp only[];omega)
  refine Cn Z (dF c1) (WC.skip (Lp 1 Z Z (E.again (k+1,h) (.of Z) ?_ ?_)))
  ·exact⟨by omega,(by rw[B.out i m (by omega),if_neg (by omega)];omega),N,by have:=K;have:=x.size;have:=s.size;have:=f.size;omega,(D.le (x.trans (s.trans f)))⟩
  first|omega|(simp only[];omega)
 refine Cn Z (dF V) (Ex (Sq (Rr 2 Z (Wa (.as (.sub Z Z (by omega)) (int_eq (b:=((1-of:Nat):Int)) (by omega))) Z (Yd Z (vg (1-of) (by omega) o (hS.le I) hz) ?_)))))
 rintro _ aq ⟨aa,ac,e,rfl,ad,y,ae⟩
 have aG:=y.len
 rw[pg (by assumption)]at y
 refine Yx 2 Z (Bk (WC.loop (ι:=Nat×Int) (fun⟨j,t⟩=>[(0,.pointer (some ⟨g,0,none⟩)),(1,J (of:Int)),(5,J t),(47,.slice aa e.length ac),(48,J (e.length:Int)),(49,J (j:Int))]) (fun⟨j,t⟩ C=>(j<=e.length)/\(t=h+xe E8.rG (z.lg (1-of)) (z.lg of) j)/\Le w C/\aq.heap.size<=C.heap.size/\iy C o.heap.size 209 yE 18 aa e.length ac e) (fun⟨j,t⟩=>e.length-j) (0,h) ?_ ?_ ?_))
 ·exact .of Z
 ·exact⟨Nat.zero_le _,(by rw[zT];omega),(I.trans ae),Nat.le_refl _,ad⟩
 rintro⟨j,t⟩ C ⟨hj,ar,af,O,F⟩
 have aH:o.heap.size<=C.heap.size:=by have:=ae.size;omega
 have hsu:=i.sum Jk k
 have hsv:=m.sum rG j
 have hal:=rY (z.lg of)
 have aI:=rY (z.lg (1-of))
 refine Rn 1 Z (Sq ?_)
 by_cases c2:(j:Int)<(e.length:Int)
 ·refine Cy Z (dT c2) ?_
  have ham:=y.am m (k:=j) (by omega)
  refine Nb (Sr (Ys j Z (ad.vec.isSome jm (by omega)) (Wr (.lX NT Z F.vec jm (jN e iE (by omega))) Z (W.ab Z TU JX (jm.one (e.getD j iE)) fun au av aJ (aw:ik av au 209 (yE (e.getD j iE)).toArray) A=>Nx (Sq (WC.draw [0,1,2,3,4,5,6,7,8,9,10,11] mixed (by kernel_rfl) ?_))))))
  intro ax u
  have ah:=(af.trans A).trans u
  refine Xn 1 Z ?_
  have ai:=(aw.le u)
  refine Xk (J ((e.getD j iE).en:Int)) Z ai Z (Xn 2 Z (Xc Z (Db of (by omega) ax (hS.le ah) hz hfu) fun aK n=>?_))
  have P:=ah.trans n
  refine Xn 1 Z ?_
  by_cases aj:((e.getD j iE).en:Int)<((z.lg of).length:Int)
  ·refine Xq 1 Z (dT aj) (Xn 2 Z ?_)
   have ak:=(ai.le n)
   refine Xk (J (((e.getD j iE).how).kd:Int)) Z ak Z (Xx 2 Z ?_)
   by_cases c3:(((e.getD j iE).how).kd:Int)=2
   ·refine Cy Z (dT c3) (Rg (Yn 3 Z (Yk (J (((e.getD j iE).c).am)) Z ak Z (Yp Z (Yn 1 Z (W.nil (Lp 1 Z Z (E.again (j+1,(t+(((e.getD j iE).c).am))) (.of Z) ?_ ?_))))))))
    ·exact⟨by omega,(by rw[y.got m i (by omega),if_pos (by omega)];omega),P,by have:=O;have:=A.size;have:=u.size;have:=n.size;omega,(F.le (A.trans (u.trans n)))⟩
    first|omega|(simp only[];omega)
   refine Cn Z (dF c3) (WC.skip (Lp 1 Z Z (E.again (j+1,t) (.of Z) ?_ ?_)))
   ·exact⟨by omega,(by rw[y.got m i (by omega),if_neg (by omega)];omega),P,by have:=O;have:=A.size;have:=u.size;have:=n.size;omega,(F.le (A.trans (u.trans n)))⟩
   first|omega|(simp only[];omega)
  refine Xq 1 Z (dF aj) (Xx 5 Z (Cf Z (WC.skip (Lp 1 Z Z (E.again (j+1,t) (.of Z) ?_ ?_)))))
  ·exact⟨by omega,(by rw[y.got m i (by omega),if_neg (by omega)];omega),P,by have:=O;have:=A.size;have:=u.size;have:=n.size;omega,(F.le (A.trans (u.trans n)))⟩
  first|omega|(simp only[];omega)
 refine Cn Z (dF c2) (Ex (Ry 2 Z Z Z ?_))
 exact⟨by rw[ar,hh,show k=d.length by omega,show j=e.length by omega,B.len,y.len,Cq,Cq];rfl,af⟩
theorem abD {g:Nat}{z:jU}{a:Nat->kZ}(of:Nat)(hof:of<2)(w:World)(hS:Al w g z a)(hz:lJ z):Calls prog 217 #[.pointer (some ⟨g,0,none⟩),J (of:Int),J (0)] w fun r w'=>r= .returned (J (z.kp of))/\Le w w':=by
 have I:=(hS.l of (by omega)).1
 have K:=hz.ln of (by omega)
 have x:=hz.lk of (by omega)
 have hrt:=hz.rt
 have hop:=hz.ch.op
 have hcb:=aea hrt
 refine En func217 Z ?_
 have d:=Le.refl w
 refine Rn 1 Z (Rr 2 Z (Wa (.as (.sub Z Z (by omega)) (int_eq (b:=((1-of:Nat):Int)) (by omega))) Z (Yn 3 Z (Yj (1-of) Z (Yg Z (Yk (J 200) Z (hS.b.le d) (agN (⟨z,a⟩:sF) (by omega)) (Yx 1 Z (Sq (Rr 5 Z ?_)))))))))
 refine Yk (J z.ch.op) Z (hS.b.le d) Z (Yx 1 Z ?_)
 by_cases m:(of:Int)≠z.ch.op
 ·refine Cy Z (dT m) (Rn 2 Z (Rt (E.il (E.iC Z Z ?_))))
  exact⟨by unfold jU.kp;rw[if_neg (by omega)],d⟩
 refine Cn Z (dF m) (Sn (Rr 3 Z (Yg Z (Yk (J z.rt) Z (hS.b.le d) Z (Yx 1 Z (Sq (Rr 4 Z (Yi of Z (Yk (.slice ((a of).A) ((a of).n) ((a of).c)) Z (hS.b.le d) (oM (⟨z,a⟩:sF) (by omega)) ?_)))))))))
 refine Yx 2 Z (Bk (WC.loop (ι:=Nat) (fun k=>[(0,.pointer (some ⟨g,0,none⟩)),(1,J (of:Int)),(2,J 0),(7,J 200),(8,J z.rt),(38,.slice ((a of).A) ((a of).n) ((a of).c)),(39,J ((a of).n:Int)),(40,J (k:Int))]) (fun k e=>(k<=(a of).n)/\Le w e/\w.heap.size<=e.heap.size) (fun k=>(a of).n-k) 0 ?_ ?_ ?_))
 ·exact .of Z
 ·exact⟨Nat.zero_le _,d,Nat.le_refl _⟩
 rintro k e ⟨hk,f,y⟩
 refine Rn 1 Z (Sq ?_)
 by_cases o:(k:Int)<((a of).n:Int)
 ·refine Cy Z (dT o) (Nb (Rr 1 Z (Ys k Z ((hS.l of (by omega)).isSome jK (by omega)) (Wr (.lX Li Z ((hS.l of (by omega)).le f) jK (jN (z.lg of) iJ (by first|omega|(simp only[List.length_cons,List.length_nil];omega)))) Z (Yz Z z85 fun s B C (D:ik B s 85 (mg iJ).toArray) t=>Yn 1 Z (Yw Z D (jK.one ((z.lg of).getD k iJ)) ?_))))))
  intro F j u
  have j:ik F s 85 (mg ((z.lg of).getD k iJ)).toArray:=j
  refine Nx (Bk (Rr 1 Z (Yk (J (((z.lg of).getD k iJ).kd:Int)) Z j Z (Yx 2 Z (Cy Z (dT (by have:=x.kd _ (xw (l:=z.lg of) (i:=k) (by omega));omega)) (WC.skip (E.jD (Lp 1 Z Z (E.again (k+1) (.of Z) ?_ ?_)))))))))
  ·exact⟨by omega,((f.trans t).tb u f C),by have:=y;have:=t.size;have:=u.size;omega⟩
  first|omega|(simp only[];omega)
 refine Cn Z (dF o) (Ex (Rr 3 Z (Wr (.max2 Z Z) Z (Yc Z (by rw[show(max z.rt 0)=z.rt from by omega];exact Bq z.rt (by omega) e) fun L H=>?_))))
 refine Yp Z (Yy 1 Z Z Z ?_)
 exact⟨by unfold jU.kp;rw[if_pos (by omega)],(f.trans H)⟩
def xy (h:Nat->Int)(i:Nat)(v:Int):Nat->Int:=fun j=>if j=i then v else h j
theorem Mg (h:Nat->Int)(i:Nat)(v:Int):xy h i v i=v:=if_pos Z
theorem Mh {of:Nat}(h:of<2)(f:Nat->Int)(v:Int):xy f of v (1-of)=f (1-of):=if_neg (by omega)
theorem abE {of:Nat}(h:of<2)(f:Nat->Int)(v:Int):xy f (1-of) v of=f of:=if_neg (by omega)
def hO (z:jU)(m i:Nat):Int:=z.hv i-(if i<m then AJ (z.lg i) (z.lg (1-i))else 0)+if 1-i<m then AL (z.lg (1-i)) (z.lg i)else 0
def csO (z:jU)(m:Nat):List mF:=(if 0<m then nM (z.lg 0) (z.lg 1)else[])++if 1<m then nM (z.lg 1) (z.lg 0)else[]
theorem abF (z:jU)(i:Nat):hO z 0 i=z.hv i:=by unfold hO;rw[if_neg (by omega),if_neg (by omega)];omega
variable {k:Nat}
theorem abG {z:jU}{of:Nat}{hy:Nat->Int}(hof:of<2)(ha:hy of=hO z of of-xe Jk (z.lg of) (z.lg (1-of)) k)(hb:hy (1-of)=hO z of (1-of)+xe E8.rG (z.lg of) (z.lg (1-of)) k)(hk:k=(iG (z.lg of)).length)(hi:i<2):hy i=hO z (of+1) i:=by
 subst hk
 rw[Cq]at ha hb
 rcases kX hof with rfl|rfl<;>rcases kX hi with rfl|rfl
 ·rw[ha];simp[hO,AJ]<;>omega
 ·rw[show(1:Nat)=1-0 from Z,hb];simp[hO,AL]
 ·rw[show(0:Nat)=1-1 from Z,hb];simp[hO,AL]
 ·rw[ha];simp[hO,AJ]<;>omega
theorem YV {z:jU}{of:Nat}{cb:List mF}(hof:of<2)(h:cb=csO z of++((iG (z.lg of)).take k).filter (fun c=>DN (mQ (z.lg (1-of)) c.id)))(hk:k=(iG (z.lg of)).length):cb=csO z (of+1):=by
 subst hk
 rw[h,List.take_length]
 rcases kX hof with rfl|rfl<;>simp[csO,nM,kP]
theorem xY {z:jU}(hz:lJ z)(p:Nat->Bool){i:Nat}(hi:i<2):0<=jT (kP (z.lg i) (z.lg (1-i)) p)/\jT (kP (z.lg i) (z.lg (1-i)) p)<=65536*30:=by
 have h:=(hz.lk i hi).sum p (iG (z.lg i)).length
 have c:=hz.ln i hi
 have d:=rY (z.lg i)
 rw[Cq]at h
 omega
theorem OL {z:jU}(hz:lJ z)(m:Nat){i:Nat}(hi:i<2): -65536*60<=hO z m i/\hO z m i<=1125899906842624+65536*60:=by
 have d:=hz.hv i
 have e:=xY hz Jk hi
 have c:=xY hz E8.rG (i:=1-i) (by omega)
 rw[pg hi]at c
 unfold hO AJ AL
 split<;>split<;>omega
theorem aeb {z:jU}{hx:Nat->Int}{cs:List mF}{no:Int}(h:∀i,i<2->hx i=hO z 2 i)(hc:cs=csO z 2):hx 0=(z.si no).h0/\hx 1=(z.si no).h1/\cs=(z.si no).cs:=by
 refine⟨?_,?_,?_⟩
 ·rw[h 0 (by decide)];simp[hO,jU.si,WE,jU.fst,jU.hv]
 ·rw[h 1 (by decide)];simp[hO,jU.si,WE,jU.fst,jU.hv]
 ·rw[hc];simp[csO,jU.si,WE]
theorem abH {z:jU}(hz:lJ z)(m:Nat):(csO z m).length<=60:=by
 have h:∀i,i<2->(nM (z.lg i) (z.lg (1-i))).length<=30:=fun i hi=>by
  have d:=hz.ln i hi
  have f:=rY (z.lg i)
  have j:=List.length_filter_le (fun c=>DN (mQ (z.lg (1-i)) c.id)) (iG (z.lg i))
  unfold nM kP
  omega
 have e:=h 0 (by decide)
 have d:=h 1 (by decide)
 unfold csO
 rw[List.length_append]
 split<;>split<;>simp at e d ⊢ <;>omega
set_option maxHeartbeats 1000000 in
theorem OM {g:Nat}{z:jU}{a:Nat->kZ} (c:Cut) (w:World) (hS:Al w g z a) (hz:lJ z) (hcut:∀i,i<2->c.n.ix i=((z.lg i).length:Int)):Calls prog 30 #[.pointer (some ⟨g,0,none⟩),.agg (cutV c).toArray] w fun r w'=>∃A' c',r= .returned (.agg #[J (z.si (c.no:Int)).no,J (z.si (c.no:Int)).h0,J (z.si (c.no:Int)).h1,.slice A' (z.si (c.no:Int)).cs.length c',J (z.si (c.no:Int)).rt])/\iy w' w.heap.size 83 jl 5 A' (z.si (c.no:Int)).cs.length c' (z.si (c.no:Int)).cs/\Le w w':=by
 have hop:=hz.ch.op
 have hlo:=(hS.l z.ch.op.toNat (by omega)).1
 have hno:=hz.ln z.ch.op.toNat (by omega)
 have hco:=hcut z.ch.op.toNat (by omega)
 have hca:=hS.cap z.ch.op.toNat (by omega)
 refine En func30 Z (Sr (Yv Z fun O a9 bG (ba:ik a9 O 73 (cutV c).toArray) aF=>?_))
 have L1:=(Le.refl w).trans aF
 refine Yz Z z38 fun t bb bc (au:ik bb t 38 #[J 0,J 0,J 0,.slice none 0 0,J (0)]) av=>Nx (Sq (WC.draw [0,1,2,3,4,5,6,7,8,9,10,11,12,13,14] mixed (by kernel_rfl) fun w1 U=>?_))
 have P:=(L1.trans av).trans U
 refine Xn 1 Z ?_
 have f4:=(ba.le (av.trans U))
 refine Xk (J (c.no:Int)) Z f4 Z (Xn 4 Z (Xb [J z.h0,J (z.h1)] Z (hS.b.le P) Z (Xn 4 Z (Xk (J z.rt) Z (hS.b.le P) Z (Ga Z (.iF [J (c.no:Int),J z.h0,J z.h1,.slice none 0 0,J (z.rt)] agd z38 Z Z) (G.ab Z Z Z z38 Jm (wN Z) fun m u ai (V:ik u m 38 #[J (c.no:Int),J z.h0,J z.h1,.slice none 0 0,J (z.rt)]) aj=>?_))))))
 have L5:=P.trans aj
 refine Gx (Sq (Rn 1 Z (Bk ?_)))
 have f6:=(f4.le aj)
 have f7:=(au.le (U.trans aj))
 refine WC.loop (ι:=Nat×(Nat->Int)×Nat×(List mF)×(Option Addr)×Nat) (fun⟨of,hx,nc,cs,Ac,cc⟩=>[(0,.pointer (some ⟨g,0,none⟩)),(3,.pointer (some ⟨O,0,none⟩)),(4,.pointer (some ⟨t,0,none⟩)),(5,.pointer (some ⟨m,0,none⟩)),(24,J (of:Int))]) (fun⟨of,hx,nc,cs,Ac,cc⟩ s=>(of<=2)/\(∀i,i<2->hx i=hO z of i)/\(cs=csO z of)/\(nc=cs.length)/\Le w s/\u.heap.size<=s.heap.size/\ik s O 73 (cutV c).toArray/\ik s t 38 #[J 0,J 0,J 0,.slice none 0 0,J (0)]/\ik s m 38 #[J (c.no:Int),J (hx 0),J (hx 1),.slice Ac nc cc,J (z.rt)]/\iy s u.heap.size 83 jl 5 Ac nc cc cs) (fun⟨of,hx,nc,cs,Ac,cc⟩=>2-of) (0,z.hv,0,[],none,0) ?_ ?_ ?_
 ·exact .of Z
 ·exact⟨Nat.zero_le _,(fun i hi=>(abF z i).symm),rfl,rfl,L5,Nat.le_refl _,f6,f7,V,(iy.nil u u.heap.size 83 jl 5 none)⟩
 rintro⟨of,hx,nc,cs,Ac,cc⟩ s ⟨hof,hhx,hcs,hnc,aw,bd,aG,aH,X,aI⟩
 have aJ:u.heap.size<=s.heap.size:=by omega
 refine Rn 1 Z (Sq ?_)
 by_cases c0:(of:Int)<2
 ·refine Cy Z (dT c0) ?_
  have y:of<2:=by omega
  have B:=hz.lk of (by omega)
  have Q:=hz.lk (1-of) (by omega)
  rw[pg y]at Q
  have bH:=hz.ln of (by omega)
  have bI:=hz.ln (1-of) (by omega)
  have bJ:=hcut of (by omega)
  have bK:=hcut (1-of) (by omega)
  have hhO:=OL hz of y
  have hhP:=OL hz of (i:=1-of) (by omega)
  have aiL:=abH hz of
  refine Nb (Rn 2 Z (Rr 2 Z (Yd Z (vg of (by omega) s (hS.le aw) hz) ?_)))
  rintro _ be ⟨aK,aL,d,rfl,aM,o,F⟩
  have bL:=o.len
  refine Yx 2 Z (Bk ?_)
  refine WC.loop (ι:=Nat×(Nat->Int)×Nat×(List mF)×(Option Addr)×Nat) (fun⟨k,hy,nb,cb,Ab,Vv⟩=>[(0,.pointer (some ⟨g,0,none⟩)),(3,.pointer (some ⟨O,0,none⟩)),(4,.pointer (some ⟨t,0,none⟩)),(5,.pointer (some ⟨m,0,none⟩)),(6,J (of:Int)),(24,J (of:Int)),(29,.slice aK d.length aL),(30,J (d.length:Int)),(31,J (k:Int))]) (fun⟨k,hy,nb,cb,Ab,Vv⟩ x=>(k<=d.length)/\(hy of=hO z of of-xe Jk (z.lg of) (z.lg (1-of)) k)/\(hy (1-of)=hO z of (1-of)+xe E8.rG (z.lg of) (z.lg (1-of)) k)/\(cb=csO z of++((iG (z.lg of)).take k).filter (fun c=>DN (mQ (z.lg (1-of)) c.id)))/\(nb=cb.length)/\Le w x/\be.heap.size<=x.heap.size/\ik x O 73 (cutV c).toArray/\ik x t 38 #[J 0,J 0,J 0,.slice none 0 0,J (0)]/\ik x m 38 #[J (c.no:Int),J (hy 0),J (hy 1),.slice Ab nb Vv,J (z.rt)]/\iy x u.heap.size 83 jl 5 Ab nb Vv cb/\iy x s.heap.size 209 yE 18 aK d.length aL d) (fun⟨k,hy,nb,cb,Ab,Vv⟩=>d.length-k) (0,hx,nc,cs,Ac,cc) ?_ ?_ ?_
  ·exact .of Z
  ·exact⟨Nat.zero_le _,(by rw[hhx _ y,zT];omega),(by rw[hhx _ (by omega),zT];omega),(by rw[hcs];simp),hnc,(aw.trans F),Nat.le_refl _,(aG.le F),(aH.le F),(X.le F),(aI.le F),aM⟩
  rintro⟨k,hy,nb,cb,Ab,Vv⟩ x ⟨hk,hga,hgb,hcb,hnb,aN,ak,aO,al,Y,H,C⟩
  have _:=F.size
  have bf:u.heap.size<=x.heap.size:=Nat.le_trans aJ (by omega)
  have bM:s.heap.size<=x.heap.size:=by omega
  have hsu:=B.sum Jk k
  have hsv:=B.sum E8.rG k
  have hal:=rY (z.lg of)
  have bN:=o.len
  have hcl:=congrArg List.length hcb
  rw[List.length_append]at hcl
  have hfl:=List.length_filter_le (fun c=>DN (mQ (z.lg (1-of)) c.id)) ((iG (z.lg of)).take k)
  rw[List.length_take]at hfl
  refine Rn 1 Z (Sq ?_)
  by_cases c1:(k:Int)<(d.length:Int)
  ·refine Cy Z (dT c1) ?_
   have ham:=o.am B (k:=k) (by omega)
   refine Nb (Sr (Ys k Z (aM.vec.isSome jm (by omega)) (Wr (.lX NT Z C.vec jm (jN d iE (by omega))) Z (W.ab Z TU JX (jm.one (d.getD k iE)) fun bg bh bO (bi:ik bh bg 209 (yE (d.getD k iE)).toArray) j=>Nx (Bk (Sq (WC.draw [0,1,2,3,4,5,6,7] mixed (by kernel_rfl) ?_)))))))
   intro w8 e
   refine Xn 1 Z ?_
   have aP:=(bi.le e)
   refine Xk (J ((d.getD k iE).at_:Int)) Z aP Z (Xn 2 Z (Xi of Z ?_))
   have aQ:=(aO.le (j.trans e))
   refine Xk (J (c.n.ix of)) Z aQ (QB c (by omega)) (Xf 1 Z (Xx 1 Z (Cf Z (Sq (WC.draw [0,1,2,3,4,5,6,7,8] mixed (by kernel_rfl) fun w9 f=>?_)))))
   have ax:=((aN.trans j).trans e).trans f
   refine Xn 1 Z ?_
   have an:=(aP.le f)
   refine Xk (J ((d.getD k iE).en:Int)) Z an Z (Xn 1 Z (Ga Z (.as (.sub Z Z (by omega)) (int_eq (b:=((1-of:Nat):Int)) (by omega))) (Xn 1 Z (Xi (1-of) Z ?_))))
   have ao:=(aQ.le f)
   refine Xk (J (c.n.ix (1-of))) Z ao (QB c (by omega)) (Xx 2 Z ?_)
   by_cases c3:(c.n.ix (1-of))<=((d.getD k iE).en:Int)
   ·refine Cy Z (dT c3) (Sq (WC.draw [0,1,2,3,4,5,6,7,8,9,10] mixed (by kernel_rfl) fun bP D=>Xn 2 Z (Xi of Z ?_)))
    have aR:=(Y.le (j.trans (e.trans (f.trans D))))
    refine Xk (J (hy of)) Z aR (by rcases kX (i:=of) (by omega)with h0|h0<;>rw[h0]<;>rfl) (Xn 2 Z ?_)
    have aS:=(an.le D)
    refine Xk (J (((d.getD k iE).c).am)) Z aS Z (Xp Z (Xn 1 Z (Xi of Z (G.jR Z Z Z Z (Ef.store nC Z Z aR (by show 1+of<5;omega) Z ?_)))))
    intro aT ap I
    refine noT (by kernel_rfl) ?_
    have ap:ik aT m 38 #[J (c.no:Int),J ((xy hy of ((hy of)-(((d.getD k iE).c).am))) 0),J ((xy hy of ((hy of)-(((d.getD k iE).c).am))) 1),.slice Ab nb Vv,J (z.rt)]:=ap.cast (by rcases kX (i:=of) (by omega)with h0|h0<;>rw[h0]<;>rfl)
    refine Gx (Rg (Yn 1 Z (Yk (.slice Ab nb Vv) Z ap Z (Yn 1 Z (Yb (jl ((d.getD k iE).c)) Z (aS.cn I (by have:=Y.lt;omega)) Z (W.ef Z Z Z (Ef.iw (len:=1) [_] underlying36 TT Z (by simp[Value.cells,iN.len]) Z (by decide) (by decide) ?_)))))))
    intro aU aV bj aq K
    have aq:ik aV aU 83 (([(d.getD k iE).c]).map jl).flatten.toArray:=aq
    have bQ:iy aV aT.heap.size 83 jl 5 (some ⟨aU,0,none⟩) 1 1 ([(d.getD k iE).c]):=aq.j4 bj iN Z Z (by decide)
    have _:=V.lt
    have af:=(((H.le (j.trans (e.trans (f.trans D)))).cb I (H.rl (by omega))).le K)
    have _:=j.size
    have _:=e.size
    have _:=f.size
    have _:=D.size
    have _:=I.size
    have _:=K.size
    refine W.ef Z Z Z (Ef.vJ (a:=((d.getD k iE).c)) underlying36 TT underlying36 iN Z af Z aq (by omega) (by unfold maxLen;omega) (by have:=bf;omega) ?_)
    intro aW aX bR aY aa bS
    refine Yn 1 Z ?_
    have bk:=((ap.le K).ch aa (af.rl (by omega)))
    refine W.jR Z Z (Ef.store afi Z Z bk (by first|decide|(simp;done)) Z ?_)
    intro bl ay ac
    have ay:ik bl m 38 #[J (c.no:Int),J ((xy hy of ((hy of)-(((d.getD k iE).c).am))) 0),J ((xy hy of ((hy of)-(((d.getD k iE).c).am))) 1),.slice aW (nb+1) aX,J (z.rt)]:=ay
    have bm:=((((ax.trans D).tb I P ai).trans K).ja aa (fun q hq=>Nat.le_trans L5.size (af.row hq).1)).tb ac P ai
    refine W.nil (E.jD (Lp 1 Z Z ?_))
    have aZ:m≠O:=by have:=f4.lt;omega
    have bn:=(((((ao.le D).cn I aZ).le K).ch aa (af.rl (by have:=f6.lt;omega))).cn ac aZ)
    have a0:m≠t:=by have:=au.lt;have:=U.size;omega
    have bo:=(((((al.le (j.trans (e.trans (f.trans D)))).cn I a0).le K).ch aa (af.rl (by have:=f7.lt;omega))).cn ac a0)
    have bp:=(aY.cb ac (aY.rl (by omega)))
    have _:=X.lt
    have bq:=(((((C.le (j.trans (e.trans (f.trans D)))).cb I (C.rl (by omega))).le K).ch aa (H.u7 C (by decide))).cb ac (C.rl (by omega)))
    refine E.again (k+1,(xy hy of ((hy of)-(((d.getD k iE).c).am))),(nb+1),(cb++[(d.getD k iE).c]),aW,aX) (.of Z) ?_ ?_
    ·exact⟨by omega,(by rw[Mg,hga,o.out B Q (by omega),if_pos (by omega)];omega),(by rw[Mh y,hgb,o.got B Q (by omega),if_neg (by omega)];omega),(by rw[hcb,o.DT DN (by omega),show DN _=true from dT (by omega)];simp),(by rw[List.length_append,hnb];rfl),bm,by have:=ak;have:=aa.size;have:=ac.size;omega,bn,bo,ay,bp,bq⟩
    first|omega|(simp only[];omega)
   refine Cn Z (dF c3) (Rr 2 Z (Yk (J (((d.getD k iE).how).kd:Int)) Z an Z (Yx 2 Z ?_)))
   by_cases c4:(((d.getD k iE).how).kd:Int)=2
   ·refine Cy Z (dT c4) (Sq (WC.draw [0,1,2,3,4,5,6,7,8,9,10] mixed (by kernel_rfl) fun bT L=>Xn 2 Z (Xi of Z ?_)))
    have a1:=(Y.le (j.trans (e.trans (f.trans L))))
    refine Xk (J (hy of)) Z a1 (by rcases kX (i:=of) (by omega)with h0|h0<;>rw[h0]<;>rfl) (Xn 2 Z ?_)
    have a2:=(an.le L)
    refine Xk (J (((d.getD k iE).c).am)) Z a2 Z (Xp Z (Xn 1 Z (Xi of Z (G.jR Z Z Z Z (Ef.store nC Z Z a1 (by show 1+of<5;omega) Z ?_)))))
    intro bs az R
    refine noT (by kernel_rfl) ?_
    have az:ik bs m 38 #[J (c.no:Int),J ((xy hy of ((hy of)-(((d.getD k iE).c).am))) 0),J ((xy hy of ((hy of)-(((d.getD k iE).c).am))) 1),.slice Ab nb Vv,J (z.rt)]:=az.cast (by rcases kX (i:=of) (by omega)with h0|h0<;>rw[h0]<;>rfl)
    refine Gx (WC.draw [0,1,2,3,4,5,6,7,8,9,10,11] mixed (by kernel_rfl) fun bU N=>Xn 1 Z (Ga Z (.as (.sub Z Z (by omega)) (int_eq (b:=((1-of:Nat):Int)) (by omega))) (Xn 1 Z (Xi (1-of) Z ?_))))
    have a3:=(az.le N)
    refine Xk (J ((xy hy of ((hy of)-(((d.getD k iE).c).am))) (1-of))) Z a3 (by rcases kX (i:=(1-of)) (by omega)with h0|h0<;>rw[h0]<;>rfl) (Xn 2 Z (Xk (J (((d.getD k iE).c).am)) Z ((a2.cn R (by have:=Y.lt;omega)).le N) Z (Ga Z (.add Z Z (by simp only[Mh y];omega)) (Xn 1 Z (Xi (1-of) Z (G.jR Z Z Z Z (Ef.store nC Z Z a3 (by show 1+(1-of)<5;omega) Z ?_)))))))
    intro bt aA ad
    refine noT (by kernel_rfl) ?_
    have aA:ik bt m 38 #[J (c.no:Int),J ((xy (xy hy of ((hy of)-(((d.getD k iE).c).am))) (1-of) (((xy hy of ((hy of)-(((d.getD k iE).c).am))) (1-of))+(((d.getD k iE).c).am))) 0),J ((xy (xy hy of ((hy of)-(((d.getD k iE).c).am))) (1-of) (((xy hy of ((hy of)-(((d.getD k iE).c).am))) (1-of))+(((d.getD k iE).c).am))) 1),.slice Ab nb Vv,J (z.rt)]:=aA.cast (by rcases kX (i:=(1-of)) (by omega)with h0|h0<;>rw[h0]<;>rfl)
    refine G.nil (E.jD (Lp 1 Z Z ?_))
    have a4:m≠O:=by have:=f4.lt;omega
    have bu:=((((ao.le L).cn R a4).le N).cn ad a4)
    have a5:m≠t:=by have:=au.lt;have:=U.size;omega
    have bv:=((((al.le (j.trans (e.trans (f.trans L)))).cn R a5).le N).cn ad a5)
    have _:=V.lt
    have bw:=((((H.le (j.trans (e.trans (f.trans L)))).cb R (H.rl (by omega))).le N).cb ad (H.rl (by omega)))
    have _:=X.lt
    have bx:=((((C.le (j.trans (e.trans (f.trans L)))).cb R (C.rl (by omega))).le N).cb ad (C.rl (by omega)))
    refine E.again (k+1,(xy (xy hy of ((hy of)-(((d.getD k iE).c).am))) (1-of) (((xy hy of ((hy of)-(((d.getD k iE).c).am))) (1-of))+(((d.getD k iE).c).am))),nb,cb,Ab,Vv) (.of Z) ?_ ?_
    ·exact⟨by omega,(by rw[abE y,Mg,hga,o.out B Q (by omega),if_pos (by omega)];omega),(by rw[Mg,Mh y,hgb,o.got B Q (by omega),if_pos (by omega)];omega),(by rw[hcb,o.DT DN (by omega),show DN _=false from dF (by omega)];simp),hnb,((((ax.trans L).tb R P ai).trans N).tb ad P ai),by have:=ak;have:=j.size;have:=e.size;have:=f.size;have:=L.size;have:=R.size;have:=N.size;have:=ad.size;omega,bu,bv,aA,bw,bx⟩
    first|omega|(simp only[];omega)
   refine Cn Z (dF c4) (WC.skip (E.jD (Lp 1 Z Z (E.again (k+1,hy,nb,cb,Ab,Vv) (.of Z) ?_ ?_))))
   ·exact⟨by omega,(by rw[hga,o.out B Q (by omega),if_neg (by omega)];omega),(by rw[hgb,o.got B Q (by omega),if_neg (by omega)];omega),(by rw[hcb,o.DT DN (by omega),show DN _=false from dF (by omega)];simp),hnb,ax,by have:=ak;have:=j.size;have:=e.size;have:=f.size;omega,ao,(al.le (j.trans (e.trans f))),(Y.le (j.trans (e.trans f))),(H.le (j.trans (e.trans f))),(C.le (j.trans (e.trans f)))⟩
   first|omega|(simp only[];omega)
  refine Cn Z (dF c1) (WC.exit (E.jW (E.jW (E.rQ (Lp 1 Z Z (E.again (of+1,hy,nb,cb,Ab,Vv) (.of Z) ?_ ?_))))))
  ·exact⟨by omega,(fun i hi=>abG y hga hgb (show k=_ by omega) hi),(YV y hcb (show k=_ by omega)),hnb,aN,by have:=bd;have:=ak;have:=aF.size;have:=av.size;have:=U.size;have:=aj.size;omega,aO,al,Y,H⟩
  first|omega|(simp only[];omega)
 refine Cn Z (dF c0) (Ex (Sq (Sq (WC.draw [0,1,2,3,4,5,6,7,8,9,10,11,12,13,14,15,16,17,18,19,20] mixed (by kernel_rfl) fun bz ae=>?_))))
 have ar:=aw.trans ae
 refine Xn 5 Z (Xk (J z.ch.op) Z (hS.b.le ar) Z (Xn 2 Z (Xi z.ch.op.toNat Z (Xk (.slice ((a z.ch.op.toNat).A) ((a z.ch.op.toNat).n) ((a z.ch.op.toNat).c)) Z (hS.b.le ar) (oM (⟨z,a⟩:sF) (by omega)) (Xn 4 Z (Xk (J z.ch.op) Z (hS.b.le ar) Z (Xn 1 Z (Xi z.ch.op.toNat Z (Xk (J (c.n.ix z.ch.op.toNat)) Z (aG.le ae) (QB c (by omega)) ?_)))))))))
 have aB:=(hS.l z.ch.op.toNat (by omega)).Fy ((a z.ch.op.toNat).n) (by omega) jK
 have bV:=aB.1
 refine Ga Z (.Fy ((a z.ch.op.toNat).n) underlying57 P5 Z Z (by omega) (by omega)) (Xx 2 Z (Bk ?_))
 refine WC.loop (ι:=Nat) (fun i=>[(4,.pointer (some ⟨t,0,none⟩)),(5,.pointer (some ⟨m,0,none⟩)),(115,.slice ((a z.ch.op.toNat).A) ((a z.ch.op.toNat).n) ((a z.ch.op.toNat).c)),(116,J ((a z.ch.op.toNat).n:Int)),(117,J (i:Int))]) (fun i S=>(i<=(a z.ch.op.toNat).n)/\Le w S/\bz.heap.size<=S.heap.size/\ik S t 38 #[J 0,J 0,J 0,.slice none 0 0,J (0)]/\ik S m 38 #[J (c.no:Int),J (hx 0),J (hx 1),.slice Ac nc cc,J (z.rt)]/\iy S u.heap.size 83 jl 5 Ac nc cc cs) (fun i=>(a z.ch.op.toNat).n-i) 0 ?_ ?_ ?_
 ·exact .of Z
 ·exact⟨Nat.zero_le _,ar,Nat.le_refl _,(aH.le ae),(X.le ae),(aI.le ae)⟩
 rintro i S ⟨hi,aC,bA,a6,a7,aD⟩
 have bW:u.heap.size<=S.heap.size:=Nat.le_trans aJ (by have:=ae.size;omega)
 refine Rn 1 Z (Sq ?_)
 by_cases c5:(i:Int)<((a z.ch.op.toNat).n:Int)
 ·refine Cy Z (dT c5) (Nb (Sr (Ys i Z (aB.isSome jK (by omega)) (Wr (.lX Li Z (aB.le aC) jK (jN ((z.lg z.ch.op.toNat).take ((a z.ch.op.toNat).n)) iJ (by first|omega|(simp only[List.length_cons,List.length_nil];omega)))) Z (W.ab Z z85 P5 (jK.one (((z.lg z.ch.op.toNat).take ((a z.ch.op.toNat).n)).getD i iJ)) fun bB bC bX (bD:ik bC bB 85 (mg (((z.lg z.ch.op.toNat).take ((a z.ch.op.toNat).n)).getD i iJ)).toArray) ah=>Nx (Rr 1 Z (Yk (J ((((z.lg z.ch.op.toNat).take ((a z.ch.op.toNat).n)).getD i iJ).kd:Int)) Z bD Z (Yx 1 Z ?_))))))))
  refine Cn Z (dF (by have:=(hz.lk z.ch.op.toNat (by omega)).kd _ (List.mem_of_mem_take (xw (l:=(z.lg z.ch.op.toNat).take (a z.ch.op.toNat).n) (i:=i) (by rw[List.length_take];omega)));omega)) (WC.skip (Lp 1 Z Z (E.again (i+1) (.of Z) ?_ ?_)))
  ·exact⟨by omega,(aC.trans ah),by have:=bA;have:=ah.size;omega,(a6.le ah),(a7.le ah),(aD.le ah)⟩
  first|omega|(simp only[];omega)
 refine Cn Z (dF c5) (Ex (Sr (Yh Z a7 (Yw Z a6 (wN Z) ?_))))
 intro bE aE a8
 have aE:ik bE t 38 #[J (c.no:Int),J (hx 0),J (hx 1),.slice Ac nc cc,J (z.rt)]:=aE
 refine Nx (Re Z (lV Z aE NM (by rfl)) ?_)
 have bF:of=2:=by omega
 subst bF
 obtain⟨e0,e1,e2⟩:=aeb (no:=(c.no:Int)) hhx hcs
 exact⟨Ac,cc,by rw[<-e0,<-e1,<-e2,<-hnc];rfl,by rw[<-e2,<-hnc];exact((aD.cb a8 (aD.rl (by have:=f7.lt;omega))).mono L5.size),(aC.tb a8 L1 bc)⟩
end Go.Proofs.YtkpmaajniagncaaGreatDoor
namespace Go.Sx
theorem Any.aec {P:Program}{env:Env}{n:Nat}{d:Option Nat}{T:TypeId}{p:String}{af:Array Edge}{g:Option (Nat×Bool)}{t i k:Nat}{fs:Array Field}{f:Field}{x:Operand}{cs:Array Value}(vs:List Value)(ht:P.underlying t=some (.struct fs))(hf:fs[i]? =some f)(he:ky P f.type k)(hx:ev env x=some (.agg cs))(hv:cs.extract f.offset (f.offset+k)=vs.toArray):Any P env n ⟨d,.field t x i,T,p,af,g⟩ (.agg vs.toArray):=fun a ha w=>by
 obtain⟨_,_,_,hsz⟩:=id he
 have:(part f.type cs f.offset).run P w= .ok (.agg vs.toArray) w:=by simp[part,he.run,hsz.run,hv]
 simp[execOp,ha.eval hx,Instr.field,run_underlying ht,hf,asAgg,this]
end Go.Sx
namespace Go.Proofs.YtkpmaajniagncaaGreatDoor
open Tryz
open Go Go.Sx Go.Fv Go.Num Go.KJ Go.Gz Go.Lsp Go.JQ Go.yA Go.Scp Go.E8
set_option maxRecDepth 20000
def rO (z:jU):Cut:=(⟨z.th.no+1,z.mi.n⟩:Cut).put z.me ((z.lg z.me).length:Int)
def uj (z:jU):Bool:= !z.wt&&(decide (z.th.no<1048574)&& !decide ((rO z).n=z.th.n))
def wE (z:jU):Bool:= !z.wt&&(decide (z.mi.n=z.lens)&&decide (z.th.n=z.lens))
def NF (ch:vM)(s:ny)(own per:Nat):List Byte:=nG [iP] (qC ch s own per) (2*s.no+(own:Int))
theorem lJ.right {z:jU}(h:lJ z){no:Int}(hn:0<=no/\no<=1048576):kz z.ch.am z.ch.op (z.si no):=⟨hn,h.rs.Vq,h.rs.Vr,h.rs.Wy,h.rs.len,h.rs.fine,h.rs.ord,h.rs.tot,h.rs.top,h.rs.pays⟩
theorem SE {g:Nat}{z:jU}{a:Nat->kZ}(w:World)(hS:Al w g z a)(hz:lJ z)(hno:z.th.no<=1048576):Calls prog 144 #[.pointer (some ⟨g,0,none⟩)] w fun r w'=>r= .returned (.agg (cutV (rO z)).toArray)/\Le w w':=by
 have hme:=hz.me
 have hlm:=(hS.l z.me hz.me).1
 have hnm:=hz.ln z.me hz.me
 refine En func144 Z ?_
 have m:=Le.refl w
 refine Sr (Yz Z z73 fun o y B (s:ik y o 73 (cutV jO).toArray) C=>Nx (Sq (WC.draw [0,1,2,3,4,5,6,7,8,9,10,11,12,13] mixed (by kernel_rfl) fun P f=>?_)))
 have d:=(m.trans C).trans f
 refine Xn 4 Z (Xk (J (z.th.no:Int)) Z (hS.b.le d) Z (Xp Z (Xn 4 Z (Xb (jq z.mi.n) Z (hS.b.le d) Z (Ga Z (.iF (cutV (⟨(z.th.no+1),z.mi.n⟩:Cut)) agi z73 Z Z) (G.ab Z Z Z z73 Jn (mE.one (⟨(z.th.no+1),z.mi.n⟩:Cut)) fun t D F (H:ik D t 73 (cutV (⟨(z.th.no+1),z.mi.n⟩:Cut)).toArray) u=>Gx (Sq (WC.draw [0,1,2,3,4,5,6,7,8,9,10,11,12,13,14,15,16] mixed (by kernel_rfl) fun Q i=>?_))))))))
 have e:=(d.trans u).trans i
 refine Xn 3 Z (Xk (J (z.me:Int)) Z (hS.b.le e) Z (Xn 4 Z (Xk (J (z.me:Int)) Z (hS.b.le e) Z (Xn 2 Z (Xi z.me Z (Xk (.slice ((a z.me).A) ((a z.me).n) ((a z.me).c)) Z (hS.b.le e) (oM (⟨z,a⟩:sF) (by omega)) (Xn 2 Z (Xi z.me Z (G.jR Z Z Z Z (Ef.store nC Z Z (H.le i) (by simp[mE.len,-List.getD_eq_getElem?_getD];omega) Z ?_))))))))))
 intro I j x
 refine noT (by kernel_rfl) ?_
 have j:ik I t 73 (cutV ((⟨(z.th.no+1),z.mi.n⟩:Cut).put z.me ((a z.me).n:Int))).toArray:=j.cast (SC (⟨(z.th.no+1),z.mi.n⟩:Cut) ((a z.me).n:Int) (by omega))
 refine Gx (Sr (Yh Z j ?_))
 have K:=((s.le (f.trans (u.trans i))).cn x (by have:=s.lt;have:=f.size;omega))
 refine Yw Z K (mE.one ((⟨(z.th.no+1),z.mi.n⟩:Cut).put z.me ((a z.me).n:Int))) ?_
 intro L k N
 have k:ik L o 73 (cutV ((⟨(z.th.no+1),z.mi.n⟩:Cut).put z.me ((a z.me).n:Int))).toArray:=k
 have O:=(e.tb x d F).tb N m B
 refine Nx (Re Z (lV Z k ads (by rfl)) ?_)
 exact⟨by unfold rO;rw[hlm],O⟩
theorem YW {g:Nat}{z:jU}{a:Nat->kZ}(w:World)(hS:Al w g z a)(hz:lJ z)(hno:z.th.no<=1048576):Calls prog 89 #[.pointer (some ⟨g,0,none⟩)] w fun r w'=>r= .returned (.bool (uj z))/\Le w w':=by
 have hme:=hz.me
 refine En func89 Z (WC.sr (Yn 1 Z (W.nx (WC.seq (WC.draw [0,1,2,3,4,5,6,7,8,9,10,11,12,13,14,17,18,19,20,21,15,16,22,23,24] mixed (by kernel_rfl) fun j k=>?_)))))
 have c:=(Le.refl w).trans k
 refine Xn 3 Z (Xk (.bool z.wt) Z (hS.b.le c) Z (Xn 1 Z ?_))
 by_cases e:z.wt=true
 ·refine Xq 1 Z (congrArg not e) (Xx 19 Z (WC.ret (E.iC Z Z ?_)))
  exact⟨rB (by unfold uj;simp[e]<;>omega),c⟩
 refine Xq 1 Z (congrArg not (Bool.eq_false_iff.2 e)) (Xn 4 Z (Xk (J (z.th.no:Int)) Z (hS.b.le c) Z (Xn 2 Z ?_)))
 by_cases f:(z.th.no:Int)<1048574
 ·refine Xq 1 Z (decide_eq_true f) (Xn 5 Z (Xb (jq z.th.n) Z (hS.b.le c) Z (Xc Z (SE j (hS.le c) hz hno) fun l i=>F7 Z (.aec (jq ((rO z).n)) underlying73 Z afg Z Z) (F7 Z (.neA PV Z Z (sU (d:=9998) _ _)) (Xx 2 Z (WC.ret (E.iC Z Z ?_)))))))
  exact⟨rB (by unfold uj;simp[e,f]<;>omega),(c.trans i)⟩
 refine Xq 1 Z (decide_eq_false f) (Xx 11 Z (WC.ret (E.iC Z Z ?_)))
 exact⟨rB (by unfold uj;simp[e,f]<;>omega),c⟩
theorem YX {g:Nat}{z:jU}{a:Nat->kZ}(w:World)(hS:Al w g z a)(hz:lJ z):Calls prog 91 #[.pointer (some ⟨g,0,none⟩)] w fun r w'=>r= .returned (.bool (wE z))/\Le w w':=by
 have hme:=hz.me
 have j:=(hS.l 0 (by decide)).1
 have k:=(hS.l 1 (by decide)).1
 refine En func91 Z (WC.sr (Yn 1 Z (W.nx (WC.seq (WC.draw [0,1,2,3,4,5,6,7,8,9,10,11,12,13,14] mixed (by kernel_rfl) fun C t=>?_)))))
 have m:=(Le.refl w).trans t
 refine Xn 3 Z (Xi 0 Z (Xk (.slice ((a 0).A) ((a 0).n) ((a 0).c)) Z (hS.b.le m) Z (Xn 4 Z (Xi 1 Z (Xk (.slice ((a 1).A) ((a 1).n) ((a 1).c)) Z (hS.b.le m) Z (Xn 1 Z (Ga Z (.kU (cells:=(jq (⟨((a 0).n:Int),((a 1).n:Int)⟩:jw)).toArray) underlying35 nC z35 Z Z) (G.ab Z Z Z z35 TN (oW.one (⟨((a 0).n:Int),((a 1).n:Int)⟩:jw)) fun u x D (y:ik x u 35 (jq (⟨((a 0).n:Int),((a 1).n:Int)⟩:jw)).toArray) B=>Gx ?_))))))))
 refine WC.seq (WC.draw [0,1,2,3,4,5,6,7,8,9,10,11,12,13,14,15,16,17,18,19,20,21,22,23] mixed (by kernel_rfl) fun F o=>?_)
 have e:=(m.trans B).trans o
 refine Xn 3 Z (Xk (.bool z.wt) Z (hS.b.le e) Z (Xn 1 Z ?_))
 by_cases f:z.wt=true
 ·refine Xq 1 Z (congrArg not f) (Xx 18 Z (WC.ret (E.iC Z Z ?_)))
  exact⟨rB (by unfold wE jU.lens;rw[j,k];simp[f]),e⟩
 refine Xq 1 Z (congrArg not (Bool.eq_false_iff.2 f)) (Xn 4 Z (Xb (jq z.mi.n) Z (hS.b.le e) Z ?_))
 have s:=(y.le o)
 refine Xh Z s (F7 Z (.eqA PV Z Z (sU (d:=9998) _ _)) (Xn 1 Z ?_))
 by_cases i:z.mi.n=(⟨((a 0).n:Int),((a 1).n:Int)⟩:jw)
 ·refine Xq 1 Z (decide_eq_true i) (Xn 4 Z (Xb (jq z.th.n) Z (hS.b.le e) Z (Xh Z s (F7 Z (.eqA PV Z Z (sU (d:=9998) _ _)) (Xx 2 Z (WC.ret (E.iC Z Z ?_)))))))
  exact⟨rB (by unfold wE jU.lens;rw[j,k];simp[f,i]),e⟩
 refine Xq 1 Z (decide_eq_false i) (Xx 9 Z (WC.ret (E.iC Z Z ?_)))
 exact⟨rB (by unfold wE jU.lens;rw[j,k];simp[f,i]),e⟩
theorem Gm {g:Nat}{z:jU}{a:Nat->kZ}{c:Cut}{s:yA.BF}(w:World)(hS:Al w g z a)(hz:lJ z)(hcut:∀i,i<2->c.n.ix i=((z.lg i).length:Int))(hno:c.no<1048576)(O8:s.r<18446744073709551616)(hsg:nN (z.ch.b (1-z.me) 0) (NF z.ch (z.si (c.no:Int)) z.me (lW z.kt.ch c.no)) s=true):Calls prog 81 #[.pointer (some ⟨g,0,none⟩),.agg (cutV c).toArray,.agg (sS s).toArray] w fun r w'=>r= .returned (.bool true)/\Le w w':=by
 have hme:=hz.me
 have hkl:=(vM.bOk hz.ch (i:=1-z.me) (o:=0) (by decide)).2.2
 have hkc:=hz.kl
 refine En func81 Z (Sr (Yv Z fun aO aP bc (aQ:ik aP aO 73 (cutV c).toArray) aR=>Yv Z fun aS aT bd (m:ik aT aS 75 (sS s).toArray) an=>Yx 1 Z (Sq (WC.draw [0,1,2,3,4,5,6,7,8,9,10,11] mixed (by kernel_rfl) fun w1 f=>?_))))
 have L3:=(((Le.refl w).trans aR).trans an).trans f
 refine Xn 3 Z (Xb (mD z.kt) Z (hS.b.le L3) Z (Xn 1 Z ?_))
 have f4:=(aQ.le (an.trans f))
 refine Xk (J (c.no:Int)) Z f4 Z (Xc Z (ui z.kt c.no hkc (by omega) w1) fun be e=>Xx 5 Z (Sq (WC.JC (fun o=>(app o [0,1,2,3,4,5,7,8,9,10,11] (.br (app o [6] (.br (app o [12,13,14,15,16,17,18] .nil) (app o [16,12,13,14,15,17,18] .nil))) (app o [16,6,12,13,14,15,17,18] .nil)))) mixed (by kernel_rfl) fun w2 j=>?_)))
 have k:=(L3.trans e).trans j
 refine GT.app (Gn 1 Z (Ga Z (.nilCheck Z) (Ga Z (.nU adB Z) (Gd Z (.Ha (mU z.ch) NN Z (by decide) Z (hS.b.le k) Z) (Gn 1 Z ?_)))))
 refine Xh Z (f4.le (e.trans j)) (Xn 3 Z (Xk (J (z.me:Int)) Z (hS.b.le k) Z (Xn 1 Z (G.nil (GT.br ?_ ?_)))))
 ·refine GT.app (G.ef Z Z Z Z Z (Ef.call ahY Z Z (OM c w2 (hS.le k) hz hcut) ?_))
  rintro _ aU ⟨bf,bg,rfl,ao,t⟩
  refine⟨_,rfl,?_⟩
  refine⟨fun _=>t,?_⟩
  have R:=k.trans t
  refine G.nil (GT.br ?_ ?_)
  ·refine GT.last (G.ef Z Z Z Z Z (Ef.call af5 Z Z (uI z.ch z.me (lW z.kt.ch c.no) aU ao.vec (hz.right (by omega)) hz.ch (by omega) (jC _) (FV _) hz.c8) ?_))
   rintro _ bh ⟨S,F,U,u,H,ap,aq,rfl,aV,⟨bi,aW,aX⟩,V⟩
   refine⟨_,rfl,?_⟩
   refine⟨fun _=>V,?_⟩
   refine Xn 1 Z (Ga Z (.extract (v:= .agg #[.slice S 1 F,.slice U u H,J (2*(c.no:Int)+(z.me:Int)),.slice ap u aq]) Z Z) (Xn 1 Z (G.ab Z Z Z z116 H8 (wN Z) fun aY aZ bj (a0:ik aZ aY 116 #[.slice S 1 F,.slice U u H,J (2*(c.no:Int)+(z.me:Int)),.slice ap u aq]) x=>Xx 1 Z (Sq (WC.draw [0,1,2,3,4,5,6,7,8,9,10,11,12,13,14,15,16,18,17,19,20,21] mixed (by kernel_rfl) ?_)))))
   intro y d
   have X:=((R.trans V).trans x).trans d
   refine Xq 2 Z (show _=true from by first|decide|rfl) (Xn 5 Z (Xk (J (z.me:Int)) Z (hS.b.le X) Z (F7 Z (.as (.sub Z Z (by omega)) (int_eq (b:=((1-z.me:Nat):Int)) (by omega))) (Xn 3 Z (Xj (1-z.me) Z (Xg Z (Xk (.int .u64 (((z.ch.b (1-z.me) 0):Nat):Int)) Z (hS.b.le X) (YT (⟨z,a⟩:sF) (by omega)) (Xn 1 Z (Xb [.slice S 1 F,.slice U u H,J (2*(c.no:Int)+(z.me:Int))] Z (a0.le d) Z ?_)))))))))
   refine Xh Z (m.le (f.trans (e.trans (j.trans (t.trans (V.trans (x.trans d))))))) (Xc Z (ve (ci:=F) (co:=H) (note:=(2*(c.no:Int)+(z.me:Int))) y (aV.le (x.trans d)).vec (aW.le (x.trans d)).vec (aX.le (x.trans d)).weak (by omega)) fun a1 ar=>Xc Z (by have q:=DZ (z.ch.b (1-z.me) 0) (nG ([iP]) (qC z.ch (z.si (c.no:Int)) z.me (lW z.kt.ch c.no)) (2*(c.no:Int)+(z.me:Int))) (l5 _ _ _) s hkl O8 a1;rw[<-kF (l5 _ _ _),show nN (z.ch.b (1-z.me) 0) (nG ([iP]) (qC z.ch (z.si (c.no:Int)) z.me (lW z.kt.ch c.no)) (2*(c.no:Int)+(z.me:Int))) s=true from hsg]at q;exact q) fun bk au=>?_)
   refine Xx 2 Z (Re Z Z ?_)
   exact⟨rfl,((X.trans ar).trans au)⟩
  refine GT.last (G.ef Z Z Z Z Z (Ef.pR z116 fun av aw a2 (Y:ik aw av 116 #[.slice none 0 0,.slice none 0 0,J 0,.slice none 0 0]) I=>⟨fun _=>I,?_⟩))
  refine Xd Z (uI z.ch z.me (lW z.kt.ch c.no) aw (ao.le I).vec (hz.right (by omega)) hz.ch (by omega) (jC _) (FV _) hz.c8) ?_
  rintro _ bl ⟨aa,K,ac,A,L,ax,ay,rfl,az,⟨bm,aA,a3⟩,N⟩
  refine⟨fun _=>N,?_⟩
  refine Xn 1 Z (Ga Z (.extract (v:= .agg #[.slice aa 1 K,.slice ac A L,J (2*(c.no:Int)+(z.me:Int)),.slice ax A ay]) Z Z) (Xn 1 Z ?_))
  have aB:=(Y.le N)
  refine Xw Z aB (wN Z) ?_
  intro a4 ad B
  refine noT (by kernel_rfl) ?_
  have ad:ik a4 av 116 #[.slice aa 1 K,.slice ac A L,J (2*(c.no:Int)+(z.me:Int)),.slice ax A ay]:=ad
  refine Xx 1 Z (Sq (WC.draw [0,1,2,3,4,5,6,7,8,9,10,11,12,13,14,15,16,18,17,19,20,21] mixed (by kernel_rfl) fun y d=>?_))
  have ae:=(((R.trans I).trans N).tb B R a2).trans d
  refine Xq 2 Z (show _=true from by first|decide|rfl) (Xn 5 Z (Xk (J (z.me:Int)) Z (hS.b.le ae) Z (F7 Z (.as (.sub Z Z (by omega)) (int_eq (b:=((1-z.me:Nat):Int)) (by omega))) (Xn 3 Z (Xj (1-z.me) Z (Xg Z (Xk (.int .u64 (((z.ch.b (1-z.me) 0):Nat):Int)) Z (hS.b.le ae) (YT (⟨z,a⟩:sF) (by omega)) (Xn 1 Z (Xb [.slice aa 1 K,.slice ac A L,J (2*(c.no:Int)+(z.me:Int))] Z (ad.le d) Z ?_)))))))))
  have _:=Y.lt
  refine Xh Z (((m.le (f.trans (e.trans (j.trans (t.trans (I.trans N)))))).cn B (by have:=m.lt;have:=f.size;have:=e.size;have:=j.size;have:=t.size;omega)).le d) (Xc Z (ve (ci:=K) (co:=L) (note:=(2*(c.no:Int)+(z.me:Int))) y ((az.cb B (az.rl (by omega))).le d).vec ((aA.cb B (aA.rl (by omega))).le d).vec ((a3.AP B aB (by decide) (by decide)).le d).weak (by omega)) fun a5 aC=>Xc Z (by have q:=DZ (z.ch.b (1-z.me) 0) (nG ([iP]) (qC z.ch (z.si (c.no:Int)) z.me (lW z.kt.ch c.no)) (2*(c.no:Int)+(z.me:Int))) (l5 _ _ _) s hkl O8 a5;rw[<-kF (l5 _ _ _),show nN (z.ch.b (1-z.me) 0) (nG ([iP]) (qC z.ch (z.si (c.no:Int)) z.me (lW z.kt.ch c.no)) (2*(c.no:Int)+(z.me:Int))) s=true from hsg]at q;exact q) fun bn aD=>?_)
  refine Xx 2 Z (Re Z Z ?_)
  exact⟨rfl,((ae.trans aC).trans aD)⟩
 refine GT.last (G.ef Z Z Z Z Z (Ef.pR z116 fun aE aF a6 (af:ik aF aE 116 #[.slice none 0 0,.slice none 0 0,J 0,.slice none 0 0]) ah=>⟨fun _=>ah,?_⟩))
 have aG:=k.trans ah
 refine Xd Z (OM c aF (hS.le aG) hz hcut) ?_
 rintro _ a7 ⟨bo,bp,rfl,a8,l⟩
 refine⟨fun _=>l,?_⟩
 refine Xd Z (uI z.ch z.me (lW z.kt.ch c.no) a7 a8.vec (hz.right (by omega)) hz.ch (by omega) (jC _) (FV _) hz.c8) ?_
 rintro _ bq ⟨ai,O,aj,C,P,aH,aI,rfl,aJ,⟨bs,aK,a9⟩,Q⟩
 refine⟨fun _=>Q,?_⟩
 refine Xn 1 Z (Ga Z (.extract (v:= .agg #[.slice ai 1 O,.slice aj C P,J (2*(c.no:Int)+(z.me:Int)),.slice aH C aI]) Z Z) (Xn 1 Z ?_))
 have aL:=(af.le (l.trans Q))
 refine Xw Z aL (wN Z) ?_
 intro ba ak D
 refine noT (by kernel_rfl) ?_
 have ak:ik ba aE 116 #[.slice ai 1 O,.slice aj C P,J (2*(c.no:Int)+(z.me:Int)),.slice aH C aI]:=ak
 refine Xx 1 Z (Sq (WC.draw [0,1,2,3,4,5,6,7,8,9,10,11,12,13,14,15,16,18,17,19,20,21] mixed (by kernel_rfl) fun y d=>?_))
 have al:=(((aG.trans l).trans Q).tb D k a6).trans d
 refine Xq 2 Z (show _=true from by first|decide|rfl) (Xn 5 Z (Xk (J (z.me:Int)) Z (hS.b.le al) Z (F7 Z (.as (.sub Z Z (by omega)) (int_eq (b:=((1-z.me:Nat):Int)) (by omega))) (Xn 3 Z (Xj (1-z.me) Z (Xg Z (Xk (.int .u64 (((z.ch.b (1-z.me) 0):Nat):Int)) Z (hS.b.le al) (YT (⟨z,a⟩:sF) (by omega)) (Xn 1 Z (Xb [.slice ai 1 O,.slice aj C P,J (2*(c.no:Int)+(z.me:Int))] Z (ak.le d) Z ?_)))))))))
 have _:=af.lt
 have _:=l.size
 refine Xh Z (((m.le (f.trans (e.trans (j.trans (ah.trans (l.trans Q)))))).cn D (by have:=m.lt;have:=f.size;have:=e.size;have:=j.size;omega)).le d) (Xc Z (ve (ci:=O) (co:=P) (note:=(2*(c.no:Int)+(z.me:Int))) y ((aJ.cb D (aJ.rl (by omega))).le d).vec ((aK.cb D (aK.rl (by omega))).le d).vec ((a9.AP D aL (by decide) (by decide)).le d).weak (by omega)) fun bb aM=>Xc Z (by have q:=DZ (z.ch.b (1-z.me) 0) (nG ([iP]) (qC z.ch (z.si (c.no:Int)) z.me (lW z.kt.ch c.no)) (2*(c.no:Int)+(z.me:Int))) (l5 _ _ _) s hkl O8 bb;rw[<-kF (l5 _ _ _),show nN (z.ch.b (1-z.me) 0) (nG ([iP]) (qC z.ch (z.si (c.no:Int)) z.me (lW z.kt.ch c.no)) (2*(c.no:Int)+(z.me:Int))) s=true from hsg]at q;exact q) fun bt aN=>?_)
 refine Xx 2 Z (Re Z Z ?_)
 exact⟨rfl,((al.trans aM).trans aN)⟩
theorem U1 {g:Nat}{z:jU}{a:Nat->kZ}(w:World)(hS:Al w g z a)(hz:lJ z)(hcut:∀i,i<2->z.mi.n.ix i=((z.lg i).length:Int)):Calls prog 6 #[.pointer (some ⟨g,0,none⟩)] w fun r w'=>∃A' c',r= .returned (.agg #[J (z.si (z.mi.no:Int)).no,J (z.si (z.mi.no:Int)).h0,J (z.si (z.mi.no:Int)).h1,.slice A' (z.si (z.mi.no:Int)).cs.length c',J (z.si (z.mi.no:Int)).rt])/\iy w' w.heap.size 83 jl 5 A' (z.si (z.mi.no:Int)).cs.length c' (z.si (z.mi.no:Int)).cs/\Le w w':=by
 refine En func6 Z ?_
 have e:=Le.refl w
 refine Sr (Yz Z z38 fun f j s (k:ik j f 38 #[J 0,J 0,J 0,.slice none 0 0,J (0)]) t=>?_)
 have c:=e.trans t
 refine Nx (Rr 4 Z (Yb (cutV z.mi) Z (hS.b.le c) Z (Yd Z (OM z.mi j (hS.le c) hz hcut) ?_)))
 rintro _ y ⟨u,v,rfl,l,m⟩
 refine Yw Z (k.le m) (wN Z) ?_
 intro x d o
 have d:ik x f 38 #[J ((z.si (z.mi.no:Int)).no),J ((z.si (z.mi.no:Int)).h0),J ((z.si (z.mi.no:Int)).h1),.slice u ((z.si (z.mi.no:Int)).cs.length) v,J ((z.si (z.mi.no:Int)).rt)]:=d
 refine Nx (Re Z (lV Z d NM (by rfl)) ?_)
 exact⟨_,_,rfl,((l.cb o (l.rl (by have:=k.lt;omega))).mono c.size),((c.trans m).tb o e s)⟩
structure Am (z:jU)(of:Nat)(d:mF):Prop where
 fr:d.fr=(of:Int)
 id:d.id=((iG (z.lg of)).length:Int)+1
 am:1<=d.am/\d.am<=65536
 ex:d.ex=500
 pt:right d.pt=true/\d.pt≠1/\d.pt<18446744073709551616
 few:(iG (z.lg of)).length<=7
structure Ky (z:jU)(of:Nat)(u:kT):Prop where
 kd:u.kd=2\/u.kd=3
 id:1<=u.c.id/\u.c.id<=((iG (z.lg (1-of))).length:Int)
 open_:mQ (z.lg of) u.c.id=0
 sec:u.kd=2->base u.sec=((iG (z.lg (1-of))).getD (u.c.id-1).toNat ag).pt
structure mK where
 kd:Nat
 no:Int
 c:mF
 sec:Nat
 sg:yA.BF
 sm:List (BitVec 8)
 pt:Nat
def lG:mK:=⟨0,0,ag,0,iY,noH,0⟩
def iR (m:mK):List Value:=[J (m.kd:Int),J m.no,J 0]++(jl m.c++([.int .u64 (m.sec:Int),.slice none 0 0,J 0,.int .u64 (m.sg.r:Int),.int .u64 (m.sg.s:Int)]++(jV m.sm++[.int .u64 (m.pt:Int),.slice none 0 0,.slice none 0 0,J 0,.int .u64 0,.int .u64 0,.int .u64 0,.int .u64 0,.int .u64 0,J 0,J 0,J 0,J 0,J 0,J 0,.slice none 0 0])))
theorem iD:kM iR 61:=⟨fun m=>by simp[iR,jl,jV],fun m v hv=>by
 simp only[iR,List.mem_append]at hv
 rcases hv with hv|hv|hv|hv|hv
 ·simp only[List.mem_cons,List.not_mem_nil,or_false]at hv;rcases hv with rfl|rfl|rfl<;>rfl
 ·exact iN.one m.c v hv
 ·simp only[List.mem_cons,List.not_mem_nil,or_false]at hv;rcases hv with rfl|rfl|rfl|rfl|rfl<;>rfl
 ·exact qc.one m.sm v hv
 ·simp only[List.mem_cons,List.not_mem_nil,or_false]at hv
  repeat (first|(rcases hv with rfl|hv;· rfl)|(subst hv;rfl)),by decide⟩
def iZ (u:kT):mK:=if u.kd=1 then⟨u.kd,0,u.c,u.sec,iY,noH,0⟩else⟨u.kd,u.c.id,ag,u.sec,iY,noH,0⟩
def q8 (m:mK):kT:=if m.kd=1 then⟨m.kd,m.c,0⟩else if m.kd=2 then⟨m.kd,⟨0,m.no,0,0,0⟩,m.sec⟩else⟨m.kd,⟨0,m.no,0,0,0⟩,0⟩
theorem lJ.sp {z:jU}(hz:lJ z)(i:Nat)(hi:i<2): -65536*60<=z.sp i/\z.sp i<=1125899906842624+65536*60:=by
 have d:=hz.hv i
 have e:=xY hz Jk hi
 have c:=xY hz E8.rG (i:=1-i) (by omega)
 rw[pg hi]at c
 unfold jU.sp AJ AL
 omega
theorem sW (w:World):Calls prog 185 #[.slice none 0 0] w fun r w'=>r= .returned (.slice none 0 0)/\Le w w':=by
 refine En func185 Z (WC.sr (Yn 1 Z (W.nx (WC.seq (WC.sr (Yn 1 Z (Wa (.dec (.isNil underlying78 Z) Z) Z (W.nx (Ct Z ?_)))))))))
 refine WC.sr (Yn 1 Z (W.nx (WC.ret (E.il (E.iC Z Z ?_)))))
 exact⟨rfl,(Le.refl w)⟩
theorem U2 {g:Nat}{z:jU}{a:Nat->kZ}(of:Nat)(d:mF)(hof:of<2)(w:World)(hS:Al w g z a)(hz:lJ z)(hfu:zw z)(hd:Am z of d):Calls prog 182 #[.pointer (some ⟨g,0,none⟩),J (of:Int),.agg (jl d).toArray,.slice none 0 0] w fun r w'=>r= .returned (J (if z.kp of<=z.sp of-d.am then 0 else 8))/\Le w w':=by
 have ax:=(hS.l of (by omega)).1
 have ay:=(hS.l (1-of) (by omega)).1
 have az:=hz.ln of (by omega)
 have aA:=hz.ln (1-of) (by omega)
 have H:=hz.lk of (by omega)
 have hal:=rY (z.lg of)
 obtain⟨d1,d2,d3,s,I,d6⟩:=hd
 have hsu:=H.sum DN 0
 have hsp:=hz.sp of (by omega)
 refine En func182 Z (Sr (Yv Z fun y u aB (ak:ik u y 83 (jl d).toArray) al=>?_))
 have K:=(Le.refl w).trans al
 refine Yx 1 Z (Rr 2 Z (Yd Z (vg of (by omega) u (hS.le K) hz) ?_))
 rintro _ an ⟨L,N,e,rfl,O,P,A⟩
 have aC:=P.len
 refine Yx 1 Z (Sq (Rr 1 Z ?_))
 have f:=(ak.le A)
 refine Yk (J d.fr) Z f Z (Yf 2 Z (Yn 2 Z (Yk (J d.id) Z f Z (Yn 2 Z (Yp Z (Yf 1 Z (Yn 3 Z (Yk (J d.id) Z f Z (Yf 1 Z ?_)))))))))
 refine Yn 3 Z (Yk (J d.am) Z f Z (Yf 1 Z (Yn 3 Z (Yk (J d.am) Z f Z (Yf 1 Z (Yn 3 Z (Yk (J d.ex) Z f Z (Yf 1 Z (Yn 3 Z ?_)))))))))
 refine Yk (J d.ex) Z f Z (Yf 1 Z (Yn 3 Z (Yk (.int .u64 (d.pt:Int)) Z f Z (Yf 1 Z (Yn 3 Z (Yk (.int .u64 (d.pt:Int)) Z f Z (Yc Z (by have q:=lC d.pt I.2.2 an;rw[I.1]at q;exact q) fun aD x=>?_)))))))
 refine Yq 6 Z (show _=false from by first|decide|rfl) (Yx 1 Z (Cf Z (Sn (Sq (WC.draw [0,1,2,3] mixed (by kernel_rfl) fun w4 s=>Xn 1 Z ?_)))))
 have Q:=(f.le (x.trans s))
 refine Xk (J d.am) Z Q Z (Xx 2 Z (Sq (Rn 3 Z (Bk ?_))))
 refine WC.loop (ι:=Nat×Int×Int) (fun⟨k,n,t⟩=>[(0,.pointer (some ⟨g,0,none⟩)),(1,J (of:Int)),(6,.pointer (some ⟨y,0,none⟩)),(10,J n),(11,J t),(73,.slice L e.length N),(74,J (e.length:Int)),(75,J (k:Int))]) (fun⟨k,n,t⟩ o=>(k<=e.length)/\(0<=n/\n<=(k:Int))/\(0<=t/\t<=65536*((k:Int)+1))/\Le w o/\w4.heap.size<=o.heap.size/\ik o y 83 (jl d).toArray/\iy o u.heap.size 209 yE 18 L e.length N e) (fun⟨k,n,t⟩=>e.length-k) (0,0,d.am) ?_ ?_ ?_
 ·exact .of Z
 ·exact⟨Nat.zero_le _,by omega,by omega,(((K.trans A).trans x).trans s),Nat.le_refl _,Q,(O.le (x.trans s))⟩
 rintro⟨k,n,t⟩ o ⟨hk,hn,ht,B,R,C,D⟩
 have aE:u.heap.size<=o.heap.size:=by have:=A.size;have:=x.size;have:=s.size;omega
 refine Rn 1 Z (Sq ?_)
 by_cases S:(k:Int)<(e.length:Int)
 ·refine Cy Z (dT S) ?_
  have ham:=P.am H (k:=k) (by omega)
  refine Nb (Sr (Ys k Z (O.vec.isSome jm (by omega)) (Wr (.lX NT Z D.vec jm (jN e iE (by omega))) Z (W.ab Z TU JX (jm.one (e.getD k iE)) fun ao ap aF (aq:ik ap ao 209 (yE (e.getD k iE)).toArray) m=>Nx (Sq (WC.draw [0,1,2,3,4,5,6] mixed (by kernel_rfl) ?_))))))
  intro w8 j
  have U:=(B.trans m).trans j
  refine Xn 1 Z ?_
  have V:=(aq.le j)
  refine Xk (J ((e.getD k iE).en:Int)) Z V Z (Xn 2 Z (Ga Z (.as (.sub Z Z (by omega)) (int_eq (b:=((1-of:Nat):Int)) (by omega))) (Xc Z (Db (1-of) (by omega) w8 (hS.le U) hz hfu) fun aG i=>?_)))
  have X:=U.trans i
  refine Xx 1 Z ?_
  by_cases Y:((z.lg (1-of)).length:Int)<=((e.getD k iE).en:Int)
  ·refine Cy Z (dT Y) (Rr 1 Z (Yp Z (Yx 1 Z (Rg (Yn 3 Z (Yk (J (((e.getD k iE).c).am)) Z (V.le i) Z (Yp Z (Yn 1 Z (W.nil ?_)))))))))
   refine Lp 1 Z Z (E.again (k+1,(n+1),(t+(((e.getD k iE).c).am))) (.of Z) ?_ ?_)
   ·exact⟨by omega,by omega,by omega,X,by have:=R;have:=m.size;have:=j.size;have:=i.size;omega,(C.le (m.trans (j.trans i))),(D.le (m.trans (j.trans i)))⟩
   first|omega|(simp only[];omega)
  refine Cn Z (dF Y) (WC.skip (Lp 1 Z Z (E.again (k+1,n,t) (.of Z) ?_ ?_)))
  ·exact⟨by omega,by omega,by omega,X,by have:=R;have:=m.size;have:=j.size;have:=i.size;omega,(C.le (m.trans (j.trans i))),(D.le (m.trans (j.trans i)))⟩
  first|omega|(simp only[];omega)
 refine Cn Z (dF S) (Ex (Rr 2 Z (Wa (.as (.sub Z Z (by omega)) (int_eq (b:=((1-of:Nat):Int)) (by omega))) Z (Yn 3 Z (Yj (1-of) Z (Yb [J 100,J 200,J (5+(((1-of):Nat):Int)),J 16,J 1,J (1125899906842624)] Z (hS.b.le B) (ait (⟨z,a⟩:sF) (by omega)) (W.ab Z z65 H6 (wN Z) fun ar au aH (F:ik au ar 65 #[J 100,J 200,J (5+(((1-of):Nat):Int)),J 16,J 1,J (1125899906842624)]) aa=>Nx (Sq ?_))))))))
 refine Bk (Rr 1 Z ?_)
 have ac:=(C.le aa)
 refine Yk (J d.am) Z ac Z (Yn 1 Z (Yk (J 1) Z F Z (Yx 2 Z (Cn Z (dF (by omega)) (Rr 2 Z (Yk (J 16) Z F Z (Wr (.min2 Z Z) Z (Yx 2 Z (Cn Z (dF (by omega)) ?_)))))))))
 refine Rr 2 Z (Yk (J 1125899906842624) Z F Z (Yx 2 Z (Cn Z (dF (by omega)) (Sq (WC.draw [0,1,3,4,6,7,2,5,8,9,10] mixed (by kernel_rfl) ?_)))))
 intro av ad
 have ae:=(B.trans aa).trans ad
 refine Xn 3 Z (Xk (J d.am) Z (ac.le ad) Z (Xn 2 Z (Xc Z (YU of (by omega) av (hS.le ae) hz hfu) fun aw af=>?_)))
 have ah:=ae.trans af
 refine Xp Z (Xc Z (abD of (by omega) aw (hS.le ah) hz) fun aI ai=>?_)
 have aj:=ah.trans ai
 refine Xx 2 Z ?_
 by_cases c6:((z.sp of)-d.am)<(z.kp of)
 ·refine Cy Z (dT c6) (Rn 1 Z (Rt (E.jc (E.il (E.iC Z Z ?_)))))
  exact⟨by rw[if_neg (by omega)],aj⟩
 refine Cn Z (dF c6) (WC.skip (E.jD (E.iM (Ry 1 Z Z Z ?_))))
 exact⟨by rw[if_pos (by omega)],aj⟩
theorem Mi {g:Nat}{z:jU}{a:Nat->kZ}(of:Nat)(hof:of<2){u:kT}(w:World)(hS:Al w g z a)(hz:lJ z)(hfu:zw z)(he:Ky z of u):Calls prog 183 #[.pointer (some ⟨g,0,none⟩),J (of:Int),.agg (mg u).toArray] w fun r w'=>r= .returned (J 0)/\Le w w':=by
 have S:=(hS.l of (by omega)).1
 have U:=(hS.l (1-of) (by omega)).1
 have V:=hz.ln of (by omega)
 have X:=hz.ln (1-of) (by omega)
 have m:=hz.lk (1-of) (by omega)
 rw[pg hof]at m
 obtain⟨e1,e2,e3,e4⟩:=he
 have hal:=rY (z.lg (1-of))
 refine En func183 Z (Sr (Yv Z fun K n Y (o:ik n K 85 (mg u).toArray) L=>?_))
 have s:=(Le.refl w).trans L
 refine Yx 1 Z (Sq (Rr 1 Z (Yk (.slice none 0 0) Z o Z (Yq 2 Z (show _=false from by first|decide|rfl) (Nx (Cf Z (Sn (Rr 2 Z (Wa (.as (.sub Z Z (by omega)) (int_eq (b:=((1-of:Nat):Int)) (by omega))) Z ?_)))))))))
 refine Yd Z (vg (1-of) (by omega) n (hS.le s) hz) ?_
 rintro _ aa ⟨ac,ad,d,rfl,t,i,x⟩
 have ae:=i.len
 rw[pg (by assumption)]at i
 refine Yx 1 Z (Sq (Rr 2 Z ?_))
 have e:=(o.le x)
 refine Yk (J u.c.id) Z e Z (Yf 1 Z (Yn 3 Z (Yk (J u.c.id) Z e Z (Yf 3 Z (Yx 1 Z (Cf Z (Sn (Sr ?_))))))))
 obtain⟨⟨ra,rb⟩,rc,rd⟩:=i.row (u.c.id-1).toNat (by omega)
 have hid:=(m.ids (u.c.id-1).toNat (by omega)).2
 rw[<-ra]at hid
 have hie:(d.getD (u.c.id-1).toNat iE).c.id=u.c.id:=by omega
 rw[hie,e3]at rc
 refine Yn 3 Z (Yk (J u.c.id) Z e Z (Yp Z (Ys ((u.c.id-1).toNat) Z (t.vec.isSome jm (by omega)) (Wr (.lX NT Z t.vec jm (jN d iE (by omega))) Z (W.ab Z TU JX (jm.one (d.getD ((u.c.id-1).toNat) iE)) fun N O af (P:ik O N 209 (yE (d.getD ((u.c.id-1).toNat) iE)).toArray) y=>Nx (Sq (Bk (Sq ?_))))))))
 refine WC.draw [0,1,2,3,4,5,6,7,8,9,10,11,12,13] mixed (by kernel_rfl) fun Q j=>?_
 have A:=((s.trans x).trans y).trans j
 refine Xn 1 Z ?_
 have B:=(P.le j)
 refine Xk (J ((d.getD ((u.c.id-1).toNat) iE).at_:Int)) Z B Z (Xn 2 Z (Ga Z (.as (.sub Z Z (by omega)) (int_eq (b:=((1-of:Nat):Int)) (by omega))) (Xc Z (Db (1-of) (by omega) Q (hS.le A) hz hfu) fun ah f=>Xf 1 Z (Xn 3 Z ?_))))
 have C:=(B.le f)
 refine Xk (J (((d.getD ((u.c.id-1).toNat) iE).how).kd:Int)) Z C Z (Xf 1 Z (Xx 2 Z (Cf Z (Sq (WC.draw [0,1,2,3,4,5,7,8,9,6,10,11,12] mixed (by kernel_rfl) fun R k=>?_)))))
 have D:=(A.trans f).trans k
 refine Xn 1 Z ?_
 have F:=(e.le (y.trans (j.trans (f.trans k))))
 refine Xk (J (u.kd:Int)) Z F Z (Xn 1 Z ?_)
 by_cases H:(u.kd:Int)=2
 ·refine Xq 1 Z (dT H) (Xn 1 Z (Xk (.int .u64 (u.sec:Int)) Z F Z (Xn 2 Z (Xk (.int .u64 (((d.getD ((u.c.id-1).toNat) iE).c).pt:Int)) Z (C.le k) Z (Xc Z (pF u.sec R) fun ai I=>Xq 1 Z (dF (fun h=>h (by rw[ra,e4 (by omega)]))) (Xx 2 Z (Cf Z (WC.skip ?_))))))))
  refine E.jD (E.iM (Ry 1 Z Z Z ?_))
  exact⟨rfl,(D.trans I)⟩
 refine Xq 1 Z (dF H) (Xx 9 Z (Cf Z (WC.skip (E.jD (E.iM (Ry 1 Z Z Z ?_))))))
 exact⟨rfl,D⟩
theorem abI (u:kT)(w:World)(hk:1<=u.kd/\u.kd<=3):Calls prog 139 #[.agg (mg u).toArray] w fun r w'=>r= .returned (.agg (iR (iZ u)).toArray)/\Le w w':=by
 refine En func139 Z (Sr (Yv Z fun aG aH bc (aI:ik aH aG 85 (mg u).toArray) aJ=>?_))
 have l:=(Le.refl w).trans aJ
 refine Yz Z sD fun i aK n (f:ik aK i 134 (iR lG).toArray) an=>Nx (Sq (WC.JC (fun o=>(app o [0,1,2,3,4,5,7,8,9,10] (.br (app o [6] (.br (app o [11,12,13,14] .nil) (app o [13,11,12,14] .nil))) (app o [13,6,11,12,14] .nil)))) mixed (by kernel_rfl) fun w1 d=>?_))
 have B:=(l.trans an).trans d
 refine GT.app (Ga Z (.nU adF Z) ?_)
 have j:=(aI.le (an.trans d))
 refine Xk (J (u.kd:Int)) Z j Z (Xn 1 Z (Xk (.int .u64 (u.sec:Int)) Z j Z (Xn 1 Z (Xk (.slice none 0 0) Z j Z (Xn 1 Z (Xk (J 0) Z j Z (Xn 1 Z (Xk (.slice none 0 0) Z j Z (G.nil (GT.br ?_ ?_))))))))))
 ·refine GT.app (G.ef Z Z Z Z Z (Ef.call acE Z Z (sW w1) ?_))
  rintro _ aL ⟨rfl,e⟩
  refine⟨_,rfl,?_⟩
  refine⟨fun _=>e,?_⟩
  have C:=B.trans e
  refine G.nil (GT.br ?_ ?_)
  ·refine GT.last (G.ef Z Z Z Z Z (Ef.call acE Z Z (sW aL) ?_))
   rintro _ bd ⟨rfl,m⟩
   refine⟨_,rfl,?_⟩
   refine⟨fun _=>m,?_⟩
   have O:=C.trans m
   refine Ga Z (.iF (iR (⟨u.kd,0,ag,u.sec,iY,noH,0⟩:mK)) A8 sD Z Z) (G.ab Z Z Z sD yt (iD.one (⟨u.kd,0,ag,u.sec,iY,noH,0⟩:mK)) fun P aM ao (ap:ik aM P 134 (iR (⟨u.kd,0,ag,u.sec,iY,noH,0⟩:mK)).toArray) H=>?_)
   have L7:=O.trans H
   refine Gx (Sq (Rr 1 Z ?_))
   have Q:=(j.le (e.trans (m.trans H)))
   refine Yk (J (u.kd:Int)) Z Q Z (Yx 1 Z ?_)
   by_cases k:(u.kd:Int)=1
   ·refine Cy Z (dT k) (Rr 1 Z (Yb (jl u.c) Z Q Z (Yn 1 Z (W.jR Z Z (Ef.lY (iR (⟨u.kd,0,u.c,u.sec,iY,noH,0⟩:mK)) Bl (by rfl) Z Z ap (by simp[iD.len,iN.len]) (iN.one u.c) Z ?_)))))
    intro aN R aq
    have R:ik aN P 134 (iR (⟨u.kd,0,u.c,u.sec,iY,noH,0⟩:mK)).toArray:=R
    refine Nx (Sr (Yh Z R ?_))
    have aO:=((f.le (d.trans (e.trans (m.trans H)))).cn aq (by have:=f.lt;have:=d.size;have:=e.size;have:=m.size;omega))
    refine Yw Z aO (iD.one (⟨u.kd,0,u.c,u.sec,iY,noH,0⟩:mK)) ?_
    intro aP S aQ
    have S:ik aP i 134 (iR (⟨u.kd,0,u.c,u.sec,iY,noH,0⟩:mK)).toArray:=S
    refine Nx (Rt (E.il (E.iC Z (lV Z S uq (by rfl)) ?_)))
    exact⟨by rw[show iZ u=_ from if_pos (by omega)],((L7.tb aq O ao).tb aQ l n)⟩
   refine Cn Z (dF k) (Sn (Rr 2 Z (Yk (J u.c.id) Z Q Z (Yn 1 Z (W.jR Z Z (Ef.store nC Z Z ap (by first|decide|(simp;done)|simp[iD.len]) Z ?_))))))
   intro aR U ar
   have U:ik aR P 134 (iR (⟨u.kd,u.c.id,ag,u.sec,iY,noH,0⟩:mK)).toArray:=U
   refine Nx (Sr (Yh Z U ?_))
   have aS:=((f.le (d.trans (e.trans (m.trans H)))).cn ar (by have:=f.lt;have:=d.size;have:=e.size;have:=m.size;omega))
   refine Yw Z aS (iD.one (⟨u.kd,u.c.id,ag,u.sec,iY,noH,0⟩:mK)) ?_
   intro aT V aU
   have V:ik aT i 134 (iR (⟨u.kd,u.c.id,ag,u.sec,iY,noH,0⟩:mK)).toArray:=V
   refine Nx (Re Z (lV Z V uq (by rfl)) ?_)
   exact⟨by rw[show iZ u=_ from if_neg (by omega)],((L7.tb ar O ao).tb aU l n)⟩
  refine GT.last (G.ef Z Z Z Z Z (Ef.pR sD fun s au X (aV:ik au s 134 (iR lG).toArray) D=>⟨fun _=>D,?_⟩))
  refine Xc Z (sW au) fun be t=>Ga Z (.iF (iR (⟨u.kd,0,ag,u.sec,iY,noH,0⟩:mK)) A8 sD Z Z) (Xw Z (aV.le t) (iD.one (⟨u.kd,0,ag,u.sec,iY,noH,0⟩:mK)) ?_)
  intro aW I K
  refine noT (by kernel_rfl) ?_
  have I:ik aW s 134 (iR (⟨u.kd,0,ag,u.sec,iY,noH,0⟩:mK)).toArray:=I
  have av:=((C.trans D).trans t).tb K C X
  refine Gx (Sq (Rr 1 Z ?_))
  have _:=e.size
  have Y:=((j.le (e.trans (D.trans t))).cn K (by have:=j.lt;omega))
  refine Yk (J (u.kd:Int)) Z Y Z (Yx 1 Z ?_)
  by_cases k:(u.kd:Int)=1
  ·refine Cy Z (dT k) (Rr 1 Z (Yb (jl u.c) Z Y Z (Yn 1 Z (W.jR Z Z (Ef.lY (iR (⟨u.kd,0,u.c,u.sec,iY,noH,0⟩:mK)) Bl (by rfl) Z Z I (by simp[iD.len,iN.len]) (iN.one u.c) Z ?_)))))
   intro aX aa aw
   have aa:ik aX s 134 (iR (⟨u.kd,0,u.c,u.sec,iY,noH,0⟩:mK)).toArray:=aa
   refine Nx (Sr (Yh Z aa ?_))
   have ax:s≠i:=by have:=f.lt;have:=d.size;omega
   refine Yw Z (((f.le (d.trans (e.trans (D.trans t)))).cn K ax).cn aw ax) (iD.one (⟨u.kd,0,u.c,u.sec,iY,noH,0⟩:mK)) ?_
   intro aY ac aZ
   have ac:ik aY i 134 (iR (⟨u.kd,0,u.c,u.sec,iY,noH,0⟩:mK)).toArray:=ac
   refine Nx (Rt (E.il (E.iC Z (lV Z ac uq (by rfl)) ?_)))
   exact⟨by rw[show iZ u=_ from if_pos (by omega)],((av.tb aw C X).tb aZ l n)⟩
  refine Cn Z (dF k) (Sn (Rr 2 Z (Yk (J u.c.id) Z Y Z (Yn 1 Z (W.jR Z Z (Ef.store nC Z Z I (by first|decide|(simp;done)|simp[iD.len]) Z ?_))))))
  intro a0 ad ay
  have ad:ik a0 s 134 (iR (⟨u.kd,u.c.id,ag,u.sec,iY,noH,0⟩:mK)).toArray:=ad
  refine Nx (Sr (Yh Z ad ?_))
  have az:s≠i:=by have:=f.lt;have:=d.size;omega
  refine Yw Z (((f.le (d.trans (e.trans (D.trans t)))).cn K az).cn ay az) (iD.one (⟨u.kd,u.c.id,ag,u.sec,iY,noH,0⟩:mK)) ?_
  intro a1 ae a2
  have ae:ik a1 i 134 (iR (⟨u.kd,u.c.id,ag,u.sec,iY,noH,0⟩:mK)).toArray:=ae
  refine Nx (Re Z (lV Z ae uq (by rfl)) ?_)
  exact⟨by rw[show iZ u=_ from if_neg (by omega)],((av.tb ay C X).tb a2 l n)⟩
 refine GT.last (G.ef Z Z Z Z Z (Ef.pR sD fun x aA af (a3:ik aA x 134 (iR lG).toArray) F=>⟨fun _=>F,?_⟩))
 refine Xc Z (sW aA) fun a4 y=>Xc Z (sW a4) fun bf A=>Ga Z (.iF (iR (⟨u.kd,0,ag,u.sec,iY,noH,0⟩:mK)) A8 sD Z Z) (Xw Z (a3.le (y.trans A)) (iD.one (⟨u.kd,0,ag,u.sec,iY,noH,0⟩:mK)) ?_)
 intro a5 L N
 refine noT (by kernel_rfl) ?_
 have L:ik a5 x 134 (iR (⟨u.kd,0,ag,u.sec,iY,noH,0⟩:mK)).toArray:=L
 have aB:=(((B.trans F).trans y).trans A).tb N B af
 refine Gx (Sq (Rr 1 Z ?_))
 have ah:=((j.le (F.trans (y.trans A))).cn N (by have:=j.lt;omega))
 refine Yk (J (u.kd:Int)) Z ah Z (Yx 1 Z ?_)
 by_cases k:(u.kd:Int)=1
 ·refine Cy Z (dT k) (Rr 1 Z (Yb (jl u.c) Z ah Z (Yn 1 Z (W.jR Z Z (Ef.lY (iR (⟨u.kd,0,u.c,u.sec,iY,noH,0⟩:mK)) Bl (by rfl) Z Z L (by simp[iD.len,iN.len]) (iN.one u.c) Z ?_)))))
  intro a6 ai aC
  have ai:ik a6 x 134 (iR (⟨u.kd,0,u.c,u.sec,iY,noH,0⟩:mK)).toArray:=ai
  refine Nx (Sr (Yh Z ai ?_))
  have aD:x≠i:=by have:=f.lt;have:=d.size;omega
  refine Yw Z (((f.le (d.trans (F.trans (y.trans A)))).cn N aD).cn aC aD) (iD.one (⟨u.kd,0,u.c,u.sec,iY,noH,0⟩:mK)) ?_
  intro a7 aj a8
  have aj:ik a7 i 134 (iR (⟨u.kd,0,u.c,u.sec,iY,noH,0⟩:mK)).toArray:=aj
  refine Nx (Rt (E.il (E.iC Z (lV Z aj uq (by rfl)) ?_)))
  exact⟨by rw[show iZ u=_ from if_pos (by omega)],((aB.tb aC B af).tb a8 l n)⟩
 refine Cn Z (dF k) (Sn (Rr 2 Z (Yk (J u.c.id) Z ah Z (Yn 1 Z (W.jR Z Z (Ef.store nC Z Z L (by first|decide|(simp;done)|simp[iD.len]) Z ?_))))))
 intro a9 ak aE
 have ak:ik a9 x 134 (iR (⟨u.kd,u.c.id,ag,u.sec,iY,noH,0⟩:mK)).toArray:=ak
 refine Nx (Sr (Yh Z ak ?_))
 have aF:x≠i:=by have:=f.lt;have:=d.size;omega
 refine Yw Z (((f.le (d.trans (F.trans (y.trans A)))).cn N aF).cn aE aF) (iD.one (⟨u.kd,u.c.id,ag,u.sec,iY,noH,0⟩:mK)) ?_
 intro ba al bb
 have al:ik ba i 134 (iR (⟨u.kd,u.c.id,ag,u.sec,iY,noH,0⟩:mK)).toArray:=al
 refine Nx (Re Z (lV Z al uq (by rfl)) ?_)
 exact⟨by rw[show iZ u=_ from if_neg (by omega)],((aB.tb aE B af).tb bb l n)⟩
theorem IV (m:mK)(w:World)(hk:1<=m.kd/\m.kd<=3):Calls prog 141 #[.agg (iR m).toArray] w fun r w'=>r= .returned (.agg (mg (q8 m)).toArray)/\Le w w':=by
 refine En func141 Z (Sr (Yv Z fun x y N (A:ik y x 134 (iR m).toArray) B=>?_))
 have e:=(Le.refl w).trans B
 refine Yz Z z85 fun f C i (j:ik C f 85 (mg iJ).toArray) s=>?_
 have k:=e.trans s
 refine Nx (Sq (Rr 1 Z ?_))
 have d:=(A.le s)
 refine Yk (J (m.kd:Int)) Z d Z (Nx (Bk (Rn 2 Z ?_)))
 by_cases t:(m.kd:Int)=1
 ·refine Cy Z (dT t) (Rr 1 Z (Yk (J (m.kd:Int)) Z d Z (Yn 1 Z (Yb (jl m.c) Z d Z (Yn 1 Z (Yk (.slice none 0 0) Z d Z (Wa (.iF (mg (⟨m.kd,m.c,0⟩:kT)) P8 z85 Z Z) Z (Yw Z j (jK.one (⟨m.kd,m.c,0⟩:kT)) ?_))))))))
  intro D l F
  have l:ik D f 85 (mg (⟨m.kd,m.c,0⟩:kT)).toArray:=l
  refine Nx (Rt (E.jc (E.il (E.iC Z (lV Z l Li (by rfl)) ?_))))
  exact⟨by unfold q8;rw[if_pos (by omega)],(k.tb F e i)⟩
 refine Cn Z (dF t) (Rn 2 Z ?_)
 by_cases u:(m.kd:Int)=2
 ·refine Cy Z (dT u) (Rr 1 Z (Yk (J (m.kd:Int)) Z d Z (Yn 1 Z (Yk (J m.no) Z d Z (Wa (.iF (jl (⟨0,m.no,0,0,0⟩)) TY z83 Z Z) Z (Yn 1 Z (Yk (.int .u64 (m.sec:Int)) Z d Z (Wa (.iF (mg (⟨m.kd,⟨0,m.no,0,0,0⟩,m.sec⟩:kT)) P8 z85 Z Z) Z (Yw Z j (jK.one (⟨m.kd,⟨0,m.no,0,0,0⟩,m.sec⟩:kT)) ?_)))))))))
  intro H n I
  have n:ik H f 85 (mg (⟨m.kd,⟨0,m.no,0,0,0⟩,m.sec⟩:kT)).toArray:=n
  refine Nx (Rt (E.jc (E.il (E.iC Z (lV Z n Li (by rfl)) ?_))))
  exact⟨by unfold q8;rw[if_neg (by omega),if_pos (by omega)],(k.tb I e i)⟩
 refine Cn Z (dF u) (Rn 2 Z (Cy Z (dT (by omega)) (Rr 1 Z (Yk (J (m.kd:Int)) Z d Z (Yn 1 Z (Yk (J m.no) Z d Z (Wa (.iF (jl (⟨0,m.no,0,0,0⟩)) TY z83 Z Z) Z (Yn 1 Z (Yk (.slice none 0 0) Z d Z ?_)))))))))
 refine Wa (.iF (mg (⟨m.kd,⟨0,m.no,0,0,0⟩,0⟩:kT)) P8 z85 Z Z) Z (Yw Z j (jK.one (⟨m.kd,⟨0,m.no,0,0,0⟩,0⟩:kT)) ?_)
 intro K o L
 have o:ik K f 85 (mg (⟨m.kd,⟨0,m.no,0,0,0⟩,0⟩:kT)).toArray:=o
 refine Nx (Rt (E.jc (E.il (E.iC Z (lV Z o Li (by rfl)) ?_))))
 exact⟨by unfold q8;rw[if_neg (by omega),if_neg (by omega)],(k.tb L e i)⟩
end Go.Proofs.YtkpmaajniagncaaGreatDoor
namespace Go.Sx
open Go Go.RowKit
open Go.ChangeMaps (setBlock)
section
variable {κ β:Type}[DecidableEq κ]{kf:κ->Value}{vf:β->Value}{P:Program}{env:Env}{n:Nat}{d:Option Nat}{T:TypeId}{p:String}{af:Array Edge}{g:Option (Nat×Bool)}{w w':World}{K:Value->World->Prop}{gb clock:Nat}{l:List (Nat×κ×β)}
theorem Ef.Gp {t kt et:Nat}{x y z:Operand}{key:κ}{u:β}(ht:P.underlying t=some (.map kt et))(hk:wT P kt kf)(hx:ev env x=some (.map (some gb)))(hy:ev env y=some (kf key))(hz:ev env z=some (vf u))(hM:jk w kf vf gb l clock)
  (hn:iO key l=none)(h:∀w',jk w' kf vf gb (l++[(clock,key,u)]) (clock+1)->Ch w w' (some gb)->K undef w'):Ef P env n ⟨d,.insert t x y z,T,p,af,g⟩ w K:=by
 have hf:=hk.get (vf:=vf) key l w
 have hc:=hk.check false key w
 have hn':nz key l 0=none:=by rw[sP];exact oU.1 hn
 rw[hn']at hf
 refine .rR (w':=setBlock w gb (.map ((l++[(clock,key,u)]).map (lv kf vf)).toArray (clock+1))) (fun a ha=>?_) (h _ ⟨nA hM.1,hM.2.push key u (oU.1 hn)⟩ (Ch.uC _ _ _))
 have hset:=fun o=>xN (P:=P) hM.1 o
 simp only[execOp,ha.eval hx,ha.eval hy,ha.eval hz,Instr.mapUpdate,Sem.run_bind,run_underlying ht,getObj,Sem.run,hM.1,Result.andThen,Sem.run_pure]
 rw[hc]
 simp only[]
 rw[hf]
 simp[hset,lv]
end
end Go.Sx
namespace Go.Proofs.YtkpmaajniagncaaGreatDoor
open Tryz
open Go Go.Sx Go.Fv Go.Num Go.KJ Go.Gz Go.Lsp Go.JQ Go.yA Go.Scp Go.E8
set_option maxRecDepth 20000
def ffn (F:Nat):Value:= .func (.func F) #[] #[]
structure ZC (w:World)(base g:Nat)(F:Nat->Prop)(z:jU)(a:Nat->kZ)(ps:List jw):Prop where
 b:ik w g 80 (tX ⟨z,a⟩).toArray
 l:∀i,i<2->iy w base 85 mg 10 (a i).A (a i).n (a i).c (z.lg i)
 p:iy w base 35 jq 2 (a 2).A (a 2).n (a 2).c ps
 k:iy w base 5 jv 1 (a 3).A (a 3).n (a 3).c (jF z.nk++jZ z.sd z.nk 21)
 ap:∀i,i<2->∀q,rowOf (a i).A (a i).c=some q->rowOf (a (1-i)).A (a (1-i)).c≠some q
 o:base<=g
 f:∀k,F k↔(k=g\/(∃i,i<2/\rowOf (a i).A (a i).c=some k)\/rowOf (a 2).A (a 2).c=some k\/rowOf (a 3).A (a 3).c=some k)
 pl:ps.length<=z.nk+1
def qy (w:World)(base g:Nat)(F:Nat->Prop)(z:jU):Prop:=∃a ps,ZC w base g F z a ps
section
variable {w w':World}{base g:Nat}{F G:Nat->Prop}{z:jU}{a:Nat->kZ}{ps:List jw}
theorem ZC.r (h:ZC w base g F z a ps):Al w g z a:=⟨h.b,fun i hi=>(h.l i hi).vec,fun i hi=>(h.l i hi).cap.1⟩
theorem qy.ji (h:qy w base g F z)(hc:iX w w' G)(hne:∀k,F k->¬G k):qy w' base g F z:=by
 obtain⟨a,ps,h⟩:=h
 exact⟨a,ps,h.b.ji hc (hne g ((h.f g).2 (.inl Z))),fun i hi=>(h.l i hi).ji hc fun k hk=>hne k ((h.f k).2 (.inr (.inl ⟨i,hi,hk⟩))),h.p.ji hc fun k hk=>hne k ((h.f k).2 (.inr (.inr (.inl hk)))),h.k.ji hc fun k hk=>hne k ((h.f k).2 (.inr (.inr (.inr hk)))),h.ap,h.o,h.f,h.pl⟩
theorem qy.ch {r:Option Nat}(h:qy w base g F z)(hc:Ch w w' r)(hne:∀k,r=some k->¬F k):qy w' base g F z:=h.ji (hc.ji (F:=fun k=>r=some k) (fun i hi=>hi)) (fun k hk hr=>hne k hr hk)
theorem qy.le (h:qy w base g F z)(hl:Le w w'):qy w' base g F z:=h.ji (hl.ji (fun _=>False)) (fun _ _ hf=>hf)
theorem qy.lt (h:qy w base g F z){k:Nat}(hk:F k):k<w.heap.size:=by
 obtain⟨a,ps,h⟩:=h
 rcases(h.f k).1 hk with rfl|⟨i,hi,hk⟩|hk|hk
 ·exact h.b.lt
 ·exact((h.l i hi).row hk).2
 ·exact(h.p.row hk).2
 ·exact(h.k.row hk).2
theorem qy.old (h:qy w base g F z){k:Nat}(hk:F k):base<=k:=by
 obtain⟨a,ps,h⟩:=h
 rcases(h.f k).1 hk with rfl|⟨i,hi,hk⟩|hk|hk
 ·exact h.o
 ·exact((h.l i hi).row hk).1
 ·exact(h.p.row hk).1
 ·exact(h.k.row hk).1
theorem qy.jg {k t:Nat}{cs:Array Value}(h:qy w base g F z)(hB:ik w k t cs)(e1:80≠t/\85≠t)(e2:35≠t/\5≠t):¬F k:=fun hF=>by
 obtain⟨a,ps,h⟩:=h
 rcases(h.f k).1 hF with rfl|⟨i,hi,hk⟩|hk|hk
 ·exact e1.1 (FE h.b hB)
 ·obtain⟨cs',hc⟩:=(h.l i hi).qU hk;exact e1.2 (FE hc hB)
 ·obtain⟨cs',hc⟩:=h.p.qU hk;exact e2.1 (FE hc hB)
 ·obtain⟨cs',hc⟩:=h.k.qU hk;exact e2.2 (FE hc hB)
theorem qy.xX {b e sz n c:Nat}{α:Type}{f:α->List Value}{A:Option Addr}{zs:List α}(h:qy w base g F z)(ho:iy w b e f sz A n c zs)(h1:80≠e/\85≠e)(h2:35≠e/\5≠e):∀k,rowOf A c=some k->¬F k:=fun k hk=>by
 obtain⟨cs,hB⟩:=ho.qU hk
 exact h.jg hB h1 h2
end
theorem Br {g:Nat}{z:jU}{a:Nat->kZ}(of:Nat)(d:mF)(hof:of<2)(w:World)(hS:Al w g z a)(hz:lJ z)(hfu:zw z)(hd:Am z of d):Calls prog 181 #[.pointer (some ⟨g,0,none⟩),J (of:Int),.agg (mg (⟨1,d,0⟩:kT)).toArray] w fun r w'=>r= .returned (J (if z.kp of<=z.sp of-d.am then 0 else 8))/\Le w w':=by
 refine En func181 Z (Sr (Yv Z fun i c l (e:ik c i 85 (mg (⟨1,d,0⟩:kT)).toArray) j=>?_))
 have f:=(Le.refl w).trans j
 refine Yx 1 Z (Rr 3 Z (Yb (jl d) Z e Z (Yn 1 Z (Yk (.slice none 0 0) Z e Z (Yc Z (U2 of d (by omega) c (hS.le f) hz hfu hd) fun m k=>Yy 1 Z Z Z ?_)))))
 exact⟨rfl,(f.trans k)⟩
variable {u:kT}{e:Int}
theorem abJ {base g of F:Nat}{z:jU}{a:Nat->kZ}(w:World)(hb:ik w g 80 (tX ⟨z,a⟩).toArray)(hO:iy w base 85 mg 10 (a of).A (a of).n (a of).c (z.lg of))(hP:iy w base 85 mg 10 (a (1-of)).A (a (1-of)).n (a (1-of)).c (z.lg (1-of)))(hof:of<2)(hbase:base<=w.heap.size)(hn:(a of).n<=30)(hgo:o8 prog F)(hget:iO (u.kd:Int) [(0,(1:Int),181),(1,2,183),(2,3,183),(3,4,184)]=some F)(hf:∀w',Al w' g z a->Calls prog F #[.pointer (some ⟨g,0,none⟩),J (of:Int),.agg (mg u).toArray] w' fun r w''=>r= .returned (J e)/\Le w' w'')(hap:Apart (a of).A (a of).c (a (1-of)).A (a (1-of)).c):Calls prog 138 #[.pointer (some ⟨g,0,none⟩),J (of:Int),.agg (mg u).toArray] w fun r w'=>∃A' n' c' xs,r= .returned (J e)/\(e=0->xs=z.lg of++[u])/\(e≠0->xs=z.lg of)/\ik w' g 80 (tX ⟨z,j5 a of ⟨A',n',c'⟩⟩).toArray/\iy w' base 85 mg 10 A' n' c' xs/\(∀k,rowOf A' c'=some k->rowOf (a of).A (a of).c=some k\/w.heap.size<=k)/\iX w w' (fun k=>k=g\/rowOf (a of).A (a of).c=some k):=by
 have hne:rowOf (a of).A (a of).c≠some g:=fun he=>iy.kV hO hb (by decide) he
 have aT:rowOf (a (1-of)).A (a (1-of)).c≠some g:=fun he=>iy.kV hP hb (by decide) he
 refine En func138 Z ?_
 have Q:=iX.refl w (fun k=>k=g\/rowOf (a of).A (a of).c=some k)
 refine Sr (Yv Z fun B ax ad (ae:ik ax B 85 (mg u).toArray) d=>?_)
 have C:=Q.le d
 refine Yx 1 Z (Sr (W.ef Z Z Z (Ef.wU uu ffn fun af aU I ay j=>?_)))
 have L2:=C.le j
 refine W.jR Z Z (Ef.Gp (key:=1) (u:=181) underlying283 qG Z Z Z ay (by rfl) ?_)
 intro az aA l
 have _:=C.size
 have L3:iX w az (fun k=>k=g\/rowOf (a of).A (a of).c=some k):=L2.ch l (fun i hi hlt=>by cases hi;exact absurd hlt (by have:=I;omega))
 refine W.jR Z Z (Ef.Gp (key:=2) (u:=183) underlying283 qG Z Z Z aA (by rfl) ?_)
 intro aB aC m
 have L4:iX w aB (fun k=>k=g\/rowOf (a of).A (a of).c=some k):=L3.ch m (fun i hi hlt=>by cases hi;exact absurd hlt (by have:=I;omega))
 refine W.jR Z Z (Ef.Gp (key:=3) (u:=183) underlying283 qG Z Z Z aC (by rfl) ?_)
 intro aD aE o
 have L5:iX w aD (fun k=>k=g\/rowOf (a of).A (a of).c=some k):=L4.ch o (fun i hi hlt=>by cases hi;exact absurd hlt (by have:=I;omega))
 refine W.jR Z Z (Ef.Gp (key:=4) (u:=184) underlying283 qG Z Z Z aE (by rfl) ?_)
 intro aF aG s
 have L6:iX w aF (fun k=>k=g\/rowOf (a of).A (a of).c=some k):=L5.ch s (fun i hi hlt=>by cases hi;exact absurd hlt (by have:=I;omega))
 refine Yx 2 Z (Sq (Rr 2 Z ?_))
 have K:af≠B:=by have:=ae.lt;omega
 have R:=(((((ae.le j).cn l K).cn m K).cn o K).cn s K)
 refine Yk (J (u.kd:Int)) Z R Z (Wr (.as (.vK (key:=(u.kd:Int)) underlying283 qG ahW Z Z aG) (by rw[show iO (u.kd:Int) (((([]++[(0,1,181)])++[((0+1),2,183)])++[(((0+1)+1),3,183)])++[((((0+1)+1)+1),4,184)])=some F from hget]<;>rfl)) Z (Yn 2 Z (Yh Z R ?_)))
 have _:=hb.lt
 have _:=d.size
 have L:af≠g:=by omega
 have S:=(((((hb.le (d.trans j)).cn l L).cn m L).cn o L).cn s L)
 have U:=(((((hO.le (d.trans j)).cb l (hO.rn (by omega))).cb m (hO.rn (by omega))).cb o (hO.rn (by omega))).cb s (hO.rn (by omega)))
 refine W.ef Z Z Z (Ef.yV hgo Z Z Z (hf _ (Al.mk2 (by omega) S U (((((hP.le (d.trans j)).cb l (hP.rn (by omega))).cb m (hP.rn (by omega))).cb o (hP.rn (by omega))).cb s (hP.rn (by omega))))) ?_)
 rintro _ aV ⟨rfl,f⟩
 refine⟨_,rfl,?_⟩
 have ah:=L6.le f
 refine Yx 1 Z (Rn 2 Z ?_)
 by_cases c0:e≠0
 ·refine Cy Z (dT c0) (Rn 2 Z (Rt (E.il ?_)))
  have aH:=(S.le f)
  have aI:=(U.le f)
  refine E.iC Z Z ?_
  exact⟨_,_,_,z.lg of,rfl,(fun h=>absurd h (by assumption)),fun _=>rfl,by rw[xx];exact aH,aI,fun k hk=> .inl hk,ah⟩
 refine Cn Z (dF c0) (Sn (Sq (WC.draw [0,1,3,4,2,6,5,7,8,9] mixed (by kernel_rfl) fun w5 D=>Xn 1 Z ?_)))
 have V:=(R.le (f.trans D))
 refine Xk (.slice none 0 0) Z V Z (Xn 1 Z (Xk (.slice none 0 0) Z V Z (Xc Z (sW w5) fun aJ t=>Xn 1 Z (Xc Z (sW aJ) fun aW x=>?_))))
 have aK:=((ah.le D).le t).le x
 refine G.jR Z Z Z Z (Ef.store H7 Z Z (V.le (t.trans x)) (by first|decide|(simp;done)|simp[jK.len]) Z ?_)
 intro ai X N
 refine noT (by kernel_rfl) ?_
 have X:ik ai B 85 (mg u).toArray:=X
 have _:=Q.size
 have aL:iX w ai (fun k=>k=g\/rowOf (a of).A (a of).c=some k):=aK.ch N (fun i hi hlt=>by cases hi;exact absurd hlt (by have:=ad;omega))
 refine Xn 1 Z (G.jR Z Z Z Z (Ef.store H7 Z Z X (by first|decide|(simp;done)|simp[jK.len]) Z ?_))
 intro aj Y O
 refine noT (by kernel_rfl) ?_
 have Y:ik aj B 85 (mg u).toArray:=Y
 have aM:iX w aj (fun k=>k=g\/rowOf (a of).A (a of).c=some k):=aL.ch O (fun i hi hlt=>by cases hi;exact absurd hlt (by have:=ad;omega))
 refine Gx (Sq (WC.draw [0,1,2,3,4,5,6,7,8,11,12,9,10,13,14] mixed (by kernel_rfl) fun w6 H=>Xn 6 Z (Xi of Z ?_)))
 have ak:B≠g:=by omega
 have aa:=((((S.le (f.trans (D.trans (t.trans x)))).cn N ak).cn O ak).le H)
 refine Xk (.slice ((a of).A) ((a of).n) ((a of).c)) Z aa (oM (⟨z,a⟩:sF) (by omega)) (Xh Z (Y.le H) (Xn 2 Z (G.ef Z Z Z Z Z (Ef.iw (len:=1) [_] underlying57 aat Z (by simp[Value.cells,jK.len]) Z (by decide) (by decide) ?_))))
 intro al an aN P y
 refine⟨fun _=>y,?_⟩
 have ao:=(aM.le H).le y
 have P:ik an al 85 (([u]).map mg).flatten.toArray:=P
 have aX:iy an w6.heap.size 85 mg 10 (some ⟨al,0,none⟩) 1 1 ([u]):=P.j4 aN jK Z Z (by decide)
 refine G.ef Z Z Z Z Z (Ef.vJ (a:=u) underlying57 aat underlying57 jK Z ((((U.le (f.trans (D.trans (t.trans x)))).cb N (hO.rn (by omega))).cb O (hO.rn (by omega))).le (H.trans y)) Z P (by omega) (by unfold maxLen;omega) (Nat.le_trans hbase (ao).size) ?_)
 intro ap aq aO aP ar au
 refine noT (by kernel_rfl) ?_
 have aQ:iX w aO (fun k=>k=g\/rowOf (a of).A (a of).c=some k):=ao.ch ar (fun i hi _=>(fun i hi=>Or.inr hi) i hi)
 refine Xi of Z (G.jR Z Z Z Z (Ef.store ahG Z Z ((aa.le y).ch ar hne) (by simp[qW.len,-List.getD_eq_getElem?_getD];omega) Z ?_))
 intro av ac aw
 refine noT (by kernel_rfl) ?_
 have ac:ik av g 80 (tX (⟨z,(j5 a of (⟨ap,((a of).n+1),aq⟩:kZ))⟩:sF)).toArray:=ac.cast (U0 (⟨z,a⟩:sF) (⟨ap,((a of).n+1),aq⟩:kZ) (by omega))
 have aR:iX w av (fun k=>k=g\/rowOf (a of).A (a of).c=some k):=aQ.ch aw (fun i hi _=>by cases hi;exact Or.inl Z)
 refine Gx (Rn 1 Z (Rt ?_))
 have _:=y.size
 have aS:=(aP.ch aw (fun q hq=>by cases hq;exact(au.off (by have:=aa.lt;omega) hne)))
 refine E.iC Z Z ?_
 exact⟨_,_,_,z.lg of++[u],by rw[show e=0 by omega],fun _=>rfl,(fun h=>absurd h (by omega)),ac,aS,fun k hk=>(au k hk).imp id fun h=>by have:=j.size;have:=l.size;have:=m.size;have:=o.size;have:=s.size;have:=f.size;have:=D.size;have:=t.size;have:=x.size;have:=N.size;have:=O.size;have:=H.size;omega,aR⟩
def jU.yF (z:jU)(i:Nat)(l:List kT):jU:={z with lg:=fun j=>if j=i then l else z.lg j}
theorem abK (z:jU)(i:Nat)(l:List kT):(z.yF i l).lg i=l:=if_pos Z
theorem abL (z:jU){i j:Nat}(l:List kT)(h:j≠i):(z.yF i l).lg j=z.lg j:=if_neg h
theorem U3 (z:jU)(i:Nat):z.yF i (z.lg i)=z:=by
 have:(fun j=>if j=i then z.lg i else z.lg j)=z.lg:=funext fun j=>by split<;>simp_all
 unfold jU.yF
 rw[this]
variable {w:World}{F:Nat->Prop}{ps:List jw}
theorem ZC.upd {w':World}{base g of:Nat}{z:jU}{a:Nat->kZ}{s:kZ}{xs:List kT}(h:ZC w base g F z a ps)(hof:of<2)(k1:ik w' g 80 (tX ⟨z,j5 a of s⟩).toArray)(k2:iy w' base 85 mg 10 s.A s.n s.c xs)
  (k3:∀k,rowOf s.A s.c=some k->rowOf (a of).A (a of).c=some k\/w.heap.size<=k)(k4:iX w w' (fun k=>k=g\/rowOf (a of).A (a of).c=some k)):∃F',qy w' base g F' (z.yF of xs)/\(∀k,F' k->F k\/w.heap.size<=k)/\iX w w' F:=by
 have hO:=h.l of hof
 have hP:=h.l (1-of) (by omega)
 have nP:∀k,rowOf (a (1-of)).A (a (1-of)).c=some k->¬(k=g\/rowOf (a of).A (a of).c=some k):=fun k hk q=>by
  rcases q with rfl|q
  ·exact iy.kV hP h.b (by decide) hk
  ·exact h.ap of hof k q hk
 have np:∀k,rowOf (a 2).A (a 2).c=some k->¬(k=g\/rowOf (a of).A (a of).c=some k):=fun k hk q=>by
  rcases q with rfl|q
  ·exact iy.kV h.p h.b (by decide) hk
  ·exact hO.u7 h.p (by decide) k q hk
 have nk:∀k,rowOf (a 3).A (a 3).c=some k->¬(k=g\/rowOf (a of).A (a of).c=some k):=fun k hk q=>by
  rcases q with rfl|q
  ·exact iy.kV h.k h.b (by decide) hk
  ·exact hO.u7 h.k (by decide) k q hk
 have e2:j5 a of s 2=a 2:=vQ _ _ (by omega)
 have e3:j5 a of s 3=a 3:=vQ _ _ (by omega)
 have eP:j5 a of s (1-of)=a (1-of):=vQ _ _ (by omega)
 have eO:j5 a of s of=s:=Da _ _ _
 have key:∀i,i<2->i=of\/i=1-of:=fun i hi=>by omega
 have hap:∀q,rowOf s.A s.c=some q->rowOf (a (1-of)).A (a (1-of)).c≠some q:=fun q hq hp=>by
  rcases k3 q hq with r|r
  ·exact h.ap of hof q r hp
  ·have:=(hP.row hp).2;omega
 refine⟨fun k=>k=g\/(∃i,i<2/\rowOf (j5 a of s i).A (j5 a of s i).c=some k)\/rowOf (j5 a of s 2).A (j5 a of s 2).c=some k\/rowOf (j5 a of s 3).A (j5 a of s 3).c=some k,⟨j5 a of s,ps,k1,fun i hi=>?_,?_,?_,fun i hi q hq=>?_,h.o,fun k=>Iff.rfl,h.pl⟩,?_,?_⟩
 ·rcases key i hi with rfl|rfl
  ·rw[eO,abK];exact k2
  ·rw[eP,abL _ _ (by omega)];exact hP.ji k4 nP
 ·rw[e2];exact h.p.ji k4 np
 ·rw[e3];exact h.k.ji k4 nk
 ·rcases key i hi with rfl|rfl
  ·rw[eP];rw[eO]at hq;exact hap q hq
  ·rw[pg hof,eO];rw[eP]at hq;exact fun hs=>hap q hs hq
 ·rintro k (hk|⟨i,hi,hk⟩|hk|hk)
  ·exact .inl ((h.f k).2 (.inl hk))
  ·rcases key i hi with rfl|rfl
   ·rw[eO]at hk;exact(k3 k hk).imp (fun q=>(h.f k).2 (.inr (.inl ⟨_,hof,q⟩))) id
   ·rw[eP]at hk;exact .inl ((h.f k).2 (.inr (.inl ⟨_,hi,hk⟩)))
  ·rw[e2]at hk;exact .inl ((h.f k).2 (.inr (.inr (.inl hk))))
  ·rw[e3]at hk;exact .inl ((h.f k).2 (.inr (.inr (.inr hk))))
 ·refine k4.mono fun k hk _=>?_
  rcases hk with hk|hk
  ·exact(h.f k).2 (.inl hk)
  ·exact(h.f k).2 (.inr (.inl ⟨of,hof,hk⟩))
theorem Gq {base g of G:Nat}{z:jU}(h:qy w base g F z)(hof:of<2)(hn:(z.lg of).length<=30)(hgo:o8 prog G)(hget:iO (u.kd:Int) [(0,(1:Int),181),(1,2,183),(2,3,183),(3,4,184)]=some G)
  (hf:∀w' a,Al w' g z a->Calls prog G #[.pointer (some ⟨g,0,none⟩),J (of:Int),.agg (mg u).toArray] w' fun r w''=>r= .returned (J e)/\Le w' w''):
  Calls prog 138 #[.pointer (some ⟨g,0,none⟩),J (of:Int),.agg (mg u).toArray] w fun r w'=>∃F',r= .returned (J e)/\qy w' base g F' (if e=0 then z.yF of (z.lg of++[u])else z)/\(∀k,F' k->F k\/w.heap.size<=k)/\iX w w' F:=by
 obtain⟨a,ps,h⟩:=h
 refine(abJ w h.b (h.l of hof) (h.l (1-of) (by omega)) hof (by have:=h.b.lt;have:=h.o;omega) (by have:=(h.l of hof).1;omega) hgo hget (fun w' hr=>hf w' a hr) (fun q d f=>h.ap of hof q d f)).mono ?_
 rintro r w' ⟨A',n',c',xs,rfl,i,j,k1,k2,m,n⟩
 obtain⟨F',c,s,t⟩:=h.upd hof k1 k2 m n
 refine⟨F',rfl,?_,s,t⟩
 by_cases he:e=0
 ·rw[if_pos he];rw[i he]at c;exact c
 ·rw[if_neg he];rw[j he,U3]at c;exact c
theorem SF {base g:Nat}{z:jU}{fi:Nat}(w:World)(hS:qy w base g F z)(hme:z.me<2)(hn:(z.lg z.me).length<=30)(hgo:o8 prog fi)(hget:iO (u.kd:Int) [(0,(1:Int),181),(1,2,183),(2,3,183),(3,4,184)]=some fi)(hf:∀w' a,Al w' g z a->Calls prog fi #[.pointer (some ⟨g,0,none⟩),J (z.me:Int),.agg (mg u).toArray] w' fun r w''=>r= .returned (J e)/\Le w' w'')(hk:1<=u.kd/\u.kd<=3):Calls prog 86 #[.pointer (some ⟨g,0,none⟩),.agg (mg u).toArray] w fun r w'=>∃F',r= .returned (.tuple #[.agg (iR (if e=0 then iZ u else lG)).toArray,J e])/\qy w' base g F' (if e=0 then z.yF z.me (z.lg z.me++[u])else z)/\(∀k,F' k->F k\/w.heap.size<=k)/\iX w w' F:=by
 refine En func86 Z (Sr (Yv Z fun B Q R (S:ik Q B 85 (mg u).toArray) l=>?_))
 have m:=(iX.refl w F).le l
 refine Yz Z sD fun c U n (V:ik U c 134 (iR lG).toArray) o=>Yx 1 Z (Sq (Sq (WC.draw [0,1,2,3,4,5,6,7] mixed (by kernel_rfl) fun w1 d=>?_)))
 have s:=(m.le o).le d
 have C:=(hS.le (l.trans (o.trans d)))
 obtain⟨a1,ah,X⟩:=id C
 refine Xn 4 Z (Xk (J (z.me:Int)) Z X.b Z ?_)
 have D:=(S.le (o.trans d))
 refine Xh Z D (Xd Z (Gq C (by omega) (by omega) hgo hget hf) ?_)
 rintro _ Y ⟨ai,rfl,f,H,t⟩
 refine noT (by kernel_rfl) ?_
 have I:=s.sub t (fun i hi hlt=>hi)
 have j:=(V.le d).ji t (show¬F c from(fun hF=>by have:=hS.lt hF;have:=l.size;have:=n;omega))
 refine Xx 1 Z (Rn 2 Z ?_)
 by_cases K:e≠0
 ·refine Cy Z (dT K) (Sr (Wa (.iF (iR (⟨0,0,ag,0,iY,noH,0⟩:mK)) A8 sD Z Z) Z (Yn 1 Z (Yw Z j (iD.one (⟨0,0,ag,0,iY,noH,0⟩:mK)) ?_))))
  intro L x N
  have x:ik L c 134 (iR (⟨0,0,ag,0,iY,noH,0⟩:mK)).toArray:=x
  have aa:iX w L F:=I.ch N (fun i hi hlt=>by cases hi;exact absurd hlt (by have:=m.size;have:=n;omega))
  refine Yx 1 Z (Rt (E.il ?_))
  have ac:=(f.ch N (fun q hqq hF=>by cases hqq;exact(f.jg j (by decide) (by decide)) hF))
  refine E.lD Z (lV Z x uq (by rfl)) Z ?_
  have ee:e≠0:=by omega
  exact⟨_,(by rw[if_neg ee];rfl),ac,fun k hk=>(H k hk).imp_right (fun h=>Nat.le_trans (s).size h),aa⟩
 refine Cn Z (dF K) (Sn (Sr (Yh Z (D.ji t (show¬F B from(fun hF=>by have:=hS.lt hF;have:=R;omega))) (Yc Z (abI u Y hk) fun aj y=>?_))))
 have ad:=I.le y
 refine Yw Z (j.le y) (iD.one (iZ u)) ?_
 intro O A P
 have A:ik O c 134 (iR (iZ u)).toArray:=A
 have ae:iX w O F:=ad.ch P (fun i hi hlt=>by cases hi;exact absurd hlt (by have:=m.size;have:=n;omega))
 refine Yx 1 Z (Rt ?_)
 have af:=((f.le y).ch P (fun q hqq hF=>by cases hqq;exact(f.jg j (by decide) (by decide)) hF))
 refine E.lD Z (lV Z A uq (by rfl)) Z ?_
 have ee:e=0:=by omega
 exact⟨_,(by rw[if_pos ee,ee]),af,fun k hk=>(H k hk).imp_right (fun h=>Nat.le_trans (s).size h),ae⟩
theorem YY {base g:Nat}{z:jU}{am:Int}{pt:Nat}(w:World)(hS:qy w base g F z)(hz:lJ z)(hfu:zw z)(hd:Am z z.me (⟨(z.me:Int),((iG (z.lg z.me)).length:Int)+1,am,pt,500⟩:mF)):Calls prog 36 #[.pointer (some ⟨g,0,none⟩),J am,.int .u64 (pt:Int),J 500,.slice none 0 0] w fun r w'=>∃F',r= .returned (.tuple #[.agg (iR (if(if z.kp z.me<=z.sp z.me-am then 0 else 8:Int)=0 then iZ (⟨1,(⟨(z.me:Int),((iG (z.lg z.me)).length:Int)+1,am,pt,500⟩:mF),0⟩:kT)else lG)).toArray,J (if z.kp z.me<=z.sp z.me-am then 0 else 8:Int)])/\qy w' base g F' (if(if z.kp z.me<=z.sp z.me-am then 0 else 8:Int)=0 then z.yF z.me (z.lg z.me++[(⟨1,(⟨(z.me:Int),((iG (z.lg z.me)).length:Int)+1,am,pt,500⟩:mF),0⟩:kT)])else z)/\(∀k,F' k->F k\/w.heap.size<=k)/\iX w w' F:=by
 have hme:=hz.me
 have hnl:=hz.ln z.me hz.me
 have hal:=rY (z.lg z.me)
 refine En func36 Z ?_
 have s:=iX.refl w F
 refine Sr (Yz Z sD fun c ai j (t:ik ai c 134 (iR lG).toArray) K=>Yx 1 Z (Sq (WC.JC (fun o=>(app o [0,1,2,3,4,5,6,7,8,12,13,14] (.br (app o [9,10,11,15,16,17] .nil) (app o [16,9,10,11,15,17] .nil)))) mixed (by kernel_rfl) fun w1 d=>?_)))
 have x:=(s.le K).le d
 refine GT.app ?_
 have l:=(hS.le (K.trans d))
 obtain⟨a1,aA,L⟩:=id l
 refine Xn 3 Z (Xk (J (z.me:Int)) Z L.b Z (Xn 4 Z (Xk (J (z.me:Int)) Z L.b Z (Xn 3 Z (G.nil (GT.br ?_ ?_))))))
 ·refine GT.last (G.ef Z Z Z Z Z (Ef.call ah4 Z Z (let⟨_,_,hm⟩:=l;vg z.me (by omega) w1 hm.r hz) ?_))
  rintro _ aB ⟨aC,aD,aE,rfl,aF,aj,m⟩
  refine⟨_,rfl,?_⟩
  refine⟨fun _=>m,?_⟩
  have aG:=aj.len
  refine Xn 1 Z (Ga Z (.as (.add Z Z (by omega)) (int_eq (b:=(((iG (z.lg z.me)).length:Int)+1)) (by omega))) (Ga Z (.iF (jl (⟨(z.me:Int),((iG (z.lg z.me)).length:Int)+1,am,pt,500⟩:mF)) TY z83 Z Z) (G.ab Z Z Z z83 Bl (iN.one (⟨(z.me:Int),((iG (z.lg z.me)).length:Int)+1,am,pt,500⟩:mF)) fun ak N aH (al:ik N ak 83 (jl (⟨(z.me:Int),((iG (z.lg z.me)).length:Int)+1,am,pt,500⟩:mF)).toArray) y=>?_)))
  have O:=(x.le m).le y
  refine Gx (Rr 1 Z (Yh Z al (Yn 1 Z (Wa (.iF (mg (⟨1,(⟨(z.me:Int),((iG (z.lg z.me)).length:Int)+1,am,pt,500⟩:mF),0⟩:kT)) P8 z85 Z Z) Z (Yd Z (SF (u:=(⟨1,(⟨(z.me:Int),((iG (z.lg z.me)).length:Int)+1,am,pt,500⟩:mF),0⟩:kT)) (e:=(if z.kp z.me<=z.sp z.me-am then 0 else 8:Int)) N (l.le (m.trans y)) (by omega) (by omega) WR Z (fun w' a hr=>Br z.me (⟨(z.me:Int),((iG (z.lg z.me)).length:Int)+1,am,pt,500⟩:mF) hme w' hr hz hfu hd) (show 1<=1/\1<=3 from by decide)) ?_)))))
  rintro _ aI ⟨aJ,rfl,P,an,Q⟩
  have L7:=O.sub Q (fun i hi hlt=>hi)
  have R:=(t.le (d.trans (m.trans y))).ji Q (show¬F c from(fun hF=>by have:=hS.lt hF;have:=j;omega))
  refine Wa (.extract (v:= .agg (iR (if(if z.kp z.me<=z.sp z.me-am then 0 else 8:Int)=0 then iZ (⟨1,(⟨(z.me:Int),((iG (z.lg z.me)).length:Int)+1,am,pt,500⟩:mF),0⟩:kT)else lG)).toArray) Z Z) Z (Yn 1 Z (Yw Z R (iD.one (if(if z.kp z.me<=z.sp z.me-am then 0 else 8:Int)=0 then iZ (⟨1,(⟨(z.me:Int),((iG (z.lg z.me)).length:Int)+1,am,pt,500⟩:mF),0⟩:kT)else lG)) ?_))
  intro S A U
  have A:ik S c 134 (iR (if(if z.kp z.me<=z.sp z.me-am then 0 else 8:Int)=0 then iZ (⟨1,(⟨(z.me:Int),((iG (z.lg z.me)).length:Int)+1,am,pt,500⟩:mF),0⟩:kT)else lG)).toArray:=A
  have ao:iX w S F:=L7.ch U (fun i hi hlt=>by cases hi;exact absurd hlt (by have:=s.size;have:=j;omega))
  refine Yx 1 Z (Rt ?_)
  have ap:=(P.ch U (fun q hqq hF=>by cases hqq;exact(P.jg R (by decide) (by decide)) hF))
  refine E.lD Z (lV Z A uq (by rfl)) Z ?_
  exact⟨_,rfl,ap,fun k hk=>(an k hk).imp_right (fun h=>Nat.le_trans (O).size h),ao⟩
 refine GT.last (G.ef Z Z Z Z Z (Ef.pR z83 fun V X aq (Y:ik X V 83 (jl ag).toArray) n=>⟨fun _=>n,?_⟩))
 have B:=(l.le n)
 refine Xd Z (let⟨_,_,hm⟩:=B;vg z.me (by omega) X hm.r hz) ?_
 rintro _ aK ⟨aL,aM,aN,rfl,aO,ar,f⟩
 refine⟨fun _=>f,?_⟩
 have au:=(x.le n).le f
 have aP:=ar.len
 refine Xn 1 Z (Ga Z (.as (.add Z Z (by omega)) (int_eq (b:=(((iG (z.lg z.me)).length:Int)+1)) (by omega))) (Ga Z (.iF (jl (⟨(z.me:Int),((iG (z.lg z.me)).length:Int)+1,am,pt,500⟩:mF)) TY z83 Z Z) (Xw Z (Y.le f) (iN.one (⟨(z.me:Int),((iG (z.lg z.me)).length:Int)+1,am,pt,500⟩:mF)) ?_)))
 intro C D H
 refine noT (by kernel_rfl) ?_
 have D:ik C V 83 (jl (⟨(z.me:Int),((iG (z.lg z.me)).length:Int)+1,am,pt,500⟩:mF)).toArray:=D
 have aa:iX w C F:=au.ch H (fun i hi hlt=>by cases hi;exact absurd hlt (by have:=x.size;have:=aq;omega))
 refine Gx (Rr 1 Z (Yh Z D (Yn 1 Z (Wa (.iF (mg (⟨1,(⟨(z.me:Int),((iG (z.lg z.me)).length:Int)+1,am,pt,500⟩:mF),0⟩:kT)) P8 z85 Z Z) Z ?_))))
 have av:=((B.le f).ch H (fun q hqq hF=>by cases hqq;exact(B.jg Y (by decide) (by decide)) hF))
 refine Yd Z (SF (u:=(⟨1,(⟨(z.me:Int),((iG (z.lg z.me)).length:Int)+1,am,pt,500⟩:mF),0⟩:kT)) (e:=(if z.kp z.me<=z.sp z.me-am then 0 else 8:Int)) C av (by omega) (by omega) WR Z (fun w' a hr=>Br z.me (⟨(z.me:Int),((iG (z.lg z.me)).length:Int)+1,am,pt,500⟩:mF) hme w' hr hz hfu hd) (show 1<=1/\1<=3 from by decide)) ?_
 rintro _ aQ ⟨aR,rfl,ac,aw,ad⟩
 have ax:=aa.sub ad (fun i hi hlt=>hi)
 have ae:=((t.le (d.trans (n.trans f))).cn H (by have:=t.lt;have:=d.size;omega)).ji ad (show¬F c from(fun hF=>by have:=hS.lt hF;have:=j;omega))
 refine Wa (.extract (v:= .agg (iR (if(if z.kp z.me<=z.sp z.me-am then 0 else 8:Int)=0 then iZ (⟨1,(⟨(z.me:Int),((iG (z.lg z.me)).length:Int)+1,am,pt,500⟩:mF),0⟩:kT)else lG)).toArray) Z Z) Z (Yn 1 Z (Yw Z ae (iD.one (if(if z.kp z.me<=z.sp z.me-am then 0 else 8:Int)=0 then iZ (⟨1,(⟨(z.me:Int),((iG (z.lg z.me)).length:Int)+1,am,pt,500⟩:mF),0⟩:kT)else lG)) ?_))
 intro af I ah
 have I:ik af c 134 (iR (if(if z.kp z.me<=z.sp z.me-am then 0 else 8:Int)=0 then iZ (⟨1,(⟨(z.me:Int),((iG (z.lg z.me)).length:Int)+1,am,pt,500⟩:mF),0⟩:kT)else lG)).toArray:=I
 have ay:iX w af F:=ax.ch ah (fun i hi hlt=>by cases hi;exact absurd hlt (by have:=s.size;have:=j;omega))
 refine Yx 1 Z (Rt ?_)
 have az:=(ac.ch ah (fun q hqq hF=>by cases hqq;exact(ac.jg ae (by decide) (by decide)) hF))
 refine E.lD Z (lV Z I uq (by rfl)) Z ?_
 exact⟨_,rfl,az,fun k hk=>(aw k hk).imp_right (fun h=>Nat.le_trans (aa).size h),ay⟩
variable {id:Int}
theorem U4 {base g:Nat}{z:jU}{sec:Nat}(w:World)(hS:qy w base g F z)(hz:lJ z)(hfu:zw z)(he:Ky z z.me (⟨2,⟨0,id,0,0,0⟩,sec⟩:kT)):Calls prog 39 #[.pointer (some ⟨g,0,none⟩),J id,.int .u64 (sec:Int)] w fun r w'=>∃F',r= .returned (.tuple #[.agg (iR (iZ (⟨2,⟨0,id,0,0,0⟩,sec⟩:kT))).toArray,J 0])/\qy w' base g F' (z.yF z.me (z.lg z.me++[(⟨2,⟨0,id,0,0,0⟩,sec⟩:kT)]))/\(∀k,F' k->F k\/w.heap.size<=k)/\iX w w' F:=by
 have hme:=hz.me
 have hnl:=hz.ln z.me hz.me
 refine En func39 Z ?_
 have f:=iX.refl w F
 refine Sr (Yz Z sD fun c j l (A:ik j c 134 (iR lG).toArray) m=>?_)
 have n:=f.le m
 refine Yx 1 Z (Rr 2 Z (Wa (.iF (jl (⟨0,id,0,0,0⟩:mF)) TY z83 Z Z) Z (Yn 1 Z (Wa (.iF (mg (⟨2,⟨0,id,0,0,0⟩,sec⟩:kT)) P8 z85 Z Z) Z (Yd Z (SF (u:=(⟨2,⟨0,id,0,0,0⟩,sec⟩:kT)) (e:=(0:Int)) j (hS.le m) (by omega) (by omega) WS Z (fun w' a hr=>Mi z.me hme w' hr hz hfu he) (show 1<=2/\2<=3 from by decide)) ?_)))))
 rintro _ I ⟨K,rfl,o,B,s⟩
 have C:=n.sub s (fun i hi hlt=>hi)
 have t:=A.ji s (show¬F c from(fun hF=>by have:=hS.lt hF;have:=l;omega))
 refine Wa (.extract (v:= .agg (iR (if(0:Int)=0 then iZ (⟨2,⟨0,id,0,0,0⟩,sec⟩:kT)else lG)).toArray) Z Z) Z (Yn 1 Z (Yw Z t (iD.one (if(0:Int)=0 then iZ (⟨2,⟨0,id,0,0,0⟩,sec⟩:kT)else lG)) ?_))
 intro x d y
 have d:ik x c 134 (iR (if(0:Int)=0 then iZ (⟨2,⟨0,id,0,0,0⟩,sec⟩:kT)else lG)).toArray:=d
 have D:iX w x F:=C.ch y (fun i hi hlt=>by cases hi;exact absurd hlt (by have:=f.size;have:=l;omega))
 refine Yx 1 Z (Rt ?_)
 have H:=(o.ch y (fun q hqq hF=>by cases hqq;exact(o.jg t (by decide) (by decide)) hF))
 refine E.lD Z (lV Z d uq (by rfl)) Z ?_
 exact⟨_,rfl,H,fun k hk=>(B k hk).imp_right (fun h=>Nat.le_trans (n).size h),D⟩
theorem abM {base g:Nat}{z:jU}(w:World)(hS:qy w base g F z)(hz:lJ z)(hfu:zw z)(he:Ky z z.me (⟨3,⟨0,id,0,0,0⟩,0⟩:kT)):Calls prog 40 #[.pointer (some ⟨g,0,none⟩),J id,.slice none 0 0] w fun r w'=>∃F',r= .returned (.tuple #[.agg (iR (iZ (⟨3,⟨0,id,0,0,0⟩,0⟩:kT))).toArray,J 0])/\qy w' base g F' (z.yF z.me (z.lg z.me++[(⟨3,⟨0,id,0,0,0⟩,0⟩:kT)]))/\(∀k,F' k->F k\/w.heap.size<=k)/\iX w w' F:=by
 have hme:=hz.me
 have hnl:=hz.ln z.me hz.me
 refine En func40 Z ?_
 have f:=iX.refl w F
 refine Sr (Yz Z sD fun c j l (A:ik j c 134 (iR lG).toArray) m=>?_)
 have n:=f.le m
 refine Yx 1 Z (Rr 2 Z (Wa (.iF (jl (⟨0,id,0,0,0⟩:mF)) TY z83 Z Z) Z (Yn 1 Z (Wa (.iF (mg (⟨3,⟨0,id,0,0,0⟩,0⟩:kT)) P8 z85 Z Z) Z (Yd Z (SF (u:=(⟨3,⟨0,id,0,0,0⟩,0⟩:kT)) (e:=(0:Int)) j (hS.le m) (by omega) (by omega) WS Z (fun w' a hr=>Mi z.me hme w' hr hz hfu he) (show 1<=3/\3<=3 from by decide)) ?_)))))
 rintro _ I ⟨K,rfl,o,B,s⟩
 have C:=n.sub s (fun i hi hlt=>hi)
 have t:=A.ji s (show¬F c from(fun hF=>by have:=hS.lt hF;have:=l;omega))
 refine Wa (.extract (v:= .agg (iR (if(0:Int)=0 then iZ (⟨3,⟨0,id,0,0,0⟩,0⟩:kT)else lG)).toArray) Z Z) Z (Yn 1 Z (Yw Z t (iD.one (if(0:Int)=0 then iZ (⟨3,⟨0,id,0,0,0⟩,0⟩:kT)else lG)) ?_))
 intro x d y
 have d:ik x c 134 (iR (if(0:Int)=0 then iZ (⟨3,⟨0,id,0,0,0⟩,0⟩:kT)else lG)).toArray:=d
 have D:iX w x F:=C.ch y (fun i hi hlt=>by cases hi;exact absurd hlt (by have:=f.size;have:=l;omega))
 refine Yx 1 Z (Rt ?_)
 have H:=(o.ch y (fun q hqq hF=>by cases hqq;exact(o.jg t (by decide) (by decide)) hF))
 refine E.lD Z (lV Z d uq (by rfl)) Z ?_
 exact⟨_,rfl,H,fun k hk=>(B k hk).imp_right (fun h=>Nat.le_trans (n).size h),D⟩
def sG (z:jU):Cut:=(⟨z.mi.no+1,z.th.n⟩:Cut).put (1-z.me) ((z.lg (1-z.me)).length:Int)
theorem lJ.un {z:jU}(h:lJ z)(c:Cut)(b:Bool):lJ {z with un:=c,wt:=b}:=⟨h.me,h.lk,h.ln,h.h0,h.h1,h.rt,h.ch,h.rs,h.c8,h.kl⟩
theorem QC {base g:Nat}{z:jU}{a:Nat->kZ}(w:World)(hM:ZC w base g F z a ps)(hz:lJ z)(aed:uj z=true)(hno:z.th.no<1048574)(hcut:∀i,i<2->(rO z).n.ix i=((z.lg i).length:Int))(hq:right z.q1=true/\z.q1<18446744073709551616):Calls prog 90 #[.pointer (some ⟨g,0,none⟩)] w fun r w'=>r= .returned (.tuple #[.agg (iR (⟨5,((z.th.no+1:Nat):Int),ag,0,nR z.kt.f (NF z.ch (z.si ((z.th.no+1:Nat):Int)) (1-z.me) z.q1),noH,0⟩:mK)).toArray,J 0])/\ik w' g 80 (tX ⟨{z with un:=rO z,wt:=true},a⟩).toArray/\iX w w' (fun k=>k=g):=by
 have hme:=hz.me
 have hb:=hM.b
 have hO:=hM.l z.me hz.me
 have hP:=hM.l (1-z.me) (by omega)
 have hne:rowOf (a z.me).A (a z.me).c≠some g:=fun he=>iy.kV hO hb (by decide) he
 have V:rowOf (a (1-z.me)).A (a (1-z.me)).c≠some g:=fun he=>iy.kV hP hb (by decide) he
 have bU:=hO.1
 have bV:=hP.1
 refine En func90 Z ?_
 have X:=iX.refl w (fun k=>k=g)
 refine Sr (Yz Z sD fun B aN aq (L:ik aN B 134 (iR lG).toArray) Y=>Yx 1 Z (Sq (Rr 1 Z ?_)))
 have f2:=(hb.le Y)
 have f3:=(hO.le Y)
 have f4:=(hP.le Y)
 refine Yc Z (by have q:=YW aN (Al.mk2 (by omega) f2 f3 f4) hz (by omega);rw[aed]at q;exact q) fun bj x=>?_
 refine Yx 1 Z (Cf Z (Sn (Rr 3 Z ?_)))
 have f6:=(f2.le x)
 have f7:=(f3.le x)
 have f8:=(f4.le x)
 refine Yc Z (SE bj (Al.mk2 (by omega) f6 f7 f8) hz (by omega)) fun bW e=>?_
 have L9:=((X.le Y).le x).le e
 refine Yn 2 Z (W.jR Z Z (Ef.lY (tX (⟨({z with un:=(rO z)}:jU),a⟩:sF)) Jn (by rfl) Z Z (f6.le e) (by simp[qW.len,mE.len]) (mE.one (rO z)) Z ?_))
 intro aO ar s
 have ar:ik aO g 80 (tX (⟨({z with un:=(rO z)}:jU),a⟩:sF)).toArray:=ar
 have bk:iX w aO (fun k=>k=g):=L9.ch s (fun i hi _=>by cases hi;exact Z)
 refine Yn 2 Z (W.jR Z Z (Ef.store sz4 Z Z ar (by first|decide|(simp;done)|simp[qW.len]) Z ?_))
 intro aP au t
 have au:ik aP g 80 (tX (⟨({z with un:=(rO z),wt:=true}:jU),a⟩:sF)).toArray:=au
 have bl:iX w aP (fun k=>k=g):=bk.ch t (fun i hi _=>by cases hi;exact Z)
 refine Nx (Sq (WC.JC (fun o=>(app o [0,1,2,3,4,5,6,7,8,10,11,12,13,14,15,16,17,18,19] (.br (app o [9] (.br (app o [20,21,22,23,24,25,26] .nil) (app o [24,20,21,22,23,25,26] .nil))) (app o [24,9,20,21,22,23,25,26] .nil)))) mixed (by kernel_rfl) fun w4 j=>?_))
 have av:=bl.le j
 refine GT.app ?_
 have m:=hz.un (rO z) true
 refine Xn 3 Z ?_
 have u:=(au.le j)
 refine Xb (mU z.ch) Z u Z (Xn 4 Z (Xb (cutV (rO z)) Z u Z (Xn 3 Z (Xk (J (z.me:Int)) Z u Z (Ga Z (.as (.sub Z Z (by omega)) (int_eq (b:=((1-z.me:Nat):Int)) (by omega))) (Xn 3 Z (Xi 1 Z (Xk (.int .u64 (z.q1:Int)) Z u Z (G.nil (GT.br ?_ ?_))))))))))
 ·refine GT.app ?_
  have bm:=((((f7.le e).ch s (fun q hq=>by cases hq;exact hne)).ch t (fun q hq=>by cases hq;exact hne)).le j)
  have bn:=((((f8.le e).ch s (fun q hq=>by cases hq;exact V)).ch t (fun q hq=>by cases hq;exact V)).le j)
  refine Xd Z (OM (rO z) w4 (Al.mk2 (by omega) u bm bn) m hcut) ?_
  rintro _ bo ⟨bX,bY,rfl,aQ,y⟩
  refine⟨fun _=>y,?_⟩
  have aw:=av.le y
  refine G.nil (GT.br ?_ ?_)
  ·refine GT.last (G.ef Z Z Z Z Z (Ef.call af5 Z Z (uI z.ch (1-z.me) z.q1 bo aQ.vec (m.right (no:=((z.th.no+1:Nat):Int)) (by omega)) m.ch (by omega) hq.1 hq.2 m.c8) ?_))
   rintro _ bZ ⟨ax,aa,ay,N,ac,aR,aS,rfl,bp,⟨b0,bq,bs⟩,ad⟩
   refine⟨_,rfl,?_⟩
   refine⟨fun _=>ad,?_⟩
   refine Xn 1 Z (Ga Z (.extract (v:= .agg #[.slice ax 1 aa,.slice ay N ac,J (2*(((z.th.no+1):Nat):Int)+(((1-z.me):Nat):Int)),.slice aR N aS]) Z Z) (Xn 1 Z (G.ab Z Z Z z116 H8 (wN Z) fun bt bu b1 (bv:ik bu bt 116 #[.slice ax 1 aa,.slice ay N ac,J (2*(((z.th.no+1):Nat):Int)+(((1-z.me):Nat):Int)),.slice aR N aS]) D=>Xx 1 Z (Sq (WC.draw [0,1,2,3,4,5,6,7,8,9,10,11,12,13,14,15,16] mixed (by kernel_rfl) ?_)))))
   intro O d
   refine Xn 4 Z ?_
   have az:=(u.le (y.trans (ad.trans (D.trans d))))
   refine Xk (J (((z.th.no+1):Nat):Int)) Z az Z (Xn 4 Z (Xk (.int .u64 (z.kt.f:Int)) Z az Z (Xn 1 Z (Xb [.slice ax 1 aa,.slice ay N ac,J (2*(((z.th.no+1):Nat):Int)+(((1-z.me):Nat):Int))] Z (bv.le d) Z (Xc Z (ve (ci:=aa) (co:=ac) (note:=(2*(((z.th.no+1):Nat):Int)+(((1-z.me):Nat):Int))) O (bp.le (D.trans d)).vec (bq.le (D.trans d)).vec (bs.le (D.trans d)).weak (by omega)) fun bw ae=>Xc Z (by have q:=CK z.kt.f (nG ([iP]) (qC z.ch (z.si (((z.th.no+1):Nat):Int)) (1-z.me) z.q1) (2*(((z.th.no+1):Nat):Int)+(((1-z.me):Nat):Int))) (l5 _ _ _) bw;rw[<-kF (l5 _ _ _)]at q;exact q) fun b2 af=>?_)))))
   have bx:=((((aw.le ad).le D).le d).le ae).le af
   refine Ga Z (.iF (iR (⟨5,(((z.th.no+1):Nat):Int),ag,0,(nR z.kt.f (nG ([iP]) (qC z.ch (z.si (((z.th.no+1):Nat):Int)) (1-z.me) z.q1) (2*(((z.th.no+1):Nat):Int)+(((1-z.me):Nat):Int)))),noH,0⟩:mK)) A8 sD Z Z) ?_
   have _:=hb.lt
   have aT:g≠B:=by omega
   refine Xw Z ((((L.le (x.trans e)).cn s aT).cn t aT).le (j.trans (y.trans (ad.trans (D.trans (d.trans (ae.trans af))))))) (iD.one (⟨5,(((z.th.no+1):Nat):Int),ag,0,(nR z.kt.f (nG ([iP]) (qC z.ch (z.si (((z.th.no+1):Nat):Int)) (1-z.me) z.q1) (2*(((z.th.no+1):Nat):Int)+(((1-z.me):Nat):Int)))),noH,0⟩:mK)) ?_
   intro aU aA aV
   refine noT (by kernel_rfl) ?_
   have aA:ik aU B 134 (iR (⟨5,(((z.th.no+1):Nat):Int),ag,0,(nR z.kt.f (nG ([iP]) (qC z.ch (z.si (((z.th.no+1):Nat):Int)) (1-z.me) z.q1) (2*(((z.th.no+1):Nat):Int)+(((1-z.me):Nat):Int)))),noH,0⟩:mK)).toArray:=aA
   have bz:iX w aU (fun k=>k=g):=bx.ch aV (fun i hi hlt=>by cases hi;exact absurd hlt (by have:=X.size;have:=aq;omega))
   refine Xx 1 Z (Rt (E.lD Z (lV Z aA uq (by rfl)) Z ?_))
   exact⟨rfl,((az.le (ae.trans af)).cn aV (by omega)),bz⟩
  refine GT.last (G.ef Z Z Z Z Z (Ef.pR z116 fun aW aX bA (aB:ik aX aW 116 #[.slice none 0 0,.slice none 0 0,J 0,.slice none 0 0]) P=>⟨fun _=>P,?_⟩))
  refine Xd Z (uI z.ch (1-z.me) z.q1 aX (aQ.le P).vec (m.right (no:=((z.th.no+1:Nat):Int)) (by omega)) m.ch (by omega) hq.1 hq.2 m.c8) ?_
  rintro _ b3 ⟨aC,ah,aD,Q,ai,aY,aZ,rfl,a0,⟨b4,a1,bB⟩,R⟩
  refine⟨fun _=>R,?_⟩
  have bC:=(aw.le P).le R
  refine Xn 1 Z (Ga Z (.extract (v:= .agg #[.slice aC 1 ah,.slice aD Q ai,J (2*(((z.th.no+1):Nat):Int)+(((1-z.me):Nat):Int)),.slice aY Q aZ]) Z Z) (Xn 1 Z ?_))
  have a2:=(aB.le R)
  refine Xw Z a2 (wN Z) ?_
  intro a3 aE H
  refine noT (by kernel_rfl) ?_
  have aE:ik a3 aW 116 #[.slice aC 1 ah,.slice aD Q ai,J (2*(((z.th.no+1):Nat):Int)+(((1-z.me):Nat):Int)),.slice aY Q aZ]:=aE
  have bD:iX w a3 (fun k=>k=g):=bC.ch H (fun i hi hlt=>by cases hi;exact absurd hlt (by have:=aw.size;have:=bA;omega))
  refine Xx 1 Z (Sq (WC.draw [0,1,2,3,4,5,6,7,8,9,10,11,12,13,14,15,16] mixed (by kernel_rfl) fun O d=>Xn 4 Z ?_))
  have _:=y.size
  have aF:=(((u.le (y.trans (P.trans R))).cn H (by have:=u.lt;omega)).le d)
  have _:=aB.lt
  refine Xk (J (((z.th.no+1):Nat):Int)) Z aF Z (Xn 4 Z (Xk (.int .u64 (z.kt.f:Int)) Z aF Z (Xn 1 Z (Xb [.slice aC 1 ah,.slice aD Q ai,J (2*(((z.th.no+1):Nat):Int)+(((1-z.me):Nat):Int))] Z (aE.le d) Z (Xc Z (ve (ci:=ah) (co:=ai) (note:=(2*(((z.th.no+1):Nat):Int)+(((1-z.me):Nat):Int))) O ((a0.cb H (a0.rl (by omega))).le d).vec ((a1.cb H (a1.rl (by omega))).le d).vec ((bB.AP H a2 (by decide) (by decide)).le d).weak (by omega)) fun bE aj=>Xc Z (by have q:=CK z.kt.f (nG ([iP]) (qC z.ch (z.si (((z.th.no+1):Nat):Int)) (1-z.me) z.q1) (2*(((z.th.no+1):Nat):Int)+(((1-z.me):Nat):Int))) (l5 _ _ _) bE;rw[<-kF (l5 _ _ _)]at q;exact q) fun b5 ak=>?_)))))
  have bF:=((bD.le d).le aj).le ak
  refine Ga Z (.iF (iR (⟨5,(((z.th.no+1):Nat):Int),ag,0,(nR z.kt.f (nG ([iP]) (qC z.ch (z.si (((z.th.no+1):Nat):Int)) (1-z.me) z.q1) (2*(((z.th.no+1):Nat):Int)+(((1-z.me):Nat):Int)))),noH,0⟩:mK)) A8 sD Z Z) ?_
  have _:=hb.lt
  have a4:g≠B:=by omega
  have bG:=((((((L.le (x.trans e)).cn s a4).cn t a4).le (j.trans (y.trans (P.trans R)))).cn H (by have:=L.lt;have:=x.size;have:=e.size;have:=s.size;have:=t.size;have:=j.size;omega)).le (d.trans (aj.trans ak)))
  refine Xw Z bG (iD.one (⟨5,(((z.th.no+1):Nat):Int),ag,0,(nR z.kt.f (nG ([iP]) (qC z.ch (z.si (((z.th.no+1):Nat):Int)) (1-z.me) z.q1) (2*(((z.th.no+1):Nat):Int)+(((1-z.me):Nat):Int)))),noH,0⟩:mK)) ?_
  intro a5 aG a6
  refine noT (by kernel_rfl) ?_
  have aG:ik a5 B 134 (iR (⟨5,(((z.th.no+1):Nat):Int),ag,0,(nR z.kt.f (nG ([iP]) (qC z.ch (z.si (((z.th.no+1):Nat):Int)) (1-z.me) z.q1) (2*(((z.th.no+1):Nat):Int)+(((1-z.me):Nat):Int)))),noH,0⟩:mK)).toArray:=aG
  have bH:iX w a5 (fun k=>k=g):=bF.ch a6 (fun i hi hlt=>by cases hi;exact absurd hlt (by have:=X.size;have:=aq;omega))
  refine Xx 1 Z (Rt (E.lD Z (lV Z aG uq (by rfl)) Z ?_))
  exact⟨rfl,((aF.le (aj.trans ak)).cn a6 (by omega)),bH⟩
 refine GT.last (G.ef Z Z Z Z Z (Ef.pR z116 fun a7 a8 bI (aH:ik a8 a7 116 #[.slice none 0 0,.slice none 0 0,J 0,.slice none 0 0]) I=>⟨fun _=>I,?_⟩))
 have a9:=(u.le I)
 have bJ:=((((f7.le e).ch s (fun q hq=>by cases hq;exact hne)).ch t (fun q hq=>by cases hq;exact hne)).le (j.trans I))
 have bK:=((((f8.le e).ch s (fun q hq=>by cases hq;exact V)).ch t (fun q hq=>by cases hq;exact V)).le (j.trans I))
 refine Xd Z (OM (rO z) a8 (Al.mk2 (by omega) a9 bJ bK) m hcut) ?_
 rintro _ bL ⟨b6,b7,rfl,bM,C⟩
 refine⟨fun _=>C,?_⟩
 refine Xd Z (uI z.ch (1-z.me) z.q1 bL bM.vec (m.right (no:=((z.th.no+1:Nat):Int)) (by omega)) m.ch (by omega) hq.1 hq.2 m.c8) ?_
 rintro _ b8 ⟨aI,al,aJ,S,an,ba,bb,rfl,bc,⟨b9,bd,bN⟩,U⟩
 refine⟨fun _=>U,?_⟩
 have bO:=((av.le I).le C).le U
 refine Xn 1 Z (Ga Z (.extract (v:= .agg #[.slice aI 1 al,.slice aJ S an,J (2*(((z.th.no+1):Nat):Int)+(((1-z.me):Nat):Int)),.slice ba S bb]) Z Z) (Xn 1 Z ?_))
 have be:=(aH.le (C.trans U))
 refine Xw Z be (wN Z) ?_
 intro bf aK K
 refine noT (by kernel_rfl) ?_
 have aK:ik bf a7 116 #[.slice aI 1 al,.slice aJ S an,J (2*(((z.th.no+1):Nat):Int)+(((1-z.me):Nat):Int)),.slice ba S bb]:=aK
 have bP:iX w bf (fun k=>k=g):=bO.ch K (fun i hi hlt=>by cases hi;exact absurd hlt (by have:=av.size;have:=bI;omega))
 refine Xx 1 Z (Sq (WC.draw [0,1,2,3,4,5,6,7,8,9,10,11,12,13,14,15,16] mixed (by kernel_rfl) fun O d=>Xn 4 Z ?_))
 have aL:=(((a9.le (C.trans U)).cn K (by have:=u.lt;omega)).le d)
 have _:=aH.lt
 have _:=C.size
 refine Xk (J (((z.th.no+1):Nat):Int)) Z aL Z (Xn 4 Z (Xk (.int .u64 (z.kt.f:Int)) Z aL Z (Xn 1 Z (Xb [.slice aI 1 al,.slice aJ S an,J (2*(((z.th.no+1):Nat):Int)+(((1-z.me):Nat):Int))] Z (aK.le d) Z (Xc Z (ve (ci:=al) (co:=an) (note:=(2*(((z.th.no+1):Nat):Int)+(((1-z.me):Nat):Int))) O ((bc.cb K (bc.rl (by omega))).le d).vec ((bd.cb K (bd.rl (by omega))).le d).vec ((bN.AP K be (by decide) (by decide)).le d).weak (by omega)) fun bQ ao=>Xc Z (by have q:=CK z.kt.f (nG ([iP]) (qC z.ch (z.si (((z.th.no+1):Nat):Int)) (1-z.me) z.q1) (2*(((z.th.no+1):Nat):Int)+(((1-z.me):Nat):Int))) (l5 _ _ _) bQ;rw[<-kF (l5 _ _ _)]at q;exact q) fun ca ap=>?_)))))
 have bR:=((bP.le d).le ao).le ap
 refine Ga Z (.iF (iR (⟨5,(((z.th.no+1):Nat):Int),ag,0,(nR z.kt.f (nG ([iP]) (qC z.ch (z.si (((z.th.no+1):Nat):Int)) (1-z.me) z.q1) (2*(((z.th.no+1):Nat):Int)+(((1-z.me):Nat):Int)))),noH,0⟩:mK)) A8 sD Z Z) ?_
 have _:=hb.lt
 have bg:g≠B:=by omega
 have bS:=((((((L.le (x.trans e)).cn s bg).cn t bg).le (j.trans (I.trans (C.trans U)))).cn K (by have:=L.lt;have:=x.size;have:=e.size;have:=s.size;have:=t.size;have:=j.size;omega)).le (d.trans (ao.trans ap)))
 refine Xw Z bS (iD.one (⟨5,(((z.th.no+1):Nat):Int),ag,0,(nR z.kt.f (nG ([iP]) (qC z.ch (z.si (((z.th.no+1):Nat):Int)) (1-z.me) z.q1) (2*(((z.th.no+1):Nat):Int)+(((1-z.me):Nat):Int)))),noH,0⟩:mK)) ?_
 intro bh aM bi
 refine noT (by kernel_rfl) ?_
 have aM:ik bh B 134 (iR (⟨5,(((z.th.no+1):Nat):Int),ag,0,(nR z.kt.f (nG ([iP]) (qC z.ch (z.si (((z.th.no+1):Nat):Int)) (1-z.me) z.q1) (2*(((z.th.no+1):Nat):Int)+(((1-z.me):Nat):Int)))),noH,0⟩:mK)).toArray:=aM
 have bT:iX w bh (fun k=>k=g):=bR.ch bi (fun i hi hlt=>by cases hi;exact absurd hlt (by have:=X.size;have:=aq;omega))
 refine Xx 1 Z (Rt (E.lD Z (lV Z aM uq (by rfl)) Z ?_))
 exact⟨rfl,((aL.le (ao.trans ap)).cn bi (by omega)),bT⟩
theorem QD {base g:Nat}{z:jU}{a:Nat->kZ}{m:mK}(w:World)(hM:ZC w base g F z a ps)(hz:lJ z)(hmn:m.no=((z.mi.no+1:Nat):Int))(hno:z.mi.no<1048500)(hnq:(sG z).n≠z.mi.n)(hcut:∀i,i<2->(sG z).n.ix i=((z.lg i).length:Int))(O8:m.sg.r<18446744073709551616)(hsg:nN (z.ch.b (1-z.me) 0) (NF z.ch (z.si ((z.mi.no+1:Nat):Int)) z.me (lW z.kt.ch (z.mi.no+1))) m.sg=true):Calls prog 142 #[.pointer (some ⟨g,0,none⟩),.agg (iR m).toArray] w fun r w'=>∃A c,r= .returned (.tuple #[.slice A 1 c,J 0])/\iy w' w.heap.size 134 iR 61 A 1 c [(⟨6,(z.mi.no:Int),ag,0,iY,lU z.kt.ch z.mi.no,lW z.kt.ch (z.mi.no+2)⟩:mK)]/\ik w' g 80 (tX ⟨{z with mi:=sG z,sg:=m.sg},a⟩).toArray/\iX w w' (fun k=>k=g):=by
 have hme:=hz.me
 have hb:=hM.b
 have hO:=hM.l z.me hz.me
 have hP:=hM.l (1-z.me) (by omega)
 have hne:rowOf (a z.me).A (a z.me).c≠some g:=fun he=>iy.kV hO hb (by decide) he
 have bp:rowOf (a (1-z.me)).A (a (1-z.me)).c≠some g:=fun he=>iy.kV hP hb (by decide) he
 have bq:=hO.1
 have a5:=hP.1
 have hkc:=hz.kl
 refine En func142 Z (Sr (Yv Z fun ae a6 bs (ax:ik a6 ae 134 (iR m).toArray) x=>Yx 2 Z (Sq (WC.draw [0,1,2,3,4,5,6,7,8,9,10,11,12,13] mixed (by kernel_rfl) fun w1 s=>?_))))
 have L2:=((iX.refl w (fun k=>k=g)).le x).le s
 refine Xn 4 Z ?_
 have y:=(hb.le (x.trans s))
 refine Xk (J (z.mi.no:Int)) Z y Z (Xp Z (Xn 4 Z (Xb (jq z.th.n) Z y Z (Ga Z (.iF (cutV (⟨(z.mi.no+1),z.th.n⟩:Cut)) agi z73 Z Z) (G.ab Z Z Z z73 Jn (mE.one (⟨(z.mi.no+1),z.th.n⟩:Cut)) fun K a7 a8 (a9:ik a7 K 73 (cutV (⟨(z.mi.no+1),z.th.n⟩:Cut)).toArray) L=>Gx (Sq (WC.draw [0,1,2,3,4,5,6,7,8,9,10,11,12,13,14,15,16,17,18] mixed (by kernel_rfl) fun w2 B=>?_)))))))
 have L5:=(L2.le L).le B
 refine Xn 3 Z ?_
 have S:=(y.le (L.trans B))
 refine Xk (J (z.me:Int)) Z S Z (Ga Z (.as (.sub Z Z (by omega)) (int_eq (b:=((1-z.me:Nat):Int)) (by omega))) (Xn 4 Z (Xk (J (z.me:Int)) Z S Z (Ga Z (.as (.sub Z Z (by omega)) (int_eq (b:=((1-z.me:Nat):Int)) (by omega))) (Xn 2 Z (Xi (1-z.me) Z (Xk (.slice ((a (1-z.me)).A) ((a (1-z.me)).n) ((a (1-z.me)).c)) Z S (oM (⟨z,a⟩:sF) (by omega)) (Xn 2 Z (Xi (1-z.me) Z ?_)))))))))
 refine G.jR Z Z Z Z (Ef.store nC Z Z (a9.le B) (by simp[mE.len,-List.getD_eq_getElem?_getD];omega) Z ?_)
 intro ay af N
 refine noT (by kernel_rfl) ?_
 have af:ik ay K 73 (cutV ((⟨(z.mi.no+1),z.th.n⟩:Cut).put (1-z.me) ((a (1-z.me)).n:Int))).toArray:=af.cast (SC (⟨(z.mi.no+1),z.th.n⟩:Cut) ((a (1-z.me)).n:Int) (by omega))
 have L8:iX w ay (fun k=>k=g):=L5.ch N (fun i hi hlt=>by cases hi;exact absurd hlt (by have:=L2.size;have:=a8;omega))
 refine Gx (Sq (Bk (Sq (WC.draw [0,1,2,3,4,5,6,7,8,9,10,11,12,13,14,15,16,17,18,19,20,21,22,23] mixed (by kernel_rfl) fun w3 C=>?_))))
 have az:=(af.le C)
 have bmc:ik w3 K 73 (cutV (sG z)).toArray:=by have q:=az;unfold sG;rw[a5];exact q
 refine Xn 1 Z ?_
 have _:=s.size
 have O:=(((ax.le (s.trans (L.trans B))).cn N (by have:=ax.lt;omega)).le C)
 refine Xk (J m.no) Z O Z (Xn 1 Z (Xk (J (((z.mi.no+1):Nat):Int)) Z bmc Z (Xf 1 Z (Xn 5 Z ?_))))
 have _:=y.lt
 have U:=((S.cn N (by omega)).le C)
 refine Xk (J (z.mi.no:Int)) Z U Z (Xf 1 Z (Xn 3 Z (Xb (jq ((sG z).n)) Z bmc Z (Xn 4 Z (Xb (jq z.mi.n) Z U Z (F7 Z (.dec (.eqA PV Z Z (sU (d:=9998) _ _)) (dF hnq)) (Xx 2 Z (Cf Z (Rr 1 Z ?_)))))))))
 have _:=x.size
 refine Yh Z bmc (Yn 1 Z (Yb (sS m.sg) Z O Z (Yc Z (Gm (c:=(sG z)) w3 (Al.mk2 (by omega) U (((hO.le (x.trans (s.trans (L.trans B)))).cb N (hO.rn (by omega))).le C) (((hP.le (x.trans (s.trans (L.trans B)))).cb N (hP.rn (by omega))).le C)) hz hcut (by show z.mi.no+1<_;omega) O8 hsg) fun bt t=>Yx 2 Z (Cf Z (WC.skip (E.jD (E.iM (Sq ?_))))))))
 refine WC.JC (fun o=>(app o [0,1,2,3,4,5,6,7,8,9] (.br (app o [10,11,12,13,14,15,16] .nil) (app o [14,10,11,12,13,15,16] .nil)))) mixed (by kernel_rfl) fun w7 u=>?_
 have ah:=((L8.le C).le t).le u
 refine GT.app (Gn 1 Z (Ga Z (.nilCheck Z) (Ga Z (.nU adC Z) (Ga Z (.V8 adz Z) ?_))))
 have P:=(U.le (t.trans u))
 refine Xb (jV z.kt.ch) Z P Z (Xn 4 Z (Xk (J (z.mi.no:Int)) Z P Z ?_))
 refine G.nil (GT.br ?_ ?_)
 ·refine GT.last (G.ef Z Z Z Z Z (Ef.call ahZ Z Z (Ee z.kt.ch z.mi.no hkc (by omega) w7) ?_))
  rintro _ bu ⟨rfl,Q⟩
  refine⟨_,rfl,?_⟩
  refine⟨fun _=>Q,?_⟩
  refine Xn 1 Z (Ga Z (.extract (v:= .agg (jV (lU z.kt.ch z.mi.no)).toArray) Z Z) (Xn 1 Z (G.ab Z Z Z z23 zb (qc.one (lU z.kt.ch z.mi.no)) fun ba bb bv (bc:ik bb ba 23 (jV (lU z.kt.ch z.mi.no)).toArray) V=>Xx 1 Z (Sq (WC.draw [0,1,2,3,4,5,6,7,8,9,10,11,12] mixed (by kernel_rfl) ?_)))))
  intro w8 e
  refine Xn 3 Z ?_
  have aA:=(P.le (Q.trans (V.trans e)))
  refine Xb (mD z.kt) Z aA Z (Xn 1 Z ?_)
  have aB:=(bmc.le (t.trans (u.trans (Q.trans (V.trans e)))))
  refine Xk (J (((z.mi.no+1):Nat):Int)) Z aB Z (Xp Z (Xc Z (ui z.kt ((z.mi.no+1)+1) hkc (by omega) w8) fun bw D=>Xx 5 Z (Sq (WC.draw [0,1,2,3,4,5,6,7,8,9] mixed (by kernel_rfl) fun w9 f=>Xn 4 Z ?_))))
  have ai:=(aA.le (D.trans f))
  refine Xk (J (z.mi.no:Int)) Z ai Z (Xh Z (bc.le (e.trans (D.trans f))) (Xn 1 Z (Ga Z (.iF (iR (⟨6,(z.mi.no:Int),ag,0,iY,(lU z.kt.ch z.mi.no),lW z.kt.ch ((z.mi.no+1)+1)⟩:mK)) A8 sD Z Z) (G.ab Z Z Z sD yt (iD.one (⟨6,(z.mi.no:Int),ag,0,iY,(lU z.kt.ch z.mi.no),lW z.kt.ch ((z.mi.no+1)+1)⟩:mK)) fun aC bd bx (be:ik bd aC 134 (iR (⟨6,(z.mi.no:Int),ag,0,iY,(lU z.kt.ch z.mi.no),lW z.kt.ch ((z.mi.no+1)+1)⟩:mK)).toArray) X=>Gx (Sq (WC.Q3 (fun aj w'=>iX w w' (fun k=>k=g)/\ik w' K 73 (cutV (sG z)).toArray/\ik w' ae 134 (iR m).toArray) [0,1,2,3,4,5,6,7,8,9,10] mixed (by kernel_rfl) fun aj j=>?_))))))
  have aD:=((((((ah.le Q).le V).le e).le D).le f).le X).le j
  have aE:=(aB.le (D.trans (f.trans (X.trans j))))
  have aF:=(O.le (t.trans (u.trans (Q.trans (V.trans (e.trans (D.trans (f.trans (X.trans j)))))))))
  refine⟨⟨aD,aE,aF⟩,?_⟩
  refine GR.any Z Z (.move Z) Z Z Z (GR.any Z Z (.move Z) Z Z Z (GR.rd Z Z (fun w' hs=> .jM ads (by rfl) Z hs.2.1) Z Z Z ?_))
  refine GR.any Z Z (.nU RI Z) Z Z Z (GR.rd Z Z (fun w' hs=> .Ha (sS m.sg) TS Z (by decide) Z hs.2.2 Z) Z Z Z (GR.any Z Z (.nilCheck Z) Z Z Z (GR.any Z Z (.nU WT Z) Z Z Z (GR.jR Z Z Z Z (Ef.lY (tX (⟨({z with mi:=(sG z)}:jU),a⟩:sF)) Jn (by rfl) Z Z (ai.le (X.trans j)) (by simp[qW.len,mE.len]) (mE.one (sG z)) Z ?_)))))
  intro aG ak Y
  have ak:ik aG g 80 (tX (⟨({z with mi:=(sG z)}:jU),a⟩:sF)).toArray:=ak
  have aH:iX w aG (fun k=>k=g):=aD.ch Y (fun i hi _=>by cases hi;exact Z)
  refine⟨fun _=>⟨aH,(aE.cn Y (by omega)),(aF.cn Y (by have:=hb.lt;omega))⟩,?_⟩
  refine GR.any Z Z (.nilCheck Z) Z Z Z (GR.any Z Z (.nU WU Z) Z Z Z (GR.jR Z Z Z Z (Ef.lY (tX (⟨({z with mi:=(sG z),sg:=m.sg}:jU),a⟩:sF)) PZ (by rfl) Z Z ak (by simp[qW.len,qQ.len]) (qQ.one m.sg) Z ?_)))
  intro al an aI
  have an:ik al g 80 (tX (⟨({z with mi:=(sG z),sg:=m.sg}:jU),a⟩:sF)).toArray:=an
  have aJ:iX w al (fun k=>k=g):=aH.ch aI (fun i hi _=>by cases hi;exact Z)
  refine noT (by kernel_rfl) (GR.nil (E.iM (Sr ?_)))
  have aK:g≠aC:=by have:=ai.lt;omega
  refine Yh Z (((be.le j).cn Y aK).cn aI aK) (W.ef Z Z Z (Ef.iw (len:=1) [_] underlying41 uW Z (by simp[Value.cells,iD.len]) Z (by decide) (by decide) ?_))
  intro aL aM bf ao aN
  have ao:ik aM aL 134 (([(⟨6,(z.mi.no:Int),ag,0,iY,(lU z.kt.ch z.mi.no),lW z.kt.ch ((z.mi.no+1)+1)⟩:mK)]).map iR).flatten.toArray:=ao
  have bg:iy aM al.heap.size 134 iR 61 (some ⟨aL,0,none⟩) 1 1 ([(⟨6,(z.mi.no:Int),ag,0,iY,(lU z.kt.ch z.mi.no),lW z.kt.ch ((z.mi.no+1)+1)⟩:mK)]):=ao.j4 bf iD Z Z (by decide)
  refine Yx 2 Z (Rt (E.lD Z Z Z ?_))
  exact⟨_,_,rfl,(bg.mono aJ.size),(an.le aN),(aJ.le aN)⟩
 refine GT.last (G.ef Z Z Z Z Z (Ef.pR z23 fun aO aP bh (bi:ik aP aO 23 (jV noH).toArray) R=>⟨fun _=>R,?_⟩))
 refine Xc Z (Ee z.kt.ch z.mi.no hkc (by omega) aP) fun bz H=>?_
 have bj:=(ah.le R).le H
 refine Xn 1 Z (Ga Z (.extract (v:= .agg (jV (lU z.kt.ch z.mi.no)).toArray) Z Z) (Xn 1 Z (Xw Z (bi.le H) (qc.one (lU z.kt.ch z.mi.no)) ?_)))
 intro aQ ap aa
 refine noT (by kernel_rfl) ?_
 have ap:ik aQ aO 23 (jV (lU z.kt.ch z.mi.no)).toArray:=ap
 have bk:iX w aQ (fun k=>k=g):=bj.ch aa (fun i hi hlt=>by cases hi;exact absurd hlt (by have:=ah.size;have:=bh;omega))
 refine Xx 1 Z (Sq (WC.draw [0,1,2,3,4,5,6,7,8,9,10,11,12] mixed (by kernel_rfl) fun w8 e=>Xn 3 Z ?_))
 have aR:=(((P.le (R.trans H)).cn aa (by have:=P.lt;omega)).le e)
 refine Xb (mD z.kt) Z aR Z (Xn 1 Z ?_)
 have _:=t.size
 have _:=u.size
 have aS:=(((bmc.le (t.trans (u.trans (R.trans H)))).cn aa (by have:=az.lt;omega)).le e)
 refine Xk (J (((z.mi.no+1):Nat):Int)) Z aS Z (Xp Z (Xc Z (ui z.kt ((z.mi.no+1)+1) hkc (by omega) w8) fun bA I=>Xx 5 Z (Sq (WC.draw [0,1,2,3,4,5,6,7,8,9] mixed (by kernel_rfl) fun w9 f=>Xn 4 Z ?_))))
 have aq:=(aR.le (I.trans f))
 refine Xk (J (z.mi.no:Int)) Z aq Z (Xh Z (ap.le (e.trans (I.trans f))) (Xn 1 Z (Ga Z (.iF (iR (⟨6,(z.mi.no:Int),ag,0,iY,(lU z.kt.ch z.mi.no),lW z.kt.ch ((z.mi.no+1)+1)⟩:mK)) A8 sD Z Z) (G.ab Z Z Z sD yt (iD.one (⟨6,(z.mi.no:Int),ag,0,iY,(lU z.kt.ch z.mi.no),lW z.kt.ch ((z.mi.no+1)+1)⟩:mK)) fun aT bl bB (bm:ik bl aT 134 (iR (⟨6,(z.mi.no:Int),ag,0,iY,(lU z.kt.ch z.mi.no),lW z.kt.ch ((z.mi.no+1)+1)⟩:mK)).toArray) ac=>Gx (Sq (WC.Q3 (fun aj w'=>iX w w' (fun k=>k=g)/\ik w' K 73 (cutV (sG z)).toArray/\ik w' ae 134 (iR m).toArray) [0,1,2,3,4,5,6,7,8,9,10] mixed (by kernel_rfl) fun aj j=>?_))))))
 have aU:=((((bk.le e).le I).le f).le ac).le j
 have aV:=(aS.le (I.trans (f.trans (ac.trans j))))
 have aW:=(((O.le (t.trans (u.trans (R.trans H)))).cn aa (by have:=O.lt;omega)).le (e.trans (I.trans (f.trans (ac.trans j)))))
 refine⟨⟨aU,aV,aW⟩,?_⟩
 refine GR.any Z Z (.move Z) Z Z Z (GR.any Z Z (.move Z) Z Z Z (GR.rd Z Z (fun w' hs=> .jM ads (by rfl) Z hs.2.1) Z Z Z ?_))
 refine GR.any Z Z (.nU RI Z) Z Z Z (GR.rd Z Z (fun w' hs=> .Ha (sS m.sg) TS Z (by decide) Z hs.2.2 Z) Z Z Z (GR.any Z Z (.nilCheck Z) Z Z Z (GR.any Z Z (.nU WT Z) Z Z Z (GR.jR Z Z Z Z (Ef.lY (tX (⟨({z with mi:=(sG z)}:jU),a⟩:sF)) Jn (by rfl) Z Z (aq.le (ac.trans j)) (by simp[qW.len,mE.len]) (mE.one (sG z)) Z ?_)))))
 intro aX ar ad
 have ar:ik aX g 80 (tX (⟨({z with mi:=(sG z)}:jU),a⟩:sF)).toArray:=ar
 have aY:iX w aX (fun k=>k=g):=aU.ch ad (fun i hi _=>by cases hi;exact Z)
 refine⟨fun _=>⟨aY,(aV.cn ad (by omega)),(aW.cn ad (by have:=hb.lt;omega))⟩,?_⟩
 refine GR.any Z Z (.nilCheck Z) Z Z Z (GR.any Z Z (.nU WU Z) Z Z Z (GR.jR Z Z Z Z (Ef.lY (tX (⟨({z with mi:=(sG z),sg:=m.sg}:jU),a⟩:sF)) PZ (by rfl) Z Z ar (by simp[qW.len,qQ.len]) (qQ.one m.sg) Z ?_)))
 intro au av aZ
 have av:ik au g 80 (tX (⟨({z with mi:=(sG z),sg:=m.sg}:jU),a⟩:sF)).toArray:=av
 have a0:iX w au (fun k=>k=g):=aY.ch aZ (fun i hi _=>by cases hi;exact Z)
 refine noT (by kernel_rfl) (GR.nil (E.iM (Sr ?_)))
 have a1:g≠aT:=by have:=aq.lt;omega
 refine Yh Z (((bm.le j).cn ad a1).cn aZ a1) (W.ef Z Z Z (Ef.iw (len:=1) [_] underlying41 uW Z (by simp[Value.cells,iD.len]) Z (by decide) (by decide) ?_))
 intro a2 a3 bn aw a4
 have aw:ik a3 a2 134 (([(⟨6,(z.mi.no:Int),ag,0,iY,(lU z.kt.ch z.mi.no),lW z.kt.ch ((z.mi.no+1)+1)⟩:mK)]).map iR).flatten.toArray:=aw
 have bo:iy a3 au.heap.size 134 iR 61 (some ⟨a2,0,none⟩) 1 1 ([(⟨6,(z.mi.no:Int),ag,0,iY,(lU z.kt.ch z.mi.no),lW z.kt.ch ((z.mi.no+1)+1)⟩:mK)]):=aw.j4 bn iD Z Z (by decide)
 refine Yx 2 Z (Rt (E.lD Z Z Z ?_))
 exact⟨_,_,rfl,(bo.mono a0.size),(av.le a4),(a0.le a4)⟩
end Go.Proofs.YtkpmaajniagncaaGreatDoor
