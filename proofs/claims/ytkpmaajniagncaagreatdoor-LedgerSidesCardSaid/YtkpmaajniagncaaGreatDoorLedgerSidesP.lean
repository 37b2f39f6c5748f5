/- LedgerSides: for every input the law answers true and leaves its arguments as they were. -/
import Derived.Test.YtkpmaajniagncaaGreatDoorLedgerSidesO
set_option linter.defProp false
set_option linter.unusedVariables false
set_option linter.unusedSimpArgs false
namespace Go.Proofs.YtkpmaajniagncaaGreatDoor
open Tryz
open Go Go.Sx Go.Fv Go.Num Go.KJ Go.Gz Go.Lsp Go.JQ Go.yA
set_option maxRecDepth 20000
def XV:List Byte:=[108,111,99,107]
def nTx:List Byte:=[116,120]
def brY (b:Bp):List Byte:=jF b.keys.length++(b.keys.map vB).flatten++jF b.af.toNat++jF b.dl.toNat++vB b.sec
def uy (l:List Bp):List Byte:=if uw l then jF l.length++(l.map brY).flatten else[]
def tQ (l:List Bp):List Byte:=if uw l then tag XV [uy l]else noH
theorem xu {α:Type}{l:List α}{z:α}{f:α->List Byte}{k:Nat}(h:k<l.length):((l.take (k+1)).map f).flatten=((l.take k).map f).flatten++f (l.getD k z):=by
 rw[xU (z:=z) h];simp
theorem XW (l:List Nat):(l.map vB).flatten.length=8*l.length:=by
 induction l with
 |nil=>rfl
 |cons x l ih=>simp only[List.map_cons,List.flatten_cons,List.length_append,iL,ih,List.length_cons];omega
theorem aa6 {b:Bp}(h:Sc b=true):(brY b).length<=134:=by
 obtain⟨c,d,e,f,i⟩:=Om h
 have:=jy b.keys.length (by omega);have:=jy b.af.toNat (by omega);have:=jy b.dl.toNat (by omega)
 unfold brY
 simp only[List.length_append,iL,XW]
 omega
theorem D9 (l:List Bp):(uy l).length<=600:=by
 unfold uy
 split
 ·rename_i h
  obtain⟨e,c⟩:=Iy h
  have key:∀k,k<=l.length->(((l.take k).map brY).flatten).length<=134*k:=by
   intro k
   induction k with
   |zero=>intro _;simp
   |succ k ih=>intro hk;rw[xu (z:=sJ) (by omega),List.length_append];have:=ih (by omega);have:=aa6 (c k (by omega));omega
  have d:=key l.length (Nat.le_refl _)
  rw[List.take_length]at d
  have:=jy l.length (by omega)
  rw[List.length_append]
  omega
 ·exact Nat.zero_le _
theorem Kj (l:List Bp):(tQ l).length=32:=by
 unfold tQ;split
 ·exact jG _ _
 ·rfl
variable {A:Option Addr}{n c:Nat}
theorem Ov {xs:List (BitVec 8)}(m:Nat)(w:World)(hV:Vec w jv 1 A n xs)(hn:n<=100000):Calls prog 165 #[.slice A n c,.int .u64 (m:Int)] w fun r w'=>∃A' c',r= .returned (.slice A' (xs++vB m).length c')/\iy w' w.heap.size 5 jv 1 A' (xs++vB m).length c' (xs++vB m)/\Le w w':=by
 have hl:=hV.1
 refine En func165 Z ?_
 have l:=Le.refl w
 refine Rn 1 Z (Sr (Yz Z af3 fun e o v i x=>?_))
 have i:ik o e 303 ((List.replicate 8 0#8).map jf).toArray:=i.cast Z
 refine Nx (Sq (Rn 1 Z (Bk (WC.loop (ι:=Nat) (fun k=>[(0,.slice A n c),(1,.int .u64 (m:Int)),(5,.pointer (some ⟨e,0,none⟩)),(7,J (k:Int))]) (fun k d=>(k<=8)/\Le w d/\o.heap.size<=d.heap.size/\ik d e 303 ((rH m k++List.replicate (8-k) 0#8).map jf).toArray) (fun k=>8-k) 0 ?_ ?_ ?_))))
 ·exact .of Z
 ·exact⟨by omega,(l.trans x),Nat.le_refl _,i⟩
 rintro k d ⟨hk,f,y,s⟩
 refine Rn 1 Z (Sq ?_)
 by_cases t:(k:Int)<8
 ·refine Cy Z (dT t) (Nb (Rn 2 Z (Rg (Yn 3 Z (Yp Z (Yp Z (Wa (.Pw m (56-8*k) Z Z Z (by omega) (by show 56-8*k<=64;omega)) Z (Wr (.toU8 (m>>>(56-8*k)) (rG underlying53) underlying5 Z Z) Z (Yo k Z ?_)))))))))
  refine W.jR Z Z (Ef.store yC Z Z s (by simp only[List.size_toArray,List.length_map,Ot m hk];omega) Z ?_)
  intro B j u
  have j:ik B e 303 (((rH m k++List.replicate (8-k) 0#8).set k (BitVec.ofNat 8 (m>>>(56-8*k)))).map jf).toArray:=ade j
  refine W.nil (Lp 1 Z Z (E.again (k+1) (.of Z) ?_ ?_))
  ·exact⟨by omega,(f.tb u l v),by have:=y;have:=u.size;omega,(j.cast (by rw[Sg m k (by omega)]))⟩
  first|omega|(simp only[];omega)
 refine Cn Z (dF t) ?_
 have C:k=8:=by omega
 subst C
 refine Ex (Rr 1 Z (Wa (.Be underlying303 yC Z) Z (Yd Z (Lx d (hV.le f) (by omega) (R3 s (iL m)) (by omega) (by omega)) ?_)))
 rintro _ H ⟨I,K,rfl,D,F⟩
 refine Yy 1 Z Z Z ?_
 exact⟨_,_,rfl,(D.mono f.size),(f.trans F)⟩
variable {rs:List qZ}{bs:List Bp}
set_option maxHeartbeats 400000 in
theorem IB (w:World) (hV:Vec w xn 4 A n rs) (hB:xq w 0 rs bs) (hn:n<=9223372036854775807):Calls prog 122 #[.agg #[.slice A n c]] w fun r w'=>∃A' c',r= .returned (.slice A' (uy bs).length c')/\iy w' w.heap.size 5 jv 1 A' (uy bs).length c' (uy bs)/\Le w w':=by
 have hl:=hV.1
 have ad:=hB.1
 have hrn:=jy n (by omega)
 refine En func122 Z (Sr (Yv Z fun ae O aF (P:ik O ae 173 #[.slice A n c]) y=>?_))
 have B:=(Le.refl w).trans y
 refine Yx 1 Z (Sq (Sr (Yh Z P (Yc Z (D6 (c:=c) O (hV.le B) (hB.le B) (by omega)) fun C m=>?_))))
 have D:=B.trans m
 refine Yx 1 Z ?_
 by_cases Q:(uw bs)=true
 ·refine Cn Z (congrArg not Q) ?_
  have hlp:=Iy (by assumption)
  refine Sn (Rr 1 Z ?_)
  have R:=(P.le m)
  refine Yk (.slice A n c) Z R Z (Yn 1 Z (Yd Z (wC n (by omega) C (Vec.nil _ _ _ _) (by first|omega|(simp only[List.length_append,List.length_nil];omega))) ?_))
  rintro _ ah ⟨ai,aj,rfl,ak,e⟩
  have L4:=D.trans e
  refine Yx 1 Z (Sq (Rr 1 Z (Yk (.slice A n c) Z (R.le e) Z (Yx 2 Z (Bk ?_)))))
  refine WC.loop (ι:=Nat×(List (BitVec 8))×(Option Addr)×Nat) (fun⟨k,xs,Aa,ca⟩=>[(3,.slice Aa xs.length ca),(16,.slice A n c),(17,J (n:Int)),(18,J (k:Int))]) (fun⟨k,xs,Aa,ca⟩ f=>(k<=n)/\(xs.length<=10+134*k)/\(xs=jF n++((bs.take k).map brY).flatten)/\Le w f/\ah.heap.size<=f.heap.size/\iy f C.heap.size 5 jv 1 Aa xs.length ca xs) (fun⟨k,xs,Aa,ca⟩=>n-k) (0,([]++jF n),ai,aj) ?_ ?_ ?_
  ·exact .of Z
  ·exact⟨Nat.zero_le _,by simp only[List.nil_append];omega,by simp,L4,Nat.le_refl _,ak⟩
  rintro⟨k,xs,Aa,ca⟩ f ⟨hk,hx,hxe,F,S,U⟩
  have _:=e.size
  have aG:C.heap.size<=f.heap.size:=by omega
  refine Rn 1 Z (Sq ?_)
  by_cases V:(k:Int)<(n:Int)
  ·refine Cy Z (dT V) (Nb (Sr ?_))
   have z:=hB.2 k (by omega)
   have za:=z.af;have zd:=z.dl;have zs:=z.sec;have zl:=z.slt;have zk:=z.keys.1;have zz:=z.lt
   obtain⟨e1,e2,e3,e4,e5⟩:=Om (hlp.2 k (by omega))
   have hra:=jy (rs.getD k jJ).af.toNat (by omega);have hrd:=jy (rs.getD k jJ).dl.toNat (by omega);have hrk:=jy (rs.getD k jJ).kN (by omega)
   refine Ys k Z (hV.isSome kH (by omega)) (Wr (.lX acA Z (hV.le F) kH (jN rs jJ (by omega))) Z (W.ab Z DV NS (kH.one (rs.getD k jJ)) fun H o aH (X:ik o H 189 (xn (rs.getD k jJ)).toArray) s=>Nx (Rr 2 Z (Yk (.slice ((rs.getD k jJ).kA) ((rs.getD k jJ).kN) ((rs.getD k jJ).kC)) Z X Z (Yn 1 Z (Yd Z (wC ((rs.getD k jJ).kN) (by omega) o (U.le s).vec (by first|omega|(simp only[List.length_append,List.length_nil];omega))) ?_))))))
   rintro _ al ⟨an,ao,rfl,ap,i⟩
   have L8:=(F.trans s).trans i
   refine Yx 1 Z (Sq (Rr 1 Z ?_))
   have Y:=(X.le i)
   refine Yk (.slice ((rs.getD k jJ).kA) ((rs.getD k jJ).kN) ((rs.getD k jJ).kC)) Z Y Z (Yx 2 Z (Bk ?_))
   refine WC.loop (ι:=Nat×(List (BitVec 8))×(Option Addr)×Nat) (fun⟨j,ys,Ab,cb⟩=>[(3,.slice Ab ys.length cb),(5,.pointer (some ⟨H,0,none⟩)),(16,.slice A n c),(17,J (n:Int)),(18,J (k:Int)),(28,.slice ((rs.getD k jJ).kA) ((rs.getD k jJ).kN) ((rs.getD k jJ).kC)),(29,J ((rs.getD k jJ).kN:Int)),(30,J (j:Int))]) (fun⟨j,ys,Ab,cb⟩ d=>(j<=(rs.getD k jJ).kN)/\(ys.length<=20+134*k+8*j)/\(ys=xs++jF (rs.getD k jJ).kN++(((bs.getD k sJ).keys.take j).map vB).flatten)/\Le w d/\al.heap.size<=d.heap.size/\iy d o.heap.size 5 jv 1 Ab ys.length cb ys/\ik d H 189 (xn (rs.getD k jJ)).toArray) (fun⟨j,ys,Ab,cb⟩=>(rs.getD k jJ).kN-j) (0,(xs++jF (rs.getD k jJ).kN),an,ao) ?_ ?_ ?_
   ·exact .of Z
   ·exact⟨Nat.zero_le _,by simp only[List.length_append];omega,by simp,L8,Nat.le_refl _,ap,Y⟩
   rintro⟨j,ys,Ab,cb⟩ d ⟨hj,hy,hye,I,K,aa,ac⟩
   have _:=i.size
   have aI:o.heap.size<=d.heap.size:=by omega
   refine Rn 1 Z (Sq ?_)
   by_cases c2:(j:Int)<((rs.getD k jJ).kN:Int)
   ·refine Cy Z (dT c2) (Nb (Sr (Ys j Z (z.keys.isSome iT (by omega)) (Wr (.o9 (v:= .int .u64 (((((bs.getD k sJ).keys).getD j 0):Nat):Int)) yD Z (z.keys.le I) iT (jN ((bs.getD k sJ).keys) 0 (by first|omega|(simp only[List.length_cons,List.length_nil];omega))) Z) Z (Yx 1 Z (Rg (Yn 2 Z (Yd Z (Ov (((bs.getD k sJ).keys).getD j 0) d aa.vec (by first|omega|(simp only[List.length_append,List.length_nil];omega))) ?_))))))))
    rintro _ aJ ⟨aq,ar,rfl,au,L⟩
    refine Yn 1 Z (W.nil (Lp 1 Z Z (E.again (j+1,(ys++vB (((bs.getD k sJ).keys).getD j 0)),aq,ar) (.of Z) ?_ ?_)))
    ·exact⟨by omega,by simp only[List.length_append,iL];omega,by rw[xu (z:=0) (by omega),hye,List.append_assoc],(I.trans L),by have:=K;have:=L.size;omega,(au.mono (by omega)),(ac.le L)⟩
    first|omega|(simp only[];omega)
   refine Cn Z (dF c2) (Ex (WC.draw [0,1,2,4,5,7,8,3,6,9,10] mixed (by kernel_rfl) fun av l=>Xn 2 Z ?_))
   have N:=(ac.le l)
   refine Xk (J ((rs.getD k jJ).af)) Z N Z (Xn 1 Z (Xk (J ((rs.getD k jJ).dl)) Z N Z (Xn 1 Z (Xk (.int .u64 ((rs.getD k jJ).sec:Int)) Z N Z (G.ef Z Z Z Z Z (Ef.call af9 Z Z (by have q:=wC ((rs.getD k jJ).af).toNat (by omega) (c:=cb) av (aa.le l).vec (by first|omega|(simp only[List.length_append,List.length_nil];omega));rw[Int.toNat_of_nonneg (by omega)]at q;exact q) ?_))))))
   rintro _ aw ⟨aK,ax,rfl,ay,t⟩
   refine⟨_,rfl,?_⟩
   refine⟨fun _=>t,?_⟩
   refine Xd Z (by have q:=wC ((rs.getD k jJ).dl).toNat (by omega) (c:=ax) aw ay.vec (by first|omega|(simp only[List.length_append,List.length_nil];omega));rw[Int.toNat_of_nonneg (by omega)]at q;exact q) ?_
   rintro _ az ⟨aL,aM,rfl,aA,u⟩
   refine⟨fun _=>u,?_⟩
   refine Xd Z (Ov ((rs.getD k jJ).sec) az aA.vec (by first|omega|(simp only[List.length_append,List.length_nil];omega))) ?_
   rintro _ aN ⟨aB,aC,rfl,aD,x⟩
   refine⟨fun _=>x,?_⟩
   have aE:=(((I.trans l).trans t).trans u).trans x
   refine Xn 1 Z (G.nil (Lp 1 Z Z (E.again (k+1,(((ys++jF ((rs.getD k jJ).af).toNat)++jF ((rs.getD k jJ).dl).toNat)++vB ((rs.getD k jJ).sec)),aB,aC) (.of Z) ?_ ?_)))
   ·exact⟨by omega,by simp only[List.length_append,iL];omega,by rw[xu (z:=sJ) (by omega),hye,hxe,show(bs.getD k sJ).keys.take j=(bs.getD k sJ).keys from List.take_of_length_le (by omega)];unfold brY;rw[za,zd,zs,<-zk];simp only[List.append_assoc],aE,by have:=S;have:=l.size;have:=t.size;have:=u.size;have:=x.size;have:=K;have:=y.size;have:=m.size;have:=s.size;omega,(aD.mono (by have:=S;have:=l.size;have:=t.size;have:=u.size;have:=x.size;have:=K;have:=y.size;have:=m.size;have:=s.size;omega))⟩
   first|omega|(simp only[];omega)
  refine Cn Z (dF V) (Ex (Ry 2 Z Z Z ?_))
  have he:uy bs=xs:=(if_pos (by assumption)).trans (by rw[hxe,List.take_of_length_le (by omega),<-ad,hl])
  exact⟨_,_,by rw[he],by rw[he];exact(U.mono D.size),F⟩
 refine Cy Z (congrArg not (Bool.eq_false_iff.2 Q)) (Rn 1 Z (Rt (E.il (E.iC Z Z ?_))))
 have he:uy bs=[]:=if_neg (by assumption)
 exact⟨none,0,by rw[he];rfl,by rw[he];exact iy.nil _ _ _ _ _ _,D⟩
theorem aa7 (w:World)(hV:Vec w xn 4 A n rs)(hB:xq w 0 rs bs)(hn:n<=9223372036854775807):Calls prog 64 #[.agg #[.slice A n c]] w fun r w'=>r= .returned (.agg (jV (tQ bs)).toArray)/\Le w w':=by
 have hl:=hV.1
 have aa:=hB.1
 refine En func64 Z (Sr (Yv Z fun I K ac (L:ik K I 173 #[.slice A n c]) N=>?_))
 have f:=(Le.refl w).trans N
 refine Yz Z z23 fun i t u (x:ik t i 23 (jV noH).toArray) y=>?_
 have j:=f.trans y
 refine Nx (Sq (Sr ?_))
 have B:=(L.le y)
 refine Yh Z B (Yc Z (D6 (c:=c) t (hV.le j) (hB.le j) (by omega)) fun O d=>?_)
 have e:=j.trans d
 refine Yx 1 Z ?_
 by_cases C:(uw bs)=true
 ·refine Cn Z (congrArg not C) (Sn (Sr (Yh Z (B.le d) (Yd Z (IB (c:=c) O (hV.le e) (hB.le e) (by omega)) ?_))))
  rintro _ ad ⟨P,Q,rfl,R,D⟩
  have ae:=D9 bs
  refine W.ef Z Z Z (Ef.lQ [_] underlying266 FC Z (by intro v hv;simp at hv;rcases hv with rfl<;>rfl) Z (by decide) (by decide) ?_)
  intro S F af k l
  have k:ik F S 78 #[.slice P ((uy bs).length) Q]:=k
  refine Yc Z (Ib _ XV F (ps:=[(uy bs)]) Z (k.sl (s:=1) (n:=1) Z) (.cons (tC (R.le l).vec) (.nil _)) (by rw[RN];show 16+4+_<=_;omega)) fun ah H=>W.jR Z Z (Ef.storeAll zb (by simp[(jG _ _)]) Z Z (x.le (d.trans (D.trans (l.trans H)))) (by simp[(jG _ _),qc.len]) (rT _) ?_)
  intro U m V
  have m:ik U i 23 ((tag XV [(uy bs)]).map jf).toArray:=m
  refine Nx (Re Z (lV Z m ug (by simp[(jG _ _)])) ?_)
  exact⟨by rw[show tQ bs=_ from if_pos (by assumption),kF (jG _ _)],((((e.trans D).trans l).trans H).tb V f u)⟩
 refine Cy Z (congrArg not (Bool.eq_false_iff.2 C)) (Sr (Wa (.kU (cells:=(jV noH).toArray) underlying23 yC z23 Z Z) Z (Yw Z (x.le d) (qc.one noH) ?_)))
 intro X o Y
 have o:ik X i 23 (jV noH).toArray:=o
 refine Nx (Rt (E.il (E.iC Z (lV Z o ug (by rfl)) ?_)))
 exact⟨by rw[show tQ bs=_ from if_neg (by assumption)],(e.tb Y f u)⟩
def UM (am:Int)(s:ny):Prop:=(0<=s.no/\s.no<=1048576)/\(0<=s.h0/\s.h0<=1125899906842624)/\(0<=s.h1/\s.h1<=1125899906842624)/\(0<=s.rt/\s.rt<=1000)/\s.h0+s.h1=am
theorem CV (n lo hi:Int)(w:World):Calls prog 103 #[J n,J lo,J (hi)] w fun r w'=>r= .returned (.bool (l7 n lo hi))/\Le w w':=by
 refine En func103 Z ?_
 have d:=Le.refl w
 refine Rn 1 Z (Rr 3 Z ?_)
 by_cases c:lo<=n
 ·refine Dt c Z Z (Yy 5 Z Z Z ?_)
  exact⟨(by first|rfl|(simp[l7,c];done)|(simp[l7,c];omega)|(simp[l7,c];split<;>first|(exfalso;omega)|(simp;done)|(simp;omega))),d⟩
 refine Df c Z Z (Yy 5 Z Z Z ?_)
 exact⟨(by first|rfl|(simp[l7,c];done)|(simp[l7,c];omega)|(simp[l7,c];split<;>first|(exfalso;omega)|(simp;done)|(simp;omega))),d⟩
theorem Ow (s:ny)(to:Int)(w:World):Calls prog 106 #[.agg #[J s.no,J s.h0,J s.h1,.slice none 0 0,J (s.rt)],J (to)] w fun r w'=>r= .returned (.tuple #[J 0,J 0])/\Le w w':=by
 refine En func106 Z (Sr (Yv Z fun c d i (e:ik d c 38 #[J s.no,J s.h0,J s.h1,.slice none 0 0,J (s.rt)]) f=>Yx 2 Z (Rn 1 Z (Rn 1 Z (Sq (Rn 1 Z (Bk (WC.rounds 1 ?_))))))))
 refine uo.step (Sq (Rr 2 Z (Yk (.slice none 0 0) Z e Z (Yq 2 Z (show _=false from by first|decide|rfl) (Nx (Cf Z (Ex (Rn 4 Z (Rt ?_)))))))))
 refine E.lD Z Z Z ?_
 exact⟨rfl,((Le.refl w).trans f)⟩
theorem XX {s:ny}(w:World)(hb:(0<=s.h0/\s.h0<=1125899906842624)/\0<=s.h1/\s.h1<=1125899906842624):Calls prog 107 #[.agg #[J s.no,J s.h0,J s.h1,.slice none 0 0,J (s.rt)]] w fun r w'=>r= .returned (J (s.h0+s.h1))/\Le w w':=by
 refine En func107 Z (Sr (Yv Z fun d e i (c:ik e d 38 #[J s.no,J s.h0,J s.h1,.slice none 0 0,J (s.rt)]) f=>Yx 1 Z (Rr 1 Z (Yi 0 Z (Yk (J s.h0) Z c Z (Yn 1 Z (Yi 1 Z (Yk (J s.h1) Z c Z ?_))))))))
 refine Yp Z (Yx 1 Z (Sq (Rn 1 Z (Bk (WC.rounds 1 (uo.step (Sq (Rr 2 Z (Yk (.slice none 0 0) Z c Z ?_)))))))))
 refine Yq 2 Z (show _=false from by first|decide|rfl) (Nx (Cf Z (Ex (Ry 2 Z Z Z ?_))))
 exact⟨rfl,((Le.refl w).trans f)⟩
theorem Kk (ch:vM){s:ny}(w:World)(hrt:0<=s.rt/\s.rt<=1000):Calls prog 108 #[.agg (mU ch).toArray,.agg #[J s.no,J s.h0,J s.h1,.slice none 0 0,J (s.rt)]] w fun r w'=>r= .returned (J (lF s.rt 0))/\Le w w':=by
 have hmul:=Oh hrt (show 0<=16 by decide)
 refine En func108 Z (Sr (Yv Z fun k l m n e=>Yv Z fun f c o (d:ik c f 38 #[J s.no,J s.h0,J s.h1,.slice none 0 0,J (s.rt)]) i=>Yx 1 Z (Rr 1 Z (Yk (J s.rt) Z d Z (Yn 1 Z (Yk (.slice none 0 0) Z d Z (Yn 1 Z ?_)))))))
 refine Yc Z (UG s.rt 0 (by omega) (by omega) c) fun t j=>Yp Z (Yy 1 Z Z Z ?_)
 exact⟨rfl,((((Le.refl w).trans e).trans i).trans j)⟩
theorem LP (ch:vM)(hch:CO ch){s:ny}(w:World)(hs:UM ch.am s):Calls prog 54 #[.agg (mU ch).toArray,.agg #[J s.no,J s.h0,J s.h1,.slice none 0 0,J (s.rt)]] w fun r w'=>r= .returned (.bool (decide (lF s.rt 0<=s.h ch.op)))/\Le w w':=by
 obtain⟨hno,aa,ac,hrt,htot⟩:=hs
 have ham:=hch.am;have hop:=hch.op
 refine En func54 Z (Sr (Yv Z fun ad ae au (af:ik ae ad 68 (mU ch).toArray) ah=>Yv Z fun ai y av (aj:ik y ai 38 #[J s.no,J s.h0,J s.h1,.slice none 0 0,J (s.rt)]) A=>Yx 1 Z (Sq (Sr ?_))))
 have B:=(af.le A)
 refine Yh Z B (Yc Z (UH ch hch y) fun ak e=>Yq 1 Z (show _=false from by first|decide|rfl) (Yn 2 Z ?_))
 have C:=(aj.le e)
 refine Yk (J s.no) Z C Z (Yc Z (CV s.no 0 1048576 ak) fun al f=>Yn 2 Z ?_)
 by_cases D:(l7 s.no 0 1048576)=true
 ·refine Yq 1 Z (congrArg not D) (Yn 1 Z (Yi 0 Z ?_))
  have F:=(C.le f)
  refine Yk (J s.h0) Z F Z (Yc Z (CV s.h0 0 1125899906842624 al) fun an i=>Yn 2 Z ?_)
  by_cases H:(l7 s.h0 0 1125899906842624)=true
  ·refine Yq 1 Z (congrArg not H) (Yn 1 Z (Yi 1 Z ?_))
   have I:=(F.le i)
   refine Yk (J s.h1) Z I Z (Yc Z (CV s.h1 0 1125899906842624 an) fun ao j=>Yn 2 Z ?_)
   by_cases K:(l7 s.h1 0 1125899906842624)=true
   ·refine Yq 1 Z (congrArg not K) (Yn 1 Z ?_)
    have L:=(I.le j)
    refine Yk (J s.rt) Z L Z (Yc Z (CV s.rt 0 1000 ao) fun ap k=>Yn 2 Z ?_)
    by_cases N:(l7 s.rt 0 1000)=true
    ·refine Yq 1 Z (congrArg not N) (Yn 1 Z ?_)
     have d:=(L.le k)
     refine Yk (.slice none 0 0) Z d Z (Yq 2 Z (show _=false from by first|decide|rfl) (Yx 1 Z (Cf Z (Sn (Sq (Rn 1 Z (Bk (WC.rounds 1 (uo.step ?_)))))))))
     refine Sq (Rr 2 Z (Yk (.slice none 0 0) Z d Z (Yq 2 Z (show _=false from by first|decide|rfl) (Nx (Cf Z (Ex (Sq (Rn 1 Z (Bk ?_)))))))))
     refine WC.rounds 3 (uo.step (Sq (Sr (Yq 2 Z (show _=true from by first|decide|rfl) (Nx (Ct Z (Nb (Sr (Yh Z d ?_)))))))))
     refine Yn 1 Z (Yc Z (Ow s 0 ap) fun aq l=>Yx 5 Z (Rr 3 Z (Yj 0 Z (Yn 1 Z ?_))))
     have m:=(B.le (e.trans (f.trans (i.trans (j.trans (k.trans l))))))
     refine Yk (J 16) Z m Z (Yq 1 Z (show _=false from by first|decide|rfl) (Yn 4 Z (Yj 0 Z (Yn 1 Z (Yk (J 1125899906842624) Z m Z (Yq 1 Z (show _=false from by first|decide|rfl) (Yx 1 Z (Cf Z (WC.skip ?_)))))))))
     refine E.jD (E.iM (Rg (Yn 1 Z (Wa (.as (.add Z Z (by decide)) Z) Z (Yn 1 Z (W.nil (E.round (uo.step (Sq ?_)))))))))
     refine Sr (Yq 2 Z (show _=true from by first|decide|rfl) (Nx (Ct Z (Nb (Sr ?_)))))
     have O:=(d.le l)
     refine Yh Z O (Yn 1 Z (Yc Z (Ow s 1 aq) fun aw n=>Yx 5 Z (Rr 3 Z (Yj 1 Z (Yn 1 Z ?_)))))
     have o:=(m.le n)
     refine Yk (J 16) Z o Z (Yq 1 Z (show _=false from by first|decide|rfl) (Yn 4 Z (Yj 1 Z (Yn 1 Z (Yk (J 1125899906842624) Z o Z (Yq 1 Z (show _=false from by first|decide|rfl) (Yx 1 Z (Cf Z (WC.skip ?_)))))))))
     refine E.jD (E.iM (Rg (Yn 1 Z (Wa (.as (.add Z Z (by decide)) Z) Z (Yn 1 Z (W.nil (E.round (uo.step (Sq ?_)))))))))
     refine Sr (Yq 2 Z (show _=false from by first|decide|rfl) (Nx (Cf Z (Ex (Sq (WC.draw [0,2,3,1,4,5,6,7,8,9,10,11,12,13,14,15,16] mixed (by kernel_rfl) fun ar t=>?_))))))
     have u:=(O.le (n.trans t))
     refine Xh Z u (Xn 1 Z ?_)
     have x:=(o.le t)
     refine Xk (J ch.am) Z x Z (Xc Z (XX (s:=s) ar ⟨aa,ac⟩) fun P c=>?_)
     have Q:=(((((((((((Le.refl w).trans ah).trans A).trans e).trans f).trans i).trans j).trans k).trans l).trans n).trans t).trans c
     refine Xq 1 Z (dT htot) (Xn 1 Z ?_)
     by_cases ax:ch.op=0
     ·refine Xn 1 Z ?_
      have R:=(x.le c)
      refine Xk (J ch.op) Z R Z (Xn 1 Z (Xi 0 Z ?_))
      have S:=(u.le c)
      refine Xk (J s.h0) Z S Z (Xh Z R (Xh Z S (Xc Z (Kk ch (s:=s) P hrt) fun ay U=>Xx 3 Z (Re Z Z ?_))))
      exact⟨rB (by rw[h_0 s (by assumption)]),(Q.trans U)⟩
     refine Xn 1 Z ?_
     have V:=(x.le c)
     refine Xk (J ch.op) Z V Z (Xn 1 Z (Xi 1 Z ?_))
     have X:=(u.le c)
     refine Xk (J s.h1) Z X Z (Xh Z V (Xh Z X (Xc Z (Kk ch (s:=s) P hrt) fun az Y=>Xx 3 Z (Re Z Z ?_))))
     exact⟨rB (by rw[h_1 s (by assumption)]),(Q.trans Y)⟩
    refine Yq 1 Z (congrArg not (Bool.eq_false_iff.2 N)) (Yx 5 Z (Ct Z (Rn 1 Z (Rt (E.il (E.iC Z Z ?_))))))
    exfalso;simp only[l7,decide_eq_true_eq]at*;omega
   refine Yq 1 Z (congrArg not (Bool.eq_false_iff.2 K)) (Yx 11 Z (Ct Z (Rn 1 Z (Rt (E.il (E.iC Z Z ?_))))))
   exfalso;simp only[l7,decide_eq_true_eq]at*;omega
  refine Yq 1 Z (congrArg not (Bool.eq_false_iff.2 H)) (Yx 18 Z (Ct Z (Rn 1 Z (Rt (E.il (E.iC Z Z ?_))))))
  exfalso;simp only[l7,decide_eq_true_eq]at*;omega
 refine Yq 1 Z (congrArg not (Bool.eq_false_iff.2 D)) (Yx 25 Z (Ct Z (Rn 1 Z (Rt (E.il (E.iC Z Z ?_))))))
 exfalso;simp only[l7,decide_eq_true_eq]at*;omega
end Go.Proofs.YtkpmaajniagncaaGreatDoor
namespace Go.Sx
variable {P:Program}{env:Env}{n:Nat}{d:Option Nat}{af:Array Edge}
theorem Any.LQ {T:TypeId}{p:String}{g:Option (Nat×Bool)}{t ty:TypeId}{x y:Operand}{a b:Int}(hx:ev env x=some (.int .u8 a))(hy:ev env y=some (.int .u8 b))(hb:0<=a/\1<=b):
  Any P env n ⟨d,.binOp .rem t x y ty,T,p,af,g⟩ (.int .u8 (a%b)):= .int hx hy fun w=>by
 have:b≠0:=by omega
 simp[binOp,Op.intDiv,this,IntWalk.rem_in _ b hb.1]
theorem Any.UN {T:TypeId}{p:String}{g:Option (Nat×Bool)}{t e len s:Nat}{zs:Array Value}{parts:Array (Nat×Operand)}(vs:List Value){cs:List Value}(hu:P.underlying t=some (.array len e))(hs:Sz P e s)(hz:Zr P t (.agg zs))(hp:VW env parts.toList=some (AV 0 vs))
  (h1:∀v∈vs,v.cells.size=s)(hl1:zs.size=len*s)(hl2:vs.length=len)(hc:rU vs=cs):Any P env n ⟨d,.build t parts,T,p,af,g⟩ (.agg cs.toArray):=
 Any.kU hu hs hz hp (by
  subst hc
  have hfl:=xJ s vs h1
  have hl:zs.size=(rU vs).length:=by rw[hl1,hfl,hl2]
  have hf:=BN (fun i=>some (i*s,s)) vs 0 [] zs.toList (by simpa using yT s vs 0 h1) (by simp[hl])
  simpa[Value.cells,hl,List.drop_of_length_le]using hf)
end Go.Sx
namespace Go.Proofs.YtkpmaajniagncaaGreatDoor
open Tryz
open Go Go.Sx Go.Fv Go.Num Go.KJ Go.Gz Go.Lsp Go.JQ
set_option maxRecDepth 20000
structure CW where
 s0:List Byte
 s1:List Byte
 am:Nat
 ow:Nat
 ra:Nat
 op:Nat
 oa:Option Addr
 on:Nat
 oc:Nat
 no:Nat
 per:List Byte
def vz (p:CW):List Value:=jV p.s0++jV p.s1++[.int .u32 (p.am:Int),.int .u32 (p.ow:Int),.int .u8 (p.ra:Int),.int .u8 (p.op:Int),.slice p.oa p.on p.oc,.int .u16 (p.no:Int)]++jV p.per
structure vO (p:CW):Prop where
 s0:p.s0.length=32
 s1:p.s1.length=32
 am:p.am<4294967296
 ow:p.ow<4294967296
 ra:p.ra<256
 op:p.op<256
 no:p.no<65536
def AP (p:CW):vM:=⟨20000+(p.am:Int),(p.op:Int)%2,base (iq p.s0).f,base (iq p.s0).p,base (iq p.s0).l,base (iq p.s0).c,base (iq p.s0).r,base (iq p.s1).f,base (iq p.s1).p,base (iq p.s1).l,base (iq p.s1).c,base (iq p.s1).r⟩
def owB (p:CW):Int:=(p.ow:Int)%((20000+(p.am:Int))+1)
theorem XY (p:CW):0<=owB p/\owB p<=20000+(p.am:Int):=by
 unfold owB
 have c:=Int.emod_nonneg (p.ow:Int) (show(20000+(p.am:Int))+1≠0 by omega)
 have d:=Int.emod_lt_of_pos (p.ow:Int) (show 0<(20000+(p.am:Int))+1 by omega)
 omega
def FD (p:CW):ny:=⟨(p.no:Int),owB p,(20000+(p.am:Int))-owB p,[],(p.ra:Int)%8⟩
def wD (p:CW):ny:=if lF (FD p).rt 0<=(FD p).h (AP p).op then FD p else if(p.op:Int)%2=0 then⟨(p.no:Int),20000+(p.am:Int),0,[],(p.ra:Int)%8⟩else⟨(p.no:Int),0,20000+(p.am:Int),[],(p.ra:Int)%8⟩
theorem XZ {p:CW}(h:vO p):CO (AP p):=by
 have v:=h.am
 have hb:∀s:List Byte,rZ (base (iq s).f)/\rZ (base (iq s).p)/\rZ (base (iq s).l)/\rZ (base (iq s).c)/\rZ (base (iq s).r):=fun s=>⟨xk (wI _),xk (wI _),xk (wI _),xk (wI _),xk (wI _)⟩
 refine⟨by unfold AP;dsimp only;omega,by unfold AP;dsimp only;omega,?_⟩
 obtain⟨d,e,i,j,k⟩:=hb p.s0
 obtain⟨m,n,o,t,u⟩:=hb p.s1
 exact⟨d,e,i,j,k,m,n,o,t,u⟩
theorem X0 {p:CW}(h:vO p):UM (AP p).am (FD p):=by
 have c:=h.am
 have d:=h.no
 have:=XY p
 unfold UM FD AP
 dsimp only
 omega
theorem Ea {am op:Int}{s:ny}(h:UM am s)(ha:am<=1125899906842624)(hc:lF s.rt 0<=s.h op)(hn:s.cs=[]):kz am op s:=by
 have d:=h.2.2.2.2
 refine{wY:=h.1,Vq:=h.2.1,Vr:=h.2.2.1,Wy:=h.2.2.2.1,len:=?_,fine:=?_,ord:=?_,tot:=?_,top:=ha,pays:=?_}
 ·rw[hn];decide
 ·rw[hn];intro c hc;cases hc
 ·rw[hn];exact .nil
 ·rw[hn];simp only[jT,List.map_nil,List.sum_nil];omega
 ·rw[hn];exact hc
theorem Qr {p:CW}(h:vO p):kz (AP p).am (AP p).op (wD p):=by
 have d:=X0 h
 have i:=h.am
 have j:=h.no
 have hr:lF ((p.ra:Int)%8) 0<=1136:=by
  unfold lF
  have f:(p.ra:Int)%8<=7:=by omega
  have k:=Int.mul_le_mul_of_nonneg_right f (show(0:Int)<=68+8*((0:Nat):Int) by decide)
  have l:(7:Int)*(68+8*((0:Nat):Int))=476:=by decide
  omega
 have ha:(AP p).am<=1125899906842624:=by unfold AP;dsimp only;omega
 unfold wD
 by_cases c:lF (FD p).rt 0<=(FD p).h (AP p).op
 ·rw[if_pos c];exact Ea d ha c Z
 ·rw[if_neg c]
  by_cases e:(p.op:Int)%2=0
  ·rw[if_pos e]
   refine Ea ?_ ha ?_ Z
   ·unfold UM AP;dsimp only;omega
   ·have:(AP p).op=0:=by show(p.op:Int)%2=0;omega
    rw[this];show lF ((p.ra:Int)%8) 0<=20000+(p.am:Int);omega
  ·rw[if_neg e]
   refine Ea ?_ ha ?_ Z
   ·unfold UM AP;dsimp only;omega
   ·have:(AP p).op=1:=by show(p.op:Int)%2=1;omega
    rw[this];show lF ((p.ra:Int)%8) 0<=20000+(p.am:Int);omega
theorem aa8 (p:CW):(wD p).cs=[]:=by unfold wD FD;split<;>(try split)<;>rfl
set_option maxHeartbeats 4000000 in
theorem aa9 (p:CW) (w:World) (hp:vO p/\p.oa=none/\p.on=0/\p.oc=0):Calls prog 25 #[.agg (vz p).toArray] w fun r w'=>r= .returned (.tuple #[.agg (mU (AP p)).toArray,.agg (pG (iq p.s0,iq p.s1)).toArray,.agg #[J (wD p).no,J (wD p).h0,J (wD p).h1,.slice none 0 0,J (wD p).rt]])/\Le w w':=by
 obtain⟨hp,c2,c3,c4⟩:=hp
 have hch:=XZ hp;have co:=X0 hp;have c5:=hp.am;have c6:=hp.ow;have c7:=hp.ra;have c8:=hp.op;have c9:=hp.no;have hm:=XY p;unfold owB at hm
 refine En func25 Z (Sr (Yv Z fun ax cp da (cq:ik cp ax 29 (vz p).toArray) cr=>?_))
 have L1:=(Le.refl w).trans cr
 refine Yz Z z68 fun R ct a1 (u:ik ct R 68 (rz 32 [J 0,J 0,.int .u64 (je.f:Int),.int .u64 (je.p:Int),.int .u64 (je.l:Int),.int .u64 (je.c:Int),.int .u64 (je.r:Int),.int .u64 (je.f:Int),.int .u64 (je.p:Int),.int .u64 (je.l:Int),.int .u64 (je.c:Int),.int .u64 (je.r:Int),J 0,J 0,J 0,J 0,J 0,J 0,J 0,J 0,J 0,J 0,J 0,J 0,J (0)]).toArray) bp=>?_
 have L2:=L1.trans bp
 refine Yz Z z105 fun S cu a2 (D:ik cu S 105 (pG (CP,CP)).toArray) C=>?_
 have L3:=L2.trans C
 refine Yz Z z38 fun U cv a3 (K:ik cv U 38 #[J 0,J 0,J 0,.slice none 0 0,J (0)]) m=>Nx (Sq (WC.aeU [0,1,2,4,5,6] [3,7,8,9] [10] (fun i=>bif Nat.beq i 8 then[3,7]else[]) mixed (by kernel_rfl) fun V d=>?_))
 have L5:=(L3.trans m).trans d
 refine Xn 1 Z (Xj 0 Z ?_)
 have f6:=(cq.le (bp.trans (C.trans (m.trans d))))
 refine Xb (jV p.s0) Z f6 Z (Xn 1 Z (Xj 1 Z (Xb (jV p.s1) Z f6 Z (G.nil (E.aeT ⟨by rfl,fun iU=>(bif Nat.beq iU 3 then(fun v w'=>v= .agg (mD (iq p.s0)).toArray)else(bif Nat.beq iU 7 then(fun v w'=>v= .agg (mD (iq p.s1)).toArray)else(bif Nat.beq iU 8 then(fun v w'=>v= .agg (pG (iq p.s0,iq p.s1)).toArray)else(bif Nat.beq iU 9 then(fun v w'=>∃N,v= .pointer (some ⟨N,0,none⟩)/\ik w' N 105 (pG (CP,CP)).toArray)else(fun _ _=>True))))),?_,?_,?_⟩)))))
 ·intro iU hi v V w2 hv hle
  simp only[List.mem_cons,List.not_mem_nil,or_false]at hi
  rcases hi with rfl|rfl|rfl|rfl
  ·exact hv
  ·exact hv
  ·exact hv
  obtain⟨N,hvv,a4⟩:=hv;exact⟨N,hvv,a4.le hle⟩
 ·intro iU hi
  simp only[List.mem_cons,List.not_mem_nil,or_false]at hi
  rcases hi with rfl|rfl|rfl|rfl
  ·refine .inl ⟨rfl,Step.of0 Z Z ?_⟩
   intro V hle
   refine Ef.call af7 Z Z (R9 p.s0 hp.s0 V) ?_
   rintro _ w2 ⟨rfl,h2⟩
   refine⟨_,rfl,?_⟩
   exact⟨h2,rfl,fun k hk=>hk.elim⟩
  ·refine .inl ⟨rfl,Step.of0 Z Z ?_⟩
   intro V hle
   refine Ef.call af7 Z Z (R9 p.s1 hp.s1 V) ?_
   rintro _ w2 ⟨rfl,h2⟩
   refine⟨_,rfl,?_⟩
   exact⟨h2,rfl,fun k hk=>hk.elim⟩
  ·refine MZ.aeS (j:=3) (k:=7) Z Z Z Z Z fun v3 v7 V hle (cw:v3= .agg (mD (iq p.s0)).toArray) a5=>?_
   subst cw
   have a5:v7= .agg (mD (iq p.s1)).toArray:=a5
   subst a5
   exact⟨.agg (pG (iq p.s0,iq p.s1)).toArray,.UN [.agg (mD (iq p.s0)).toArray,.agg (mD (iq p.s1)).toArray] underlying105 aas z105 Z (fun v hv=>by simp at hv;rcases hv with rfl|rfl<;>simp[Value.cells,xh.len]) Z Z (show _=pG (iq p.s0,iq p.s1) by simp[rU,pG,Value.cells]),rfl,fun k hk=>hk.elim⟩
  refine .inl ⟨rfl,Step.of0 Z Z ?_⟩
  intro V hle
  refine Ef.pR z105 fun N w2 hg bq h2=>?_
  exact⟨h2,⟨_,rfl,bq⟩,fun k hk=>(show N=k from hk)▸⟨hg,bq.lt⟩⟩
 intro f_1 W_1 h_1 LU aba aiz
 have cx:f_1 3= .agg (mD (iq p.s0)).toArray:=LU 3 (by decide)
 have cy:f_1 7= .agg (mD (iq p.s1)).toArray:=LU 7 (by decide)
 have cz:f_1 8= .agg (pG (iq p.s0,iq p.s1)).toArray:=LU 8 (by decide)
 obtain⟨N,bs,a4⟩:=LU 9 (by decide)
 have cA:V.heap.size<=N:=(aba 9 (by decide) N (by rw[bs];rfl)).1
 show G _ _ _ _ _ ((18,f_1 3)::(22,f_1 7)::(23,f_1 8)::(5,f_1 9)::_) _
 rw[cx,cy,cz,bs]
 refine Xw Z a4 (qx.one (iq p.s0,iq p.s1)) ?_
 intro cB aA e
 refine noT (by kernel_rfl) ?_
 have aA:ik cB N 105 (pG (iq p.s0,iq p.s1)).toArray:=aA
 have ay:=(L5.trans h_1).tb e L5 cA
 refine Gx (Rr 1 Z ?_)
 have aB:=((f6.le h_1).cn e (by have:=f6.lt;omega))
 refine Yk (.int .u32 (p.am:Int)) Z aB Z (Wr (.Tp (rG underlying25) underlying3 Z (IntWalk.i64_in _ (by omega))) Z (Yp Z (Yn 1 Z (Yk (.int .u8 (p.op:Int)) Z aB Z (Wa (.LQ Z Z (by omega)) Z (Wr (.Tp (rG underlying5) underlying3 Z (IntWalk.i64_in _ (by omega))) Z (Wa (.iF (rz 32 [J 0,J (20000+(p.am:Int)),.int .u64 (je.f:Int),.int .u64 (je.p:Int),.int .u64 (je.l:Int),.int .u64 (je.c:Int),.int .u64 (je.r:Int),.int .u64 (je.f:Int),.int .u64 (je.p:Int),.int .u64 (je.l:Int),.int .u64 (je.c:Int),.int .u64 (je.r:Int),J 0,J 0,J 0,J 0,J 0,J 0,J 0,J 0,J 0,J 0,J 0,J 0,J ((p.op:Int)%2)]) ah6 z68 Z Z) Z ?_)))))))
 refine W.ab Z z68 PY (wN Z) fun L bt aC (cC:ik bt L 68 (rz 32 [J 0,J (20000+(p.am:Int)),.int .u64 (je.f:Int),.int .u64 (je.p:Int),.int .u64 (je.l:Int),.int .u64 (je.c:Int),.int .u64 (je.r:Int),.int .u64 (je.f:Int),.int .u64 (je.p:Int),.int .u64 (je.l:Int),.int .u64 (je.c:Int),.int .u64 (je.r:Int),J 0,J 0,J 0,J 0,J 0,J 0,J 0,J 0,J 0,J 0,J 0,J 0,J ((p.op:Int)%2)]).toArray) y=>Nx (Sq (Rn 1 Z (Bk (WC.rounds 3 (uo.step (Sq (Sr (Yq 2 Z (show _=true from by first|decide|rfl) ?_))))))))
 refine Nx (Ct Z (Nb (Rr 2 Z (Yj 0 Z ?_))))
 have bu:=(aA.le y)
 refine Yb (mD ((iq p.s0,iq p.s1).1)) Z bu Z (Yc Z (Iw ((iq p.s0,iq p.s1).1) bt) fun db x=>Yn 1 Z (Yj 0 Z ?_))
 have cD:=(cC.le x)
 refine W.jR Z Z (Ef.lY (rz 32 [J 0,J (20000+(p.am:Int)),.int .u64 ((iW ((iq p.s0,iq p.s1).1)).f:Int),.int .u64 ((iW ((iq p.s0,iq p.s1).1)).p:Int),.int .u64 ((iW ((iq p.s0,iq p.s1).1)).l:Int),.int .u64 ((iW ((iq p.s0,iq p.s1).1)).c:Int),.int .u64 ((iW ((iq p.s0,iq p.s1).1)).r:Int),.int .u64 (je.f:Int),.int .u64 (je.p:Int),.int .u64 (je.l:Int),.int .u64 (je.c:Int),.int .u64 (je.r:Int),J 0,J 0,J 0,J 0,J 0,J 0,J 0,J 0,J 0,J 0,J 0,J 0,J ((p.op:Int)%2)]) TQ (by rfl) Z Z cD (by show 34+5<=57;decide) (CQ.one (iW ((iq p.s0,iq p.s1).1))) Z ?_)
 intro cE a6 A
 have a6:ik cE L 68 (rz 32 [J 0,J (20000+(p.am:Int)),.int .u64 ((iW ((iq p.s0,iq p.s1).1)).f:Int),.int .u64 ((iW ((iq p.s0,iq p.s1).1)).p:Int),.int .u64 ((iW ((iq p.s0,iq p.s1).1)).l:Int),.int .u64 ((iW ((iq p.s0,iq p.s1).1)).c:Int),.int .u64 ((iW ((iq p.s0,iq p.s1).1)).r:Int),.int .u64 (je.f:Int),.int .u64 (je.p:Int),.int .u64 (je.l:Int),.int .u64 (je.c:Int),.int .u64 (je.r:Int),J 0,J 0,J 0,J 0,J 0,J 0,J 0,J 0,J 0,J 0,J 0,J 0,J ((p.op:Int)%2)]).toArray:=a6
 refine Nx (Rg (Yn 2 Z (Wa (.as (.add Z Z (by decide)) Z) Z (Wa (.iF [J 100,J 200,J 5,J 16,J 1,J (1125899906842624)] agh z65 Z Z) Z (Yn 1 Z (Yj 0 Z (W.jR Z Z ?_)))))))
 refine Ef.lY (rz 32 [J 0,J (20000+(p.am:Int)),.int .u64 ((iW ((iq p.s0,iq p.s1).1)).f:Int),.int .u64 ((iW ((iq p.s0,iq p.s1).1)).p:Int),.int .u64 ((iW ((iq p.s0,iq p.s1).1)).l:Int),.int .u64 ((iW ((iq p.s0,iq p.s1).1)).c:Int),.int .u64 ((iW ((iq p.s0,iq p.s1).1)).r:Int),.int .u64 (je.f:Int),.int .u64 (je.p:Int),.int .u64 (je.l:Int),.int .u64 (je.c:Int),.int .u64 (je.r:Int),J 100,J 200,J 5,J 16,J 1,J 1125899906842624,J 0,J 0,J 0,J 0,J 0,J 0,J ((p.op:Int)%2)]) H6 (by rfl) Z Z a6 (by show 44+6<=57;decide) (by simp[Value.oneCell']) Z ?_
 intro bv a7 B
 have a7:ik bv L 68 (rz 32 [J 0,J (20000+(p.am:Int)),.int .u64 ((iW ((iq p.s0,iq p.s1).1)).f:Int),.int .u64 ((iW ((iq p.s0,iq p.s1).1)).p:Int),.int .u64 ((iW ((iq p.s0,iq p.s1).1)).l:Int),.int .u64 ((iW ((iq p.s0,iq p.s1).1)).c:Int),.int .u64 ((iW ((iq p.s0,iq p.s1).1)).r:Int),.int .u64 (je.f:Int),.int .u64 (je.p:Int),.int .u64 (je.l:Int),.int .u64 (je.c:Int),.int .u64 (je.r:Int),J 100,J 200,J 5,J 16,J 1,J 1125899906842624,J 0,J 0,J 0,J 0,J 0,J 0,J ((p.op:Int)%2)]).toArray:=a7
 refine W.nil (E.jD (E.iM (Rg (Yn 1 Z (Wa (.as (.add Z Z (by decide)) Z) Z (Yn 1 Z (W.nil (E.round (uo.step ?_)))))))))
 refine Sq (Sr (Yq 2 Z (show _=true from by first|decide|rfl) (Nx (Ct Z (Nb (Rr 2 Z (Yj 1 Z ?_)))))))
 have X:L≠N:=by have:=aA.lt;omega
 have Y:=(((bu.le x).cn A X).cn B X)
 refine Yb (mD ((iq p.s0,iq p.s1).2)) Z Y Z (Yc Z (Iw ((iq p.s0,iq p.s1).2) bv) fun dc n=>Yn 1 Z (Yj 1 Z ?_))
 have cF:=(a7.le n)
 refine W.jR Z Z ?_
 refine Ef.lY (rz 32 [J 0,J (20000+(p.am:Int)),.int .u64 ((iW ((iq p.s0,iq p.s1).1)).f:Int),.int .u64 ((iW ((iq p.s0,iq p.s1).1)).p:Int),.int .u64 ((iW ((iq p.s0,iq p.s1).1)).l:Int),.int .u64 ((iW ((iq p.s0,iq p.s1).1)).c:Int),.int .u64 ((iW ((iq p.s0,iq p.s1).1)).r:Int),.int .u64 ((iW ((iq p.s0,iq p.s1).2)).f:Int),.int .u64 ((iW ((iq p.s0,iq p.s1).2)).p:Int),.int .u64 ((iW ((iq p.s0,iq p.s1).2)).l:Int),.int .u64 ((iW ((iq p.s0,iq p.s1).2)).c:Int),.int .u64 ((iW ((iq p.s0,iq p.s1).2)).r:Int),J 100,J 200,J 5,J 16,J 1,J 1125899906842624,J 0,J 0,J 0,J 0,J 0,J 0,J ((p.op:Int)%2)]) TQ (by rfl) Z Z cF (by show 39+5<=57;decide) (CQ.one (iW ((iq p.s0,iq p.s1).2))) Z ?_
 intro cG a8 o
 have a8:ik cG L 68 (rz 32 [J 0,J (20000+(p.am:Int)),.int .u64 ((iW ((iq p.s0,iq p.s1).1)).f:Int),.int .u64 ((iW ((iq p.s0,iq p.s1).1)).p:Int),.int .u64 ((iW ((iq p.s0,iq p.s1).1)).l:Int),.int .u64 ((iW ((iq p.s0,iq p.s1).1)).c:Int),.int .u64 ((iW ((iq p.s0,iq p.s1).1)).r:Int),.int .u64 ((iW ((iq p.s0,iq p.s1).2)).f:Int),.int .u64 ((iW ((iq p.s0,iq p.s1).2)).p:Int),.int .u64 ((iW ((iq p.s0,iq p.s1).2)).l:Int),.int .u64 ((iW ((iq p.s0,iq p.s1).2)).c:Int),.int .u64 ((iW ((iq p.s0,iq p.s1).2)).r:Int),J 100,J 200,J 5,J 16,J 1,J 1125899906842624,J 0,J 0,J 0,J 0,J 0,J 0,J ((p.op:Int)%2)]).toArray:=a8
 refine Nx (Rg (Yn 2 Z (Wa (.as (.add Z Z (by decide)) Z) Z (Wa (.iF [J 100,J 200,J 6,J 16,J 1,J (1125899906842624)] agh z65 Z Z) Z (Yn 1 Z (Yj 1 Z (W.jR Z Z ?_)))))))
 refine Ef.lY (rz 32 [J 0,J (20000+(p.am:Int)),.int .u64 ((iW ((iq p.s0,iq p.s1).1)).f:Int),.int .u64 ((iW ((iq p.s0,iq p.s1).1)).p:Int),.int .u64 ((iW ((iq p.s0,iq p.s1).1)).l:Int),.int .u64 ((iW ((iq p.s0,iq p.s1).1)).c:Int),.int .u64 ((iW ((iq p.s0,iq p.s1).1)).r:Int),.int .u64 ((iW ((iq p.s0,iq p.s1).2)).f:Int),.int .u64 ((iW ((iq p.s0,iq p.s1).2)).p:Int),.int .u64 ((iW ((iq p.s0,iq p.s1).2)).l:Int),.int .u64 ((iW ((iq p.s0,iq p.s1).2)).c:Int),.int .u64 ((iW ((iq p.s0,iq p.s1).2)).r:Int),J 100,J 200,J 5,J 16,J 1,J 1125899906842624,J 100,J 200,J 6,J 16,J 1,J 1125899906842624,J ((p.op:Int)%2)]) H6 (by rfl) Z Z a8 (by show 50+6<=57;decide) (by simp[Value.oneCell']) Z ?_
 intro cH aD t
 have aD:ik cH L 68 (rz 32 [J 0,J (20000+(p.am:Int)),.int .u64 ((iW ((iq p.s0,iq p.s1).1)).f:Int),.int .u64 ((iW ((iq p.s0,iq p.s1).1)).p:Int),.int .u64 ((iW ((iq p.s0,iq p.s1).1)).l:Int),.int .u64 ((iW ((iq p.s0,iq p.s1).1)).c:Int),.int .u64 ((iW ((iq p.s0,iq p.s1).1)).r:Int),.int .u64 ((iW ((iq p.s0,iq p.s1).2)).f:Int),.int .u64 ((iW ((iq p.s0,iq p.s1).2)).p:Int),.int .u64 ((iW ((iq p.s0,iq p.s1).2)).l:Int),.int .u64 ((iW ((iq p.s0,iq p.s1).2)).c:Int),.int .u64 ((iW ((iq p.s0,iq p.s1).2)).r:Int),J 100,J 200,J 5,J 16,J 1,J 1125899906842624,J 100,J 200,J 6,J 16,J 1,J 1125899906842624,J ((p.op:Int)%2)]).toArray:=aD
 have aa:=((((((ay.trans y).trans x).tb A ay aC).tb B ay aC).trans n).tb o ay aC).tb t ay aC
 refine W.nil (E.jD (E.iM (Rg (Yn 1 Z (Wa (.as (.add Z Z (by decide)) Z) Z (Yn 1 Z (W.nil (E.round (uo.step ?_)))))))))
 refine Sq (Sr (Yq 2 Z (show _=false from by first|decide|rfl) (Nx (Cf Z (Ex (Rr 1 Z ?_))))))
 have aE:L≠ax:=by have:=aB.lt;omega
 have ah:=((((((aB.le (y.trans x)).cn A aE).cn B aE).le n).cn o aE).cn t aE)
 refine Yk (.int .u16 (p.no:Int)) Z ah Z (Wr (.Tp (rG underlying27) underlying3 Z (IntWalk.i64_in _ (by omega))) Z (Yn 1 Z (Yk (.int .u8 (p.ra:Int)) Z ah Z (Wa (.LQ Z Z (by omega)) Z (Wr (.Tp (rG underlying5) underlying3 Z (IntWalk.i64_in _ (by omega))) Z (Wa (.iF [J (p.no:Int),J 0,J 0,.slice none 0 0,J ((p.ra:Int)%8)] agd z38 Z Z) Z (W.ab Z z38 Jm (wN Z) fun F cI ai (cJ:ik cI F 38 #[J (p.no:Int),J 0,J 0,.slice none 0 0,J ((p.ra:Int)%8)]) Q=>Nx (Rr 1 Z ?_))))))))
 have aF:=(ah.le Q)
 refine Yk (.int .u32 (p.ow:Int)) Z aF Z (Wr (.Tp (rG underlying25) underlying3 Z (IntWalk.i64_in _ (by omega))) Z (Yn 1 Z ?_))
 have bw:=(aD.le Q)
 refine Yk (J (20000+(p.am:Int))) Z bw Z (Yp Z (Wa (.rem Z Z (by omega)) Z (Yn 1 Z (Yi 0 Z (W.jR Z Z (Ef.store nC Z Z cJ (by first|decide|(simp;done)) Z ?_))))))
 intro cK aG O
 have aG:ik cK F 38 #[J (p.no:Int),J ((p.ow:Int)%((20000+(p.am:Int))+1)),J 0,.slice none 0 0,J ((p.ra:Int)%8)]:=aG
 refine Nx (Rr 1 Z ?_)
 have aj:F≠L:=by have:=aD.lt;omega
 have bx:=(bw.cn O aj)
 refine Yk (J (20000+(p.am:Int))) Z bx Z (Yn 1 Z (Yi 0 Z (Yk (J ((p.ow:Int)%((20000+(p.am:Int))+1))) Z aG Z (Yp Z (Yn 1 Z (Yi 1 Z (W.jR Z Z (Ef.store nC Z Z aG (by first|decide|(simp;done)) Z ?_))))))))
 intro bz ak P
 have ak:ik bz F 38 #[J (p.no:Int),J ((p.ow:Int)%((20000+(p.am:Int))+1)),J ((20000+(p.am:Int))-((p.ow:Int)%((20000+(p.am:Int))+1))),.slice none 0 0,J ((p.ra:Int)%8)]:=ak
 refine Nx (Sr ?_)
 have aH:=(bx.cn P aj)
 refine Yh Z aH (Yh Z ak (Yc Z (LP (AP p) hch (s:=FD p) bz co) fun dd I=>?_))
 have a9:=(((aa.trans Q).tb O aa ai).tb P aa ai).trans I
 refine Yx 1 Z (Sq (Rn 2 Z ?_))
 by_cases c1:lF (FD p).rt 0<=(FD p).h (AP p).op
 ·refine Cn Z (congrArg not (dT c1)) (Sn (Sq (Rn 1 Z (Bk (WC.rounds 1 (uo.step (Sq (Rr 2 Z ?_))))))))
  have bA:F≠ax:=by have:=ah.lt;omega
  refine Yk (.slice p.oa p.on p.oc) Z (((aF.cn O bA).cn P bA).le I) Z (Yf 2 Z (Yx 4 Z (Cf Z (Ex (Sq ?_)))))
  refine WC.Q0 (fun az w'=>Le w w'/\ik w' L 68 (rz 32 [J 0,J (20000+(p.am:Int)),.int .u64 ((iW ((iq p.s0,iq p.s1).1)).f:Int),.int .u64 ((iW ((iq p.s0,iq p.s1).1)).p:Int),.int .u64 ((iW ((iq p.s0,iq p.s1).1)).l:Int),.int .u64 ((iW ((iq p.s0,iq p.s1).1)).c:Int),.int .u64 ((iW ((iq p.s0,iq p.s1).1)).r:Int),.int .u64 ((iW ((iq p.s0,iq p.s1).2)).f:Int),.int .u64 ((iW ((iq p.s0,iq p.s1).2)).p:Int),.int .u64 ((iW ((iq p.s0,iq p.s1).2)).l:Int),.int .u64 ((iW ((iq p.s0,iq p.s1).2)).c:Int),.int .u64 ((iW ((iq p.s0,iq p.s1).2)).r:Int),J 100,J 200,J 5,J 16,J 1,J 1125899906842624,J 100,J 200,J 6,J 16,J 1,J 1125899906842624,J ((p.op:Int)%2)]).toArray/\ik w' N 105 (pG (iq p.s0,iq p.s1)).toArray/\ik w' F 38 #[J (p.no:Int),J ((p.ow:Int)%((20000+(p.am:Int))+1)),J ((20000+(p.am:Int))-((p.ow:Int)%((20000+(p.am:Int))+1))),.slice none 0 0,J ((p.ra:Int)%8)]) [0,1,2,3,4,5] mixed (by kernel_rfl) ?_
  intro az H
  have bB:=a9.trans H
  have bC:=(aH.le (I.trans H))
  have _:=n.size
  have _:=o.size
  have _:=t.size
  have bD:F≠N:=by have:=Y.lt;omega
  have bE:=(((((((Y.le n).cn o X).cn t X).le Q).cn O bD).cn P bD).le (I.trans H))
  have bF:=(ak.le (I.trans H))
  refine⟨⟨bB,bC,bE,bF⟩,?_⟩
  refine GS.rd Z Z (fun w' hs=> .jM NN (by rfl) Z hs.2.1) Z Z Z ?_
  refine GS.rd Z Z (fun w' hs=> .jM JW (by rfl) Z hs.2.2.1) Z Z Z ?_
  refine GS.rd Z Z (fun w' hs=> .jM NM (by rfl) Z hs.2.2.2) Z Z Z ?_
  have _:=u.lt
  have _:=C.size
  have _:=m.size
  have _:=d.size
  have _:=h_1.size
  have _:=e.size
  have aI:L≠R:=by omega
  have _:=y.size
  have _:=x.size
  have _:=A.size
  have _:=B.size
  have bG:F≠R:=by omega
  refine GS.jR Z Z Z Z (Ef.storeAll PY (by rfl) Z Z ((((((((((((u.le (C.trans (m.trans (d.trans h_1)))).cn e (by omega)).le (y.trans x)).cn A aI).cn B aI).le n).cn o aI).cn t aI).le Q).cn O bG).cn P bG).le (I.trans H)) (by rfl) (wN Z) ?_)
  intro cL ba al
  have ba:ik cL R 68 (rz 32 [J 0,J (20000+(p.am:Int)),.int .u64 ((iW ((iq p.s0,iq p.s1).1)).f:Int),.int .u64 ((iW ((iq p.s0,iq p.s1).1)).p:Int),.int .u64 ((iW ((iq p.s0,iq p.s1).1)).l:Int),.int .u64 ((iW ((iq p.s0,iq p.s1).1)).c:Int),.int .u64 ((iW ((iq p.s0,iq p.s1).1)).r:Int),.int .u64 ((iW ((iq p.s0,iq p.s1).2)).f:Int),.int .u64 ((iW ((iq p.s0,iq p.s1).2)).p:Int),.int .u64 ((iW ((iq p.s0,iq p.s1).2)).l:Int),.int .u64 ((iW ((iq p.s0,iq p.s1).2)).c:Int),.int .u64 ((iW ((iq p.s0,iq p.s1).2)).r:Int),J 100,J 200,J 5,J 16,J 1,J 1125899906842624,J 100,J 200,J 6,J 16,J 1,J 1125899906842624,J ((p.op:Int)%2)]).toArray:=ba
  have bH:=bB.tb al L1 a1
  have bI:=(bC.cn al (by omega))
  have bJ:=(bE.cn al (by omega))
  have bK:=(bF.cn al (by omega))
  refine⟨⟨bH,bI,bJ,bK⟩,?_⟩
  have _:=D.lt
  have aJ:L≠S:=by omega
  have bL:F≠S:=by omega
  have cM:=(((((((((((((D.le (m.trans (d.trans h_1))).cn e (by omega)).le (y.trans x)).cn A aJ).cn B aJ).le n).cn o aJ).cn t aJ).le Q).cn O bL).cn P bL).le (I.trans H)).cn al (by omega))
  refine GS.jR Z Z Z Z (Ef.storeAll Ru (by rfl) Z Z cM (by simp only[List.size_toArray,qx.len]) (qx.one (iq p.s0,iq p.s1)) ?_)
  intro cN bb an
  have bb:ik cN S 105 (pG (iq p.s0,iq p.s1)).toArray:=bb
  have bM:=bH.tb an L2 a2
  have bN:=(bI.cn an (by omega))
  have bO:=(bJ.cn an (by omega))
  have bP:=(bK.cn an (by omega))
  refine⟨⟨bM,bN,bO,bP⟩,?_⟩
  have _:=K.lt
  have aK:L≠U:=by omega
  have bQ:F≠U:=by omega
  refine GS.jR Z Z Z Z (Ef.storeAll Jm (by rfl) Z Z ((((((((((((((K.le (d.trans h_1)).cn e (by omega)).le (y.trans x)).cn A aK).cn B aK).le n).cn o aK).cn t aK).le Q).cn O bQ).cn P bQ).le (I.trans H)).cn al (by omega)).cn an (by omega)) (by rfl) (wN Z) ?_)
  intro cO bc ao
  have bc:ik cO U 38 #[J (p.no:Int),J ((p.ow:Int)%((20000+(p.am:Int))+1)),J ((20000+(p.am:Int))-((p.ow:Int)%((20000+(p.am:Int))+1))),.slice none 0 0,J ((p.ra:Int)%8)]:=bc
  have bR:=bM.tb ao L3 a3
  refine⟨⟨bR,(bN.cn ao (by omega)),(bO.cn ao (by omega)),(bP.cn ao (by omega))⟩,?_⟩
  refine GS.nil (E.iM (Rt (E.V9 Z (lV Z ((ba.cn an (by omega)).cn ao (by omega)) NN (by rfl)) (lV Z (bb.cn ao (by omega)) JW (by rfl)) (lV Z bc NM (by rfl)) ?_)))
  exact⟨by unfold wD;rw[if_pos (by assumption)];rfl,bR⟩
 refine Cy Z (congrArg not (dF c1)) (Sr ?_)
 by_cases de:(p.op:Int)%2=0
 ·refine Yn 1 Z ?_
  have bd:=(aH.le I)
  refine Yk (J ((p.op:Int)%2)) Z bd Z (Yn 1 Z (Yk (J (20000+(p.am:Int))) Z bd Z (Yn 1 Z (Yi 0 Z (W.jR Z Z (Ef.store nC Z Z (ak.le I) (by first|decide|(simp;done)) Z ?_))))))
  intro cP be ac
  have be:ik cP F 38 #[J (p.no:Int),J (20000+(p.am:Int)),J ((20000+(p.am:Int))-((p.ow:Int)%((20000+(p.am:Int))+1))),.slice none 0 0,J ((p.ra:Int)%8)]:=be
  refine Nx (Rg (Yn 1 Z ?_))
  have bS:=(bd.cn ac aj)
  refine Yk (J ((p.op:Int)%2)) Z bS Z (Yp Z (Yn 1 Z (Yi 1 Z (W.jR Z Z (Ef.store nC Z Z be (by first|decide|(simp;done)) Z ?_)))))
  intro cQ bf ad
  have bf:ik cQ F 38 #[J (p.no:Int),J (20000+(p.am:Int)),J 0,.slice none 0 0,J ((p.ra:Int)%8)]:=bf
  refine Nx (Sq (Rn 1 Z (Bk (WC.rounds 1 (uo.step (Sq (Rr 2 Z ?_)))))))
  have aL:F≠ax:=by have:=ah.lt;omega
  refine Yk (.slice p.oa p.on p.oc) Z (((((aF.cn O aL).cn P aL).le I).cn ac aL).cn ad aL) Z (Yf 2 Z (Yx 4 Z (Cf Z (Ex (Sq ?_)))))
  refine WC.Q0 (fun az w'=>Le w w'/\ik w' L 68 (rz 32 [J 0,J (20000+(p.am:Int)),.int .u64 ((iW ((iq p.s0,iq p.s1).1)).f:Int),.int .u64 ((iW ((iq p.s0,iq p.s1).1)).p:Int),.int .u64 ((iW ((iq p.s0,iq p.s1).1)).l:Int),.int .u64 ((iW ((iq p.s0,iq p.s1).1)).c:Int),.int .u64 ((iW ((iq p.s0,iq p.s1).1)).r:Int),.int .u64 ((iW ((iq p.s0,iq p.s1).2)).f:Int),.int .u64 ((iW ((iq p.s0,iq p.s1).2)).p:Int),.int .u64 ((iW ((iq p.s0,iq p.s1).2)).l:Int),.int .u64 ((iW ((iq p.s0,iq p.s1).2)).c:Int),.int .u64 ((iW ((iq p.s0,iq p.s1).2)).r:Int),J 100,J 200,J 5,J 16,J 1,J 1125899906842624,J 100,J 200,J 6,J 16,J 1,J 1125899906842624,J ((p.op:Int)%2)]).toArray/\ik w' N 105 (pG (iq p.s0,iq p.s1)).toArray/\ik w' F 38 #[J (p.no:Int),J (20000+(p.am:Int)),J 0,.slice none 0 0,J ((p.ra:Int)%8)]) [0,1,2,3,4,5] mixed (by kernel_rfl) ?_
  intro az H
  have bT:=((a9.tb ac aa ai).tb ad aa ai).trans H
  have bU:=((bS.cn ad aj).le H)
  have _:=n.size
  have _:=o.size
  have _:=t.size
  have aM:F≠N:=by have:=Y.lt;omega
  have bV:=((((((((((Y.le n).cn o X).cn t X).le Q).cn O aM).cn P aM).le I).cn ac aM).cn ad aM).le H)
  have bW:=(bf.le H)
  refine⟨⟨bT,bU,bV,bW⟩,?_⟩
  refine GS.rd Z Z (fun w' hs=> .jM NN (by rfl) Z hs.2.1) Z Z Z ?_
  refine GS.rd Z Z (fun w' hs=> .jM JW (by rfl) Z hs.2.2.1) Z Z Z ?_
  refine GS.rd Z Z (fun w' hs=> .jM NM (by rfl) Z hs.2.2.2) Z Z Z ?_
  have _:=u.lt
  have _:=C.size
  have _:=m.size
  have _:=d.size
  have _:=h_1.size
  have _:=e.size
  have aN:L≠R:=by omega
  have _:=y.size
  have _:=x.size
  have _:=A.size
  have _:=B.size
  have aO:F≠R:=by omega
  refine GS.jR Z Z Z Z (Ef.storeAll PY (by rfl) Z Z (((((((((((((((u.le (C.trans (m.trans (d.trans h_1)))).cn e (by omega)).le (y.trans x)).cn A aN).cn B aN).le n).cn o aN).cn t aN).le Q).cn O aO).cn P aO).le I).cn ac aO).cn ad aO).le H) (by rfl) (wN Z) ?_)
  intro cR bg ap
  have bg:ik cR R 68 (rz 32 [J 0,J (20000+(p.am:Int)),.int .u64 ((iW ((iq p.s0,iq p.s1).1)).f:Int),.int .u64 ((iW ((iq p.s0,iq p.s1).1)).p:Int),.int .u64 ((iW ((iq p.s0,iq p.s1).1)).l:Int),.int .u64 ((iW ((iq p.s0,iq p.s1).1)).c:Int),.int .u64 ((iW ((iq p.s0,iq p.s1).1)).r:Int),.int .u64 ((iW ((iq p.s0,iq p.s1).2)).f:Int),.int .u64 ((iW ((iq p.s0,iq p.s1).2)).p:Int),.int .u64 ((iW ((iq p.s0,iq p.s1).2)).l:Int),.int .u64 ((iW ((iq p.s0,iq p.s1).2)).c:Int),.int .u64 ((iW ((iq p.s0,iq p.s1).2)).r:Int),J 100,J 200,J 5,J 16,J 1,J 1125899906842624,J 100,J 200,J 6,J 16,J 1,J 1125899906842624,J ((p.op:Int)%2)]).toArray:=bg
  have bX:=bT.tb ap L1 a1
  have bY:=(bU.cn ap (by omega))
  have bZ:=(bV.cn ap (by omega))
  have b0:=(bW.cn ap (by omega))
  refine⟨⟨bX,bY,bZ,b0⟩,?_⟩
  have _:=D.lt
  have aP:L≠S:=by omega
  have aQ:F≠S:=by omega
  have cS:=((((((((((((((((D.le (m.trans (d.trans h_1))).cn e (by omega)).le (y.trans x)).cn A aP).cn B aP).le n).cn o aP).cn t aP).le Q).cn O aQ).cn P aQ).le I).cn ac aQ).cn ad aQ).le H).cn ap (by omega))
  refine GS.jR Z Z Z Z (Ef.storeAll Ru (by rfl) Z Z cS (by simp only[List.size_toArray,qx.len]) (qx.one (iq p.s0,iq p.s1)) ?_)
  intro cT bh aq
  have bh:ik cT S 105 (pG (iq p.s0,iq p.s1)).toArray:=bh
  have b1:=bX.tb aq L2 a2
  have b2:=(bY.cn aq (by omega))
  have b3:=(bZ.cn aq (by omega))
  have b4:=(b0.cn aq (by omega))
  refine⟨⟨b1,b2,b3,b4⟩,?_⟩
  have _:=K.lt
  have aR:L≠U:=by omega
  have aS:F≠U:=by omega
  refine GS.jR Z Z Z Z (Ef.storeAll Jm (by rfl) Z Z (((((((((((((((((K.le (d.trans h_1)).cn e (by omega)).le (y.trans x)).cn A aR).cn B aR).le n).cn o aR).cn t aR).le Q).cn O aS).cn P aS).le I).cn ac aS).cn ad aS).le H).cn ap (by omega)).cn aq (by omega)) (by rfl) (wN Z) ?_)
  intro cU bi ar
  have bi:ik cU U 38 #[J (p.no:Int),J (20000+(p.am:Int)),J 0,.slice none 0 0,J ((p.ra:Int)%8)]:=bi
  have b5:=b1.tb ar L3 a3
  refine⟨⟨b5,(b2.cn ar (by omega)),(b3.cn ar (by omega)),(b4.cn ar (by omega))⟩,?_⟩
  refine GS.nil (E.iM (Rt (E.V9 Z (lV Z ((bg.cn aq (by omega)).cn ar (by omega)) NN (by rfl)) (lV Z (bh.cn ar (by omega)) JW (by rfl)) (lV Z bi NM (by rfl)) ?_)))
  exact⟨by unfold wD;rw[if_neg (by assumption),if_pos (by assumption)];rfl,b5⟩
 refine Yn 1 Z ?_
 have bj:=(aH.le I)
 refine Yk (J ((p.op:Int)%2)) Z bj Z (Yn 1 Z (Yk (J (20000+(p.am:Int))) Z bj Z (Yn 1 Z (Yi 1 Z (W.jR Z Z (Ef.store nC Z Z (ak.le I) (by first|decide|(simp;done)) Z ?_))))))
 intro cV bk ae
 have bk:ik cV F 38 #[J (p.no:Int),J ((p.ow:Int)%((20000+(p.am:Int))+1)),J (20000+(p.am:Int)),.slice none 0 0,J ((p.ra:Int)%8)]:=bk
 refine Nx (Rg (Yn 1 Z ?_))
 have b6:=(bj.cn ae aj)
 refine Yk (J ((p.op:Int)%2)) Z b6 Z (Yp Z (Yn 1 Z (Yi 0 Z (W.jR Z Z (Ef.store nC Z Z bk (by first|decide|(simp;done)) Z ?_)))))
 intro cW bl af
 have bl:ik cW F 38 #[J (p.no:Int),J 0,J (20000+(p.am:Int)),.slice none 0 0,J ((p.ra:Int)%8)]:=bl
 refine Nx (Sq (Rn 1 Z (Bk (WC.rounds 1 (uo.step (Sq (Rr 2 Z ?_)))))))
 have aT:F≠ax:=by have:=ah.lt;omega
 refine Yk (.slice p.oa p.on p.oc) Z (((((aF.cn O aT).cn P aT).le I).cn ae aT).cn af aT) Z (Yf 2 Z (Yx 4 Z (Cf Z (Ex (Sq ?_)))))
 refine WC.Q0 (fun az w'=>Le w w'/\ik w' L 68 (rz 32 [J 0,J (20000+(p.am:Int)),.int .u64 ((iW ((iq p.s0,iq p.s1).1)).f:Int),.int .u64 ((iW ((iq p.s0,iq p.s1).1)).p:Int),.int .u64 ((iW ((iq p.s0,iq p.s1).1)).l:Int),.int .u64 ((iW ((iq p.s0,iq p.s1).1)).c:Int),.int .u64 ((iW ((iq p.s0,iq p.s1).1)).r:Int),.int .u64 ((iW ((iq p.s0,iq p.s1).2)).f:Int),.int .u64 ((iW ((iq p.s0,iq p.s1).2)).p:Int),.int .u64 ((iW ((iq p.s0,iq p.s1).2)).l:Int),.int .u64 ((iW ((iq p.s0,iq p.s1).2)).c:Int),.int .u64 ((iW ((iq p.s0,iq p.s1).2)).r:Int),J 100,J 200,J 5,J 16,J 1,J 1125899906842624,J 100,J 200,J 6,J 16,J 1,J 1125899906842624,J ((p.op:Int)%2)]).toArray/\ik w' N 105 (pG (iq p.s0,iq p.s1)).toArray/\ik w' F 38 #[J (p.no:Int),J 0,J (20000+(p.am:Int)),.slice none 0 0,J ((p.ra:Int)%8)]) [0,1,2,3,4,5] mixed (by kernel_rfl) ?_
 intro az H
 have b7:=((a9.tb ae aa ai).tb af aa ai).trans H
 have b8:=((b6.cn af aj).le H)
 have _:=n.size
 have _:=o.size
 have _:=t.size
 have aU:F≠N:=by have:=Y.lt;omega
 have b9:=((((((((((Y.le n).cn o X).cn t X).le Q).cn O aU).cn P aU).le I).cn ae aU).cn af aU).le H)
 have ca:=(bl.le H)
 refine⟨⟨b7,b8,b9,ca⟩,?_⟩
 refine GS.rd Z Z (fun w' hs=> .jM NN (by rfl) Z hs.2.1) Z Z Z ?_
 refine GS.rd Z Z (fun w' hs=> .jM JW (by rfl) Z hs.2.2.1) Z Z Z ?_
 refine GS.rd Z Z (fun w' hs=> .jM NM (by rfl) Z hs.2.2.2) Z Z Z ?_
 have _:=u.lt
 have _:=C.size
 have _:=m.size
 have _:=d.size
 have _:=h_1.size
 have _:=e.size
 have aV:L≠R:=by omega
 have _:=y.size
 have _:=x.size
 have _:=A.size
 have _:=B.size
 have aW:F≠R:=by omega
 refine GS.jR Z Z Z Z (Ef.storeAll PY (by rfl) Z Z (((((((((((((((u.le (C.trans (m.trans (d.trans h_1)))).cn e (by omega)).le (y.trans x)).cn A aV).cn B aV).le n).cn o aV).cn t aV).le Q).cn O aW).cn P aW).le I).cn ae aW).cn af aW).le H) (by rfl) (wN Z) ?_)
 intro cX bm au
 have bm:ik cX R 68 (rz 32 [J 0,J (20000+(p.am:Int)),.int .u64 ((iW ((iq p.s0,iq p.s1).1)).f:Int),.int .u64 ((iW ((iq p.s0,iq p.s1).1)).p:Int),.int .u64 ((iW ((iq p.s0,iq p.s1).1)).l:Int),.int .u64 ((iW ((iq p.s0,iq p.s1).1)).c:Int),.int .u64 ((iW ((iq p.s0,iq p.s1).1)).r:Int),.int .u64 ((iW ((iq p.s0,iq p.s1).2)).f:Int),.int .u64 ((iW ((iq p.s0,iq p.s1).2)).p:Int),.int .u64 ((iW ((iq p.s0,iq p.s1).2)).l:Int),.int .u64 ((iW ((iq p.s0,iq p.s1).2)).c:Int),.int .u64 ((iW ((iq p.s0,iq p.s1).2)).r:Int),J 100,J 200,J 5,J 16,J 1,J 1125899906842624,J 100,J 200,J 6,J 16,J 1,J 1125899906842624,J ((p.op:Int)%2)]).toArray:=bm
 have cc:=b7.tb au L1 a1
 have cd:=(b8.cn au (by omega))
 have ce:=(b9.cn au (by omega))
 have cf:=(ca.cn au (by omega))
 refine⟨⟨cc,cd,ce,cf⟩,?_⟩
 have _:=D.lt
 have aX:L≠S:=by omega
 have aY:F≠S:=by omega
 have cY:=((((((((((((((((D.le (m.trans (d.trans h_1))).cn e (by omega)).le (y.trans x)).cn A aX).cn B aX).le n).cn o aX).cn t aX).le Q).cn O aY).cn P aY).le I).cn ae aY).cn af aY).le H).cn au (by omega))
 refine GS.jR Z Z Z Z (Ef.storeAll Ru (by rfl) Z Z cY (by simp only[List.size_toArray,qx.len]) (qx.one (iq p.s0,iq p.s1)) ?_)
 intro cZ bn av
 have bn:ik cZ S 105 (pG (iq p.s0,iq p.s1)).toArray:=bn
 have cg:=cc.tb av L2 a2
 have ci:=(cd.cn av (by omega))
 have cj:=(ce.cn av (by omega))
 have ck:=(cf.cn av (by omega))
 refine⟨⟨cg,ci,cj,ck⟩,?_⟩
 have _:=K.lt
 have aZ:L≠U:=by omega
 have a0:F≠U:=by omega
 refine GS.jR Z Z Z Z (Ef.storeAll Jm (by rfl) Z Z (((((((((((((((((K.le (d.trans h_1)).cn e (by omega)).le (y.trans x)).cn A aZ).cn B aZ).le n).cn o aZ).cn t aZ).le Q).cn O a0).cn P a0).le I).cn ae a0).cn af a0).le H).cn au (by omega)).cn av (by omega)) (by rfl) (wN Z) ?_)
 intro c0 bo aw
 have bo:ik c0 U 38 #[J (p.no:Int),J 0,J (20000+(p.am:Int)),.slice none 0 0,J ((p.ra:Int)%8)]:=bo
 have cm:=cg.tb aw L3 a3
 refine⟨⟨cm,(ci.cn aw (by omega)),(cj.cn aw (by omega)),(ck.cn aw (by omega))⟩,?_⟩
 refine GS.nil (E.iM (Rt (E.V9 Z (lV Z ((bm.cn av (by omega)).cn aw (by omega)) NN (by rfl)) (lV Z (bn.cn aw (by omega)) JW (by rfl)) (lV Z bo NM (by rfl)) ?_)))
 exact⟨by unfold wD;rw[if_neg (by assumption),if_neg (by assumption)];rfl,cm⟩
end Go.Proofs.YtkpmaajniagncaaGreatDoor
namespace Go.Sx
section
variable {P:Program}{env:Env}{n:Nat}{d:Option Nat}{T:TypeId}{p:String}{af:Array Edge}{g:Option (Nat×Bool)}{t ty:TypeId}{x y:Operand}{i j:Int}
theorem Any.adO {k':IntKind}(a m c:Nat)(hx:ev env x=some (J i))(hi:i=(a:Int))(hy:ev env y=some (.int k' j))(hj:j=(m:Int))(hm:m<=64)(h:a*2^m=c)(hc:c<9223372036854775808):
  Any P env n ⟨d,.binOp .shl t x y ty,T,p,af,g⟩ (J (c:Int)):= .int hx hy fun w=>by
 subst hi hj h
 have f:¬((m:Int)<0):=by omega
 have k:min m IntKind.i64.bits=m:=Nat.min_eq_left hm
 have e:IntKind.i64.wrap ((a:Int)*2^m)=((a*2^m:Nat):Int):=by
  have e1:((a:Int)*2^m)=((a*2^m:Nat):Int):=by rw[Int.natCast_mul,Int.natCast_pow];rfl
  rw[e1];exact IntWalk.i64_in _ (by omega)
 simp only[binOp,Op.shift]
 rw[if_neg f]
 simp only[Int.toNat_natCast,k,e]
 rfl
theorem Any.orI (a b:Nat)(hx:ev env x=some (J i))(hi:i=(a:Int))(hy:ev env y=some (J j))(hj:j=(b:Int))(ha:a<9223372036854775808)(hb:b<9223372036854775808):
  Any P env n ⟨d,.binOp .or t x y ty,T,p,af,g⟩ (J ((a|||b:Nat):Int)):= .int hx hy fun w=>by
 subst hi hj
 have hlt:a|||b<2^63:=Nat.or_lt_two_pow (by omega) (by omega)
 have h:IntKind.i64.wrap ((BitVec.ofInt 64 (a:Int)|||BitVec.ofInt 64 (b:Int)).toNat:Int)=((a|||b:Nat):Int):=by
  rw[BitVec.toNat_or,ou a (by omega),ou b (by omega)];exact IntWalk.i64_in _ (by omega)
 simp only[binOp,Op.intBits,IntKind.bits,ne_eq,not_true_eq_false,if_false]
 exact congrArg (fun i=>Result.ok (Value.int .i64 i) w) h
end
end Go.Sx
namespace Go.Proofs.YtkpmaajniagncaaGreatDoor
open Tryz
open Go Go.Sx Go.Fv Go.Num Go.KJ Go.Gz Go.Lsp Go.JQ Go.yA
set_option maxRecDepth 20000
variable {k:Nat}
theorem LV {a:Nat}(ha:a<128)(hk:k<=8):a*2^(7*k)<9223372036854775808:=by
 have h:2^(7*k)<=2^56:=Nat.pow_le_pow_right (by decide) (by omega)
 have:a*2^(7*k)<=127*2^56:=Nat.mul_le_mul (by omega) h
 omega
theorem acO {a b:Nat}(ha:a<9223372036854775808)(hb:b<9223372036854775808):a|||b<9223372036854775808:=Nat.or_lt_two_pow (n:=63) ha hb
def u6 (xs:List (BitVec 8))(n k:Nat):Bool:=decide (n<=k)||decide (8<k)||(decide (0<k)&&decide ((xs.getD k 0).toNat=0))
structure X3 (A:Option Addr)(n:Nat)(xs:List (BitVec 8))(no:Bool)(A':Option Addr)(n' c':Nat)(xs':List (BitVec 8))(no':Bool):Prop where
 cap:n'<=c'
 len:n'<=n
 blk:0<n'->lN A'=lN A
 nop:no=true->no'=true
 sub:∀w:World,Vec w jv 1 A n xs->Vec w jv 1 A' n' xs'
structure RdN (A:Option Addr)(n:Nat)(xs:List (BitVec 8))(no:Bool)(v:Nat)(A':Option Addr)(n' c':Nat)(xs':List (BitVec 8))(no':Bool):Prop where
 aih:v<9223372036854775808
 b:X3 A n xs no A' n' c' xs' no'
 nil:n=0->no'=true
 one:∀d t,xs=d::t->d.toNat<128->v=d.toNat/\xs'=t/\no'=no
structure RdT (A:Option Addr)(n:Nat)(xs:List (BitVec 8))(no:Bool)(m:Nat)(ys:List (BitVec 8))(A':Option Addr)(n' c':Nat)(xs':List (BitVec 8))(no':Bool):Prop where
 yl:ys.length<=n
 ym:ys.length<=m
 b:X3 A n xs no A' n' c' xs' no'
 ok:no=false->m<=n->xs'=xs.drop m/\no'=false/\ys=xs.take m
section
variable {A A' A'':Option Addr}{n n' c' n'' c'' g:Nat}{xs xs' agA:List (BitVec 8)}{no no' agC:Bool}
theorem X3.trans (h:X3 A n xs no A' n' c' xs' no')(k:X3 A' n' xs' no' A'' n'' c'' agA agC):X3 A n xs no A'' n'' c'' agA agC:=
 ⟨k.1,Nat.le_trans k.2 h.2,fun c=>(k.3 c).trans (h.3 (by have:=k.2;omega)),fun e=>k.4 (h.4 e),fun w hV=>k.5 w (h.5 w hV)⟩
theorem X3.none (h:X3 A n xs no A' n' c' xs' no'):True:=trivial
theorem IC:X3 A n xs no none 0 0 [] true:=⟨Nat.le_refl _,Nat.zero_le _,fun h=>absurd h (by decide),fun _=>rfl,fun _ _=>Vec.nil _ _ _ _⟩
theorem Sj {c:Nat}(hc:n<=c)(hk:k<=n):X3 A n xs no (mZ A c k 1) (n-k) (c-k) (xs.drop k) no:=⟨by omega,by omega,fun _=>GQ _ _ _ _,id,fun w hV=>hV.uP c k hk hc kE⟩
end
variable {A:Option Addr}{n:Nat}{xs:List (BitVec 8)}{no:Bool}
theorem X4 (hl:xs.length=n)(hk:0<k->128<=(xs.getD 0 0).toNat)(h:u6 xs n k=true):RdN A n xs no 0 none 0 0 [] true:=by
 refine⟨by decide,IC,fun _=>rfl,?_⟩
 intro d t hx hd
 subst hx
 rcases Nat.eq_zero_or_pos k with hz|hp
 ·subst hz
  unfold u6 at h
  simp at hl h
  omega
 ·have:=hk hp
  simp at this
  omega
variable {c:Nat}
theorem adP {v:Nat}(hl:xs.length=n)(hc:n<=c)(hv:v<9223372036854775808)(hz:k=0->v=0)(hk:0<k->128<=(xs.getD 0 0).toNat)(h:¬u6 xs n k=true)(hd:(xs.getD k 0).toNat<128):
  RdN A n xs no (v|||(xs.getD k 0).toNat%128*2^(7*k)) (mZ A c (k+1) 1) (n-(k+1)) (c-(k+1)) (xs.drop (k+1)) no:=by
 have e:k<=8/\k<n:=by
  unfold u6 at h
  simp only[Bool.or_eq_true,Bool.and_eq_true,decide_eq_true_eq,not_or]at h
  omega
 refine⟨acO hv (LV (Nat.mod_lt _ (by decide)) e.1),Sj hc (by omega),fun h=>by omega,?_⟩
 intro d t hx hdd
 rcases Nat.eq_zero_or_pos k with f|hp
 ·subst f
  have i:=hz Z
  subst i hx
  refine⟨?_,rfl,rfl⟩
  simp
  omega
 ·have:=hk hp
  subst hx
  simp at this
  omega
variable {Aq:Option Addr}{cq:Nat}
theorem Kl (w:World)(hO:Vec w jv 1 Aq n xs)(hn:n<=1000000):Calls prog 185 #[.slice Aq n cq] w fun r w'=>∃(A:Option Addr) (c:Nat),r= .returned (.slice A n c)/\iy w' w.heap.size 5 jv 1 A n c xs/\Le w w':=by
 refine En func185 Z ?_
 have d:=Le.refl w
 refine Rn 1 Z (Sq (Rr 1 Z (Wa (.isNil underlying78 Z) Z (Nx ?_))))
 by_cases e:Aq.isNone=true
 ·refine Cy Z e (Rn 1 Z (Rt (E.il (E.iC Z Z ?_))))
  have k:n=0:=(by rcases Nat.eq_zero_or_pos n with h|h;exact h;have:=hO.isSome kE h;rw[Option.isNone_iff_eq_none]at e;rw[e]at this;cases this);subst k;have hx:=List.length_eq_zero_iff.1 hO.1;subst hx;exact⟨none,0,rfl,iy.nil _ _ _ _ _ _,d⟩
 refine Cn Z (Bool.eq_false_iff.2 e) (Sn (Sr (W.ef Z Z Z (Ef.oz underlying78 xD fun l m v x f=>?_))))
 have i:=d.trans f
 have j:iy m w.heap.size 5 jv 1 (some ⟨l,0,none⟩) 0 0 []:=iy.nil _ _ _ _ _ _
 refine Yn 1 Z (W.ef Z Z Z (Ef.adb underlying78 xD underlying78 kE Z j Z (hO.le i) (by omega) (by unfold maxLen;omega) (by have:=f.size;omega) ?_))
 intro o s y t u B
 refine Yy 1 Z Z Z ?_
 exact⟨o,s,by rw[Nat.zero_add],(by simpa using(t.mono d.size)),(i.ja u (fun q hq=>Nat.le_trans d.size (j.row hq).1))⟩
theorem UO {xs:List Nat}(w:World)(hO:Vec w su 1 Aq n xs)(hn:n<=1000000):Calls prog 167 #[.slice Aq n cq] w fun r w'=>∃(A:Option Addr) (c:Nat),r= .returned (.slice A n c)/\iy w' w.heap.size 60 su 1 A n c xs/\Le w w':=by
 refine En func167 Z ?_
 have d:=Le.refl w
 refine Rn 1 Z (Sq (Rr 1 Z (Wa (.isNil underlying187 Z) Z (Nx ?_))))
 by_cases e:Aq.isNone=true
 ·refine Cy Z e (Rn 1 Z (Rt (E.il (E.iC Z Z ?_))))
  have k:n=0:=(by rcases Nat.eq_zero_or_pos n with h|h;exact h;have:=hO.isSome iT h;rw[Option.isNone_iff_eq_none]at e;rw[e]at this;cases this);subst k;have hx:=List.length_eq_zero_iff.1 hO.1;subst hx;exact⟨none,0,rfl,iy.nil _ _ _ _ _ _,d⟩
 refine Cn Z (Bool.eq_false_iff.2 e) (Sn (Sr (W.ef Z Z Z (Ef.oz underlying187 wy fun l m v x f=>?_))))
 have i:=d.trans f
 have j:iy m w.heap.size 60 su 1 (some ⟨l,0,none⟩) 0 0 []:=iy.nil _ _ _ _ _ _
 refine Yn 1 Z (W.ef Z Z Z (Ef.adb underlying187 wy underlying187 iT Z j Z (hO.le i) (by omega) (by unfold maxLen;omega) (by have:=f.size;omega) ?_))
 intro o s y t u B
 refine Yy 1 Z Z Z ?_
 exact⟨o,s,by rw[Nat.zero_add],(by simpa using(t.mono d.size)),(i.ja u (fun q hq=>Nat.le_trans d.size (j.row hq).1))⟩
theorem IE {g:Nat}(w:World)(hb:ik w g 336 #[.slice A n c,.bool no]):Calls prog 248 #[.pointer (some ⟨g,0,none⟩)] w fun r w'=>r= .returned (.tuple #[])/\ik w' g 336 #[.slice none 0 0,.bool true]/\iX w w' (fun k=>k=g):=by
 refine En func248 Z ?_
 have l:=iX.refl w (fun k=>k=g)
 refine Rg (Yn 4 Z (W.jR Z Z (Ef.store H7 Z Z hb (by first|decide|(simp;done)) Z ?_)))
 intro f d m
 have d:ik f g 336 #[.slice none 0 0,.bool (no)]:=d
 have o:iX w f (fun k=>k=g):=l.ch m (fun i hi _=>by cases hi;exact Z)
 refine Yn 2 Z (W.jR Z Z (Ef.store sz4 Z Z d (by first|decide|(simp;done)) Z ?_))
 intro j e s
 have e:ik j g 336 #[.slice none 0 0,.bool true]:=e
 have t:iX w j (fun k=>k=g):=o.ch s (fun i hi _=>by cases hi;exact Z)
 refine W.nil (E.end_ (E.Pt Z ?_))
 exact⟨rfl,e,t⟩
theorem UQ {ga gb:Nat}{g:Nat}(w:World)(ha:ik w ga 3 #[J (k:Int)])(hB:ik w gb 328 #[.pointer (some ⟨g,0,none⟩)])(hb:ik w g 336 #[.slice A n c,.bool no])(hV:Vec w jv 1 A n xs)(hn:n<=100000)(hk:k<=100000):Calls prog 247 #[.pointer (some ⟨ga,0,none⟩),.pointer (some ⟨gb,0,none⟩)] w fun r w'=>r= .returned (.bool (u6 xs n k))/\Le w w':=by
 have hl:=hV.1
 refine En func247 Z (WC.sr (Yn 1 Z (W.nx (WC.seq (WC.draw [0,1,2,3,4,5,6,7,8,9,10,11,12,13,14,15,16,17,18,19,20,21,22,23,24,25] mixed (by kernel_rfl) fun l j=>?_)))))
 have d:=(Le.refl w).trans j
 refine Xk (J (k:Int)) Z (ha.le d) Z (Xk (.pointer (some ⟨g,0,none⟩)) Z (hB.le d) Z (Xn 2 Z (Xk (.slice A n c) Z (hb.le d) Z (Xn 2 Z ?_))))
 by_cases e:(n:Int)<=(k:Int)
 ·refine Xq 1 Z (decide_eq_true e) (Xn 7 Z (G.mh Z Z Z Z Z Z (G.mh Z Z Z Z Z Z (G.mh Z Z Z Z Z Z (G.mh Z Z Z Z Z Z (G.mh Z Z Z Z Z Z (G.mh Z Z Z Z Z Z (G.mh Z Z Z Z Z Z (G.mh Z Z Z Z Z Z ?_)))))))))
  refine Xx 3 Z (WC.ret (E.iC Z Z ?_))
  exact⟨rB (by unfold u6;rw[Bool.eq_iff_iff];simp only[Bool.or_eq_true,Bool.and_eq_true,decide_eq_true_eq,Bool.false_eq_true,false_iff,true_iff];omega),d⟩
 refine Xq 1 Z (decide_eq_false e) (Xk (J (k:Int)) Z (ha.le d) Z (Xn 2 Z ?_))
 by_cases f:8<(k:Int)
 ·refine Xq 1 Z (decide_eq_true f) (Xn 3 Z (G.mh Z Z Z Z Z Z (G.mh Z Z Z Z Z Z (G.mh Z Z Z Z Z Z (G.mh Z Z Z Z Z Z (G.mh Z Z Z Z Z Z (G.mh Z Z Z Z Z Z (G.mh Z Z Z Z Z Z (G.mh Z Z Z Z Z Z ?_)))))))))
  refine Xx 3 Z (WC.ret (E.iC Z Z ?_))
  exact⟨rB (by unfold u6;rw[Bool.eq_iff_iff];simp only[Bool.or_eq_true,Bool.and_eq_true,decide_eq_true_eq,Bool.false_eq_true,false_iff,true_iff];omega),d⟩
 refine Xq 1 Z (decide_eq_false f) (Xk (J (k:Int)) Z (ha.le d) Z (Xn 1 Z ?_))
 by_cases i:0<(k:Int)
 ·refine Xq 1 Z (decide_eq_true i) (Xk (.pointer (some ⟨g,0,none⟩)) Z (hB.le d) Z (Xn 2 Z (Xk (.slice A n c) Z (hb.le d) Z (Xk (J (k:Int)) Z (ha.le d) Z (Xs k Z (hV.isSome kE (by omega)) (Gdg Z (.o9 (v:=jf (xs.getD k (0:BitVec 8))) Vs Z (hV.le d) kE (jN xs (0:BitVec 8) (by first|omega|(simp only[List.length_cons,List.length_nil];omega))) Z) (Xn 1 Z (F7 Z (.BJ Z Z Z) (Xx 2 Z ?_)))))))))
  refine WC.ret (E.iC Z Z ?_)
  exact⟨rB (by unfold u6;rw[Bool.eq_iff_iff];simp only[Bool.or_eq_true,Bool.and_eq_true,decide_eq_true_eq];omega),d⟩
 refine Xq 1 Z (decide_eq_false i) (Xn 8 Z (F7 Z (.AU Z Z Z) (Xx 2 Z (WC.ret (E.iC Z Z ?_)))))
 exact⟨rB (by unfold u6;rw[Bool.eq_iff_iff];simp only[Bool.or_eq_true,Bool.and_eq_true,decide_eq_true_eq,Bool.false_eq_true,false_iff,true_iff];omega),d⟩
theorem abb {g:Nat}(w:World)(hb:ik w g 336 #[.slice A n c,.bool no])(hV:Vec w jv 1 A n xs)(hc:n<=c)(hn:n<=100000)(hne:0<n->lN A≠some g):Calls prog 236 #[.pointer (some ⟨g,0,none⟩)] w fun r w'=>∃v A' n' c' xs' no',r= .returned (J ((v:Nat):Int))/\ik w' g 336 #[.slice A' n' c',.bool no']/\RdN A n xs no v A' n' c' xs' no'/\iX w w' (fun k=>k=g):=by
 have hl:=hV.1
 have hnq:∀q,lN A=some q->0<n->q<w.heap.size->¬(fun k=>k=g) q:=fun q h0 h1 _ he=>hne h1 (by rw[h0];exact congrArg some he)
 refine En func236 Z (Sr (W.ef Z Z Z (Ef.box Z fun l af aw (Q:ik af l 328 #[.pointer (some ⟨g,0,none⟩)]) u=>?_)))
 have x:=(iX.refl w (fun k=>k=g)).le u
 refine Yx 1 Z (WC.scope (Sr (W.ef Z Z Z (Ef.alloc z3 fun d ah R (ai:ik ah d 3 #[J (0)]) y=>?_))))
 have L2:=x.le y
 refine Yn 1 Z (W.jR Z Z (Ef.store nC Z Z ai (by first|decide|(simp;done)) Z ?_))
 intro B C D
 have C:ik B d 3 #[J (0)]:=C
 have _:=x.size
 have L3:iX w B (fun k=>k=g):=L2.ch D (fun i hi hlt=>by cases hi;exact absurd hlt (by have:=R;omega))
 refine Nx (Sr (Wa (.makeFunc Z) Z (Yx 1 Z (Sq (WC.label (E.iM (Sq (Bk ?_))))))))
 have F:d≠l:=by have:=Q.lt;omega
 have H:d≠g:=by have:=hb.lt;have:=u.size;omega
 refine WC.loop (ι:=Nat×Nat) (fun⟨k,v⟩=>[(1,.pointer (some ⟨l,0,none⟩)),(3,J ((v:Nat):Int)),(4,.pointer (some ⟨d,0,none⟩)),(5,.func (.func 247) #[] #[.pointer (some ⟨d,0,none⟩),.pointer (some ⟨l,0,none⟩)])]) (fun⟨k,v⟩ e=>(k<=n)/\(v<9223372036854775808)/\(k=0->v=0)/\(0<k->128<=(xs.getD 0 0).toNat)/\iX w e (fun k=>k=g)/\B.heap.size<=e.heap.size/\ik e l 328 #[.pointer (some ⟨g,0,none⟩)]/\ik e d 3 #[J ((k:Nat):Int)]/\ik e g 336 #[.slice A n c,.bool (no)]) (fun⟨k,v⟩=>n-k) (0,0) ?_ ?_ ?_
 ·exact .of Z
 ·exact⟨Nat.zero_le _,by decide,fun _=>rfl,fun h=>absurd h (by decide),L3,Nat.le_refl _,((Q.le y).cn D F),C,((hb.le (u.trans y)).cn D H)⟩
 rintro⟨k,v⟩ e ⟨hk,hv,hz,hf,S,aj,I,U,K⟩
 refine Bk (Sq (Rr 1 Z (W.ef Z Z Z (Ef.yV agc Z Z Z (UQ e U I K (hV.ji S hnq) (by omega) (by omega)) ?_))))
 rintro _ ak ⟨rfl,f⟩
 refine⟨_,rfl,?_⟩
 have V:=S.le f
 refine Nx ?_
 by_cases L:(u6 xs n k)=true
 ·refine Cy Z L (Sr (Yk (.pointer (some ⟨g,0,none⟩)) Z (I.le f) Z (Yd Z (IE ak (K.le f)) ?_)))
  rintro _ ax ⟨rfl,al,an⟩
  have L9:=V.sub an (fun i hi hlt=>(by subst hi;exact Z))
  refine Nx (Rn 1 Z (Rt (E.il (E.jc (E.il (E.jc (E.il (E.scR (E.iC Z Z ?_)))))))))
  exact⟨0,_,_,_,_,_,rfl,al,X4 hl hf (by assumption),L9⟩
 refine Cn Z (Bool.eq_false_iff.2 L) ?_
 have ay:k<=8/\k<n:=by have hw:=L;unfold u6 at hw;simp only[Bool.or_eq_true,Bool.and_eq_true,decide_eq_true_eq,not_or]at hw;omega
 refine Sn (Sq (WC.draw [0,1,2,3,4,5,6,7] mixed (by kernel_rfl) fun w6 m=>?_))
 have X:=V.le m
 have N:=(I.le (f.trans m))
 refine Xk (.pointer (some ⟨g,0,none⟩)) Z N Z (Xn 2 Z ?_)
 have O:=(K.le (f.trans m))
 refine Xk (.slice A n c) Z O Z ?_
 have o:=(U.le (f.trans m))
 refine Xk (J ((k:Nat):Int)) Z o Z (Xs k Z (hV.isSome kE (by omega)) (Gd Z (.o9 (v:=jf (xs.getD k (0:BitVec 8))) Vs Z (hV.ji X hnq) kE (jN xs (0:BitVec 8) (by first|omega|(simp only[List.length_cons,List.length_nil];omega))) Z) (Xx 1 Z (Rr 2 Z (Wa (.LQ Z Z (by omega)) Z (Wr (.Tp (rG underlying5) underlying3 Z (IntWalk.i64_in _ (by omega))) Z (Yk (J ((k:Nat):Int)) Z o Z (Yp Z (Wa (.adO ((xs.getD k 0).toNat%128) (7*k) _ Z (by omega) Z (by omega) (by omega) Z (LV (Nat.mod_lt _ (by decide)) (by omega))) Z ?_)))))))))
 refine Wa (.orI v ((xs.getD k 0).toNat%128*2^(7*k)) Z Z Z Z hv (LV (Nat.mod_lt _ (by decide)) (by omega))) Z (Yx 1 Z (Sr (Yk (J ((k:Nat):Int)) Z o Z (Yp Z (W.jR Z Z (Ef.store nC Z Z o (by first|decide|(simp;done)) Z ?_))))))
 intro Y s j
 have s:ik Y d 3 #[J (((k:Nat):Int)+1)]:=s
 have aa:iX w Y (fun k=>k=g):=X.ch j (fun i hi hlt=>by cases hi;exact absurd hlt (by have:=R;omega))
 refine Nx (Rn 2 Z ?_)
 by_cases c1:((xs.getD k (0:BitVec 8)).toNat:Int)<128
 ·refine Cy Z (dT c1) (WC.exit (E.VR Z (E.jW (E.rQ (E.iM (Sq (WC.draw [0,1,2,3,4,5,6,7,8,9] mixed (by kernel_rfl) fun az t=>?_)))))))
  have ao:=aa.le t
  have ac:=((N.cn j F).le t)
  refine Xk (.pointer (some ⟨g,0,none⟩)) Z ac Z (Xk (.pointer (some ⟨g,0,none⟩)) Z ac Z (Xn 2 Z ?_))
  have ad:=((O.cn j H).le t)
  refine Xk (.slice A n c) Z ad Z (Xk (J (((k:Nat):Int)+1)) Z (s.le t) Z ?_)
  have ap:=hV.uP c (k+1) (by omega) (by omega) kE
  have aA:=ap.1
  refine Ga Z (.uP (k+1) underlying78 yC Z Z (by omega) (by omega) (by omega)) (Xn 2 Z (G.jR Z Z Z Z (Ef.store H7 Z Z ad (by first|decide|(simp;done)) Z ?_)))
  intro ae P aq
  refine noT (by kernel_rfl) ?_
  have P:ik ae g 336 #[.slice (mZ A c (k+1) 1) (n-(k+1)) (c-(k+1)),.bool (no)]:=P
  have ar:iX w ae (fun k=>k=g):=ao.ch aq (fun i hi _=>by cases hi;exact Z)
  refine Gx (Rn 2 Z (Rt (E.scR (E.iC Z Z ?_))))
  exact⟨_,_,_,_,_,_,rfl,P,adP hl hc hv hz hf (by assumption) (by omega),ar⟩
 refine Cn Z (dF c1) (WC.skip (E.jD ?_))
 have au:=(N.cn j F)
 have av:=(O.cn j H)
 refine E.again (k+1,(v|||(xs.getD k 0).toNat%128*2^(7*k))) (.of Z) ?_ ?_
 ·exact⟨by omega,acO hv (LV (Nat.mod_lt _ (by decide)) (by omega)),fun h=>by omega,fun _=>by rcases Nat.eq_zero_or_pos k with h|h;subst h;omega;exact hf h,aa,by have:=aj;have:=f.size;have:=m.size;have:=j.size;omega,au,s,av⟩
 first|omega|(simp only[];omega)
theorem X5 (m:Nat){g:Nat}{A:Option Addr}{n c:Nat}{xs:List (BitVec 8)}{no:Bool}(w:World)(hb:ik w g 336 #[.slice A n c,.bool no])(hV:Vec w jv 1 A n xs)(hc:n<=c)(hn:n<=100000)(hne:0<n->lN A≠some g)(hm:m<=9223372036854775807):Calls prog 249 #[.pointer (some ⟨g,0,none⟩),J (m:Int)] w fun r w'=>∃A1 c1 ys A' n' c' xs' no',r= .returned (.slice A1 ys.length c1)/\iy w' w.heap.size 5 jv 1 A1 ys.length c1 ys/\ik w' g 336 #[.slice A' n' c',.bool no']/\RdT A n xs no m ys A' n' c' xs' no'/\iX w w' (fun k=>k=g):=by
 have hl:=hV.1
 have hnq:∀q,lN A=some q->0<n->q<w.heap.size->¬(fun k=>k=g) q:=fun q f e _ he=>hne e (by rw[f];exact congrArg some he)
 refine En func249 Z ?_
 have d:=iX.refl w (fun k=>k=g)
 refine Rn 1 Z (Sq (Rr 3 Z (Yk (.bool no) Z hb Z ?_)))
 by_cases o:no=true
 ·refine Yq 1 Z o (Yx 8 Z (Ct Z (Rr 1 Z (Yd Z (IE w hb) ?_))))
  rintro _ R ⟨rfl,D,F⟩
  have H:=d.sub F (fun i hi hlt=>(by subst hi;exact Z))
  refine Nx (Rn 1 Z (Rt (E.il (E.iC Z Z ?_))))
  exact⟨none,0,[],_,_,_,_,_,rfl,iy.nil _ _ _ _ _ _,D,⟨Nat.zero_le _,Nat.zero_le _,IC,fun e j=>by first|omega|(simp_all;done)⟩,H⟩
 refine Yq 1 Z (Bool.eq_false_iff.2 o) (Yn 4 Z (Yk (.slice A n c) Z hb Z (Yx 3 Z ?_)))
 by_cases s:(n:Int)<(m:Int)
 ·refine Cy Z (dT s) (Rr 1 Z (Yd Z (IE w hb) ?_))
  rintro _ S ⟨rfl,I,K⟩
  have L:=d.sub K (fun i hi hlt=>(by subst hi;exact Z))
  refine Nx (Rn 1 Z (Rt (E.il (E.iC Z Z ?_))))
  exact⟨none,0,[],_,_,_,_,_,rfl,iy.nil _ _ _ _ _ _,I,⟨Nat.zero_le _,Nat.zero_le _,IC,fun e j=>by first|omega|(simp_all;done)⟩,L⟩
 refine Cn Z (dF s) (Sn (Rr 3 Z (Yk (.slice A n c) Z hb Z (Yn 1 Z ?_))))
 have t:=hV.Fy m (by omega) kE
 have U:=t.1
 refine Wa (.Fy m underlying78 yC Z Z Z (by omega)) Z (Yd Z (Kl w (t.ji d (fun q f e j=>hnq q f (by omega) j)) (by omega)) ?_)
 rintro _ V ⟨X,Y,rfl,u,x⟩
 have N:=d.le x
 refine Yx 1 Z (Rr 4 Z ?_)
 have y:=(hb.le x)
 refine Yk (.slice A n c) Z y Z (Yn 1 Z ?_)
 have O:=hV.uP c m (by omega) (by omega) kE
 have aa:=O.1
 refine Wa (.uP m underlying78 yC Z Z Z (by omega) (by omega)) Z (Yn 2 Z (W.jR Z Z (Ef.store H7 Z Z y (by first|decide|(simp;done)) Z ?_)))
 intro B l C
 have l:ik B g 336 #[.slice (mZ A c m 1) (n-m) (c-m),.bool (no)]:=l
 have P:iX w B (fun k=>k=g):=N.ch C (fun i hi _=>by cases hi;exact Z)
 refine Nx (Rn 2 Z (Rt ?_))
 have Q:=(u.cb C (u.rl (by have:=hb.lt;omega)))
 refine E.iC Z Z ?_
 have htl:(xs.take m).length=m:=(by rw[List.length_take];omega)
 exact⟨_,_,xs.take m,_,_,_,_,_,by rw[htl],(Q.mono d.size).cast htl.symm Z,l,⟨by omega,by omega,Sj hc (by omega),fun h _=>⟨rfl,h,rfl⟩⟩,P⟩
variable {ys:List (BitVec 8)}
theorem agD (h:ys.length<=32):(ys++List.replicate (32-ys.length) 0#8).length=32:=by rw[List.length_append,List.length_replicate];omega
theorem agE {N:Nat}(h:ys.length<=N):((((List.replicate N 0#8).map jf).toArray.toList.take 0++(ys.map jv).flatten++((List.replicate N 0#8).map jf).toArray.toList.drop (0+(ys.map jv).flatten.length)).toArray)=((ys++List.replicate (N-ys.length) 0#8).map jf).toArray:=by
 rw[wR]
 simp[List.drop_replicate]
theorem adQ (h:ys.length<=32):((((List.replicate 32 0#8).map jf).toArray.toList.take 0++(ys.map jv).flatten++((List.replicate 32 0#8).map jf).toArray.toList.drop (0+(ys.map jv).flatten.length)).toArray)=((ys++List.replicate (32-ys.length) 0#8).map jf).toArray:=agE h
theorem X6 {g:Nat}(w:World)(hb:ik w g 336 #[.slice A n c,.bool no])(hV:Vec w jv 1 A n xs)(hc:n<=c)(hn:n<=100000)(hne:0<n->lN A≠some g):Calls prog 239 #[.pointer (some ⟨g,0,none⟩)] w fun r w'=>∃(m:List (BitVec 8)) (A':Option Addr) (n' c':Nat) (xs':List (BitVec 8)) (no':Bool),m.length=32/\r= .returned (.agg (m.map jf).toArray)/\ik w' g 336 #[.slice A' n' c',.bool no']/\(∃ys,RdT A n xs no 32 ys A' n' c' xs' no'/\(ys.length=32->m=ys))/\iX w w' (fun k=>k=g):=by
 have hl:=hV.1
 have hnq:∀q,lN A=some q->0<n->q<w.heap.size->¬(fun k=>k=g) q:=fun q R S _ he=>hne S (by rw[R];exact congrArg some he)
 refine En func239 Z ?_
 have C:=iX.refl w (fun k=>k=g)
 refine Sr (Yz Z z23 fun s U V (D:ik U s 23 ((List.replicate 32 0#8).map jf).toArray) t=>?_)
 have F:=C.le t
 refine Nx (Sr (Yz Z z23 fun u X Y (aa:ik X u 23 ((List.replicate 32 0#8).map jf).toArray) v=>Nx (Sq (WC.draw [0,1,2,3] mixed (by kernel_rfl) fun w2 j=>?_))))
 have H:=(F.le v).le j
 refine Ga Z (.Be underlying23 yC Z) (Xn 1 Z (Xd Z (X5 32 w2 (hb.le (t.trans (v.trans j))) (hV.ji H hnq) (by omega) (by omega) hne (by omega)) ?_))
 rintro _ ae ⟨af,ah,d,ai,aj,ak,al,an,rfl,ac,ad,e,x⟩
 refine noT (by kernel_rfl) ?_
 have L5:=H.sub x (fun i hi hlt=>(by subst hi;exact Z))
 have ao:=e.b.cap;have ap:=e.b.len;have aq:=e.yl;have ar:=e.ym
 have _:=hb.lt
 have I:u≠g:=by have:=t.size;omega
 refine G.ef Z Z Z Z Z (Ef.copy (o:=0) (dl:=32) (m:=d.length) underlying78 yC Z ((aa.le j).ji x (fun hF=>I hF)) Z ((ac.vec).2.src underlying78 kE.pos _ (G9 kE _)) (by omega) (by rw[wR];simp;omega) ?_)
 intro K l y
 refine noT (by kernel_rfl) ?_
 have l:ik K u 23 ((d++List.replicate (32-d.length) 0#8).map jf).toArray:=l.cast (adQ (by omega))
 obtain⟨L,N,f⟩:∃m,(d++List.replicate (32-d.length) 0#8)=m/\m.length=32:=⟨_,rfl,agD (by omega)⟩
 rw[N]at l
 have L7:iX w K (fun k=>k=g):=L5.ch y (fun i hi hlt=>by cases hi;exact absurd hlt (by have:=F.size;have:=Y;omega))
 refine Gx (Sr (Wr (.jM ug (by simp[f]) Z l) Z ?_))
 have O:s≠g:=by omega
 have f8:=(((D.le (v.trans j)).ji x (fun hF=>O hF)).cn y (by have:=D.lt;omega))
 refine W.jR Z Z (Ef.storeAll zb (by simp[f,List.length_replicate]) Z Z f8 (by simp[f,List.length_replicate]) (rT _) ?_)
 intro P B Q
 have B:ik P s 23 (L.map jf).toArray:=B
 have L9:iX w P (fun k=>k=g):=L7.ch Q (fun i hi hlt=>by cases hi;exact absurd hlt (by have:=C.size;have:=V;omega))
 refine Nx (Re Z (lV Z B ug (by simp[f])) ?_)
 exact⟨L,_,_,_,_,_,f,rfl,((ad.cn y I).cn Q O),⟨_,e,fun h=>by rw[<-N,h];simp⟩,L9⟩
theorem X7 (w:World)(hV:Vec w jv 1 A n xs)(hn:n<=100000):Calls prog 235 #[.slice A n c] w fun r w'=>∃g A' c',r= .returned (.pointer (some ⟨g,0,none⟩))/\w.heap.size<=g/\ik w' g 336 #[.slice A' n c',.bool false]/\iy w' w.heap.size 5 jv 1 A' n c' xs/\Le w w':=by
 have hl:=hV.1
 refine En func235 Z ?_
 have d:=Le.refl w
 refine Rn 1 Z (Rr 1 Z (Yd Z (Kl w (hV.le d) (by omega)) ?_))
 rintro _ t ⟨e,f,rfl,k,i⟩
 refine Wa (.iF [.slice e n f,.bool false] ags ahX Z Z) Z (Yv Z fun l m o (s:ik m l 336 #[.slice e n f,.bool false]) j=>Yy 1 Z Z Z ?_)
 exact⟨_,_,_,rfl,by have:=d.size;have:=i.size;have:=o;omega,s,((k.le j).mono d.size),((d.trans i).trans j)⟩
theorem adR {g:Nat}(w:World)(hb:ik w g 336 #[.slice A n c,.bool no]):Calls prog 237 #[.pointer (some ⟨g,0,none⟩)] w fun r w'=>r= .returned (.bool (!no))/\Le w w':=by
 refine En func237 Z ?_
 have d:=Le.refl w
 refine Rn 1 Z (Rr 3 Z (Yk (.bool no) Z (hb.le d) Z (Yy 2 Z Z Z ?_)))
 exact⟨rfl,d⟩
theorem X8 {g:Nat}(w:World)(hb:ik w g 336 #[.slice A n c,.bool no]):Calls prog 240 #[.pointer (some ⟨g,0,none⟩)] w fun r w'=>r= .returned (J (n:Int))/\Le w w':=by
 refine En func240 Z ?_
 have d:=Le.refl w
 refine Rn 1 Z (Rr 3 Z (Yk (.slice A n c) Z (hb.le d) Z (Yy 2 Z Z Z ?_)))
 exact⟨rfl,d⟩
end Go.Proofs.YtkpmaajniagncaaGreatDoor
namespace Go.Sx
open Go Go.RowKit
section
variable {α β:Type}{w w':World}{b1 b2 e1 e2 s1 s2 n1 n2 c d:Nat}{f:α->List Value}{g:β->List Value}{A B:Option Addr}{xs:List α}{ys:List β}
theorem iy.u7 (h1:iy w b1 e1 f s1 A n1 c xs)(h2:iy w b2 e2 g s2 B n2 d ys)(hne:e1≠e2):Apart A c B d:=fun q hA hB=>by
 rcases h2.2.2 with⟨_,rfl⟩|⟨g',cur,rfl,_,hh,_⟩
 ·rw[jI]at hB;cases hB
 ·have:=ru hB
  subst this
  exact iy.kV h1 (show ik w _ e2 cur from hh) hne hA
theorem iy.Sk (h1:iy w b1 e1 f s1 A n1 c xs)(hc:Ch w w' (rowOf B d))(h2:iy w b2 e2 g s2 B n2 d ys)(hne:e1≠e2):iy w' b1 e1 f s1 A n1 c xs:=h1.ch hc fun q hq ha=>h1.u7 h2 hne q ha hq
variable {t k:Nat}
theorem iy.LW {cs:Array Value}(h1:iy w b1 e1 f s1 A n1 c xs)(hc:Ch w w' (some k))(h2:ik w k t cs)(hne:e1≠t):iy w' b1 e1 f s1 A n1 c xs:=h1.ch hc fun q hq ha=>by
 cases hq
 exact h1.kV h2 hne ha
theorem FE {t':Nat}{cs cs':Array Value}(h:ik w k t cs)(h':ik w k t' cs'):t=t':=by
 have e1:w.heap[k]? =_:=h
 have e2:w.heap[k]? =_:=h'
 rw[e1]at e2
 injection e2 with e3
 injection e3
theorem iy.qU (h:iy w b1 e1 f s1 A n1 c xs){q:Nat}(hq:rowOf A c=some q):∃cs,ik w q e1 cs:=by
 rcases h.2.2 with⟨_,rfl⟩|⟨g',cur,rfl,_,hh,_⟩
 ·rw[jI]at hq;cases hq
 ·rw[ru hq];exact⟨_,hh⟩
end
end Go.Sx
namespace Go.Proofs.YtkpmaajniagncaaGreatDoor
open Tryz
open Go Go.Sx Go.Fv Go.Num Go.KJ Go.Gz Go.Lsp Go.JQ Go.yA
set_option maxRecDepth 20000
def yI (w:World)(base g:Nat)(F:Nat->Prop)(s:List (BitVec 8)×Bool):Prop:=∃A n c,ik w g 336 #[.slice A n c,.bool s.2]/\Vec w jv 1 A n s.1/\n<=c/\n<=100000/\base<=g/\
 ∃B:Option Nat,(0<n->lN A=B)/\(∀k,F k↔(k=g\/B=some k))/\∀q,B=some q->base<=q/\q<w.heap.size/\q≠g/\∃cs,ik w q 5 cs
section
variable {w w':World}{base g:Nat}{F:Nat->Prop}{s:List (BitVec 8)×Bool}
theorem yI.ji {F':Nat->Prop}(h:yI w base g F s)(hc:iX w w' F')(hne:∀k,F k->¬F' k):yI w' base g F s:=by
 obtain⟨A,n,c,f,i,j,l,m,B,e,d,o⟩:=h
 refine⟨A,n,c,f.ji hc (hne _ ((d _).2 (.inl Z))),i.ji hc (fun q hq hm _=>hne _ ((d _).2 (.inr (by rw[<-e hm];exact hq)))),j,l,m,B,e,d,fun q hq=>?_⟩
 obtain⟨k1,k2,t,cs,u⟩:=o q hq
 exact⟨k1,Nat.lt_of_lt_of_le k2 hc.size,t,cs,u.ji hc (hne _ ((d _).2 (.inr hq)))⟩
theorem yI.ch {r:Option Nat}(h:yI w base g F s)(hc:Ch w w' r)(hne:∀k,r=some k->¬F k):yI w' base g F s:=h.ji (hc.ji (F:=fun k=>r=some k) (fun i hi=>hi)) (fun k hk hr=>hne k hr hk)
theorem yI.le (h:yI w base g F s)(hl:Le w w'):yI w' base g F s:=h.ji (hl.ji (fun _=>False)) (fun _ _ hf=>hf)
theorem yI.lt (h:yI w base g F s){k:Nat}(hk:F k):k<w.heap.size:=by
 obtain⟨A,n,c,d,i,j,l,m,B,o,e,f⟩:=h
 rcases(e k).1 hk with rfl|hq
 ·exact d.lt
 ·exact(f k hq).2.1
theorem yI.old (h:yI w base g F s){k:Nat}(hk:F k):base<=k:=by
 obtain⟨A,n,c,i,j,l,m,d,B,o,e,f⟩:=h
 rcases(e k).1 hk with rfl|hq
 ·exact d
 ·exact(f k hq).1
theorem yI.len (h:yI w base g F s):s.1.length<=100000:=by
 obtain⟨A,n,c,e,d,f,i,j,B,k,l,m⟩:=h
 have:=d.1
 omega
theorem yI.jg {k t:Nat}{cs:Array Value}(h:yI w base g F s)(hB:ik w k t cs)(e1:336≠t)(e2:5≠t):¬F k:=fun hF=>by
 obtain⟨A,n,c,d,j,l,m,o,B,u,e,f⟩:=h
 rcases(e k).1 hF with rfl|hq
 ·exact e1 (FE d hB)
 ·obtain⟨_,_,_,cs,i⟩:=f k hq
  exact e2 (FE i hB)
variable {n c:Nat}{A:Option Addr}
theorem yI.xX {b e sz:Nat}{α:Type}{f:α->List Value}{xs:List α}(h:yI w base g F s)(ho:iy w b e f sz A n c xs)(h1:336≠e)(h2:5≠e):∀k,rowOf A c=some k->¬F k:=fun k hk=>by
 obtain⟨cs,hB⟩:=ho.qU hk
 exact h.jg hB h1 h2
def adS (s s':List (BitVec 8)×Bool):Prop:=(s.2=true->s'.2=true)/\s'.1.length<=s.1.length
def aii (s:List (BitVec 8)×Bool)(v:Nat)(s':List (BitVec 8)×Bool):Prop:=v<9223372036854775808/\adS s s'/\(s.1=[]->s'.2=true)/\∀d t,s.1=d::t->d.toNat<128->v=d.toNat/\s'=(t,s.2)
def acP (s:List (BitVec 8)×Bool)(m:List (BitVec 8))(s':List (BitVec 8)×Bool):Prop:=adS s s'/\(s.2=false->32<=s.1.length->s'=(s.1.drop 32,false)/\m=s.1.take 32)
theorem yI.next {A':Option Addr}{n' c':Nat}{xs':List (BitVec 8)}{no':Bool}{B:Option Nat}(h2:Vec w jv 1 A n s.1)(h3:n<=c)(h4:n<=100000)(h5:base<=g)(h6:0<n->lN A=B)(h7:∀k,F k↔(k=g\/B=some k))(h8:∀q,B=some q->base<=q/\q<w.heap.size/\q≠g/\∃cs,ik w q 5 cs)
  (hb:ik w' g 336 #[.slice A' n' c',.bool no'])(k:X3 A n s.1 s.2 A' n' c' xs' no')(hc:iX w w' (fun k=>k=g)):yI w' base g F (xs',no')/\adS s (xs',no')/\iX w w' F:=by
 have hV:=k.sub w h2
 have hq:∀q,B=some q->q≠g:=fun q hq=>(h8 q hq).2.2.1
 refine⟨⟨A',n',c',hb,hV.ji hc (fun q d j _ he=>hq q ?_ he),k.cap,Nat.le_trans k.len h4,h5,B,fun d=>(k.blk d).trans (h6 (by have:=k.len;omega)),h7,fun q e=>?_⟩,⟨k.nop,?_⟩,hc.mono (fun i hi _=>(h7 i).2 (.inl hi))⟩
 ·rw[<-h6 (by have:=k.len;omega),<-k.blk j];exact d
 ·obtain⟨k1,k2,f,cs,l⟩:=h8 q e
  exact⟨k1,Nat.lt_of_lt_of_le k2 hc.size,f,cs,l.ji hc f⟩
 ·show xs'.length<=s.1.length
  have e1:=hV.1
  have e2:=h2.1
  have:=k.len
  omega
theorem adT (h:yI w base g F s):Calls prog 236 #[.pointer (some ⟨g,0,none⟩)] w fun r w'=>∃v s',r= .returned (J ((v:Nat):Int))/\aii s v s'/\yI w' base g F s'/\iX w w' F:=by
 obtain⟨A,n,c,m,e,f,i,o,B,j,u,l⟩:=h
 refine(abb w m e f i (fun x he=>(l g (j x▸he)).2.2.1 Z)).mono ?_
 rintro r w' ⟨v,A',n',c',xs',no',rfl,hb,k,hc⟩
 obtain⟨e1,e2,e3⟩:=yI.next e f i o j u l hb k.b hc
 refine⟨v,(xs',no'),rfl,⟨k.aih,e2,fun hn=>k.nil ?_,fun d t hx hd=>?_⟩,e1,e3⟩
 ·have:=e.1;rw[hn]at this;simpa using this.symm
 ·obtain⟨y,C,D⟩:=k.one d t hx hd
  exact⟨y,by rw[C,D]⟩
theorem abd (h:yI w base g F s):Calls prog 239 #[.pointer (some ⟨g,0,none⟩)] w fun r w'=>∃(m:List (BitVec 8)) (s':List (BitVec 8)×Bool),r= .returned (.agg (jV m).toArray)/\m.length=32/\acP s m s'/\yI w' base g F s'/\iX w w' F:=by
 obtain⟨A,n,c,o,d,e,f,t,B,i,u,j⟩:=h
 refine(X6 w o d e f (fun v he=>(j g (i v▸he)).2.2.1 Z)).mono ?_
 rintro r w' ⟨m,A',n',c',xs',no',hm,rfl,hb,⟨ys,k,km⟩,hc⟩
 obtain⟨e1,e2,e3⟩:=yI.next d e f t i u j hb k.b hc
 refine⟨m,(xs',no'),by rw[kF hm],hm,⟨e2,fun hs hl=>?_⟩,e1,e3⟩
 obtain⟨x,y,l⟩:=k.ok hs (by have:=d.1;omega)
 exact⟨by rw[x,y],by rw[km (by rw[l,List.length_take];omega),l]⟩
theorem acQ (h:yI w base g F s):Calls prog 237 #[.pointer (some ⟨g,0,none⟩)] w fun r w'=>r= .returned (.bool (!s.2))/\Le w w':=by
 obtain⟨A,n,c,d,_⟩:=h
 exact adR w d
theorem abe (h:yI w base g F s):Calls prog 240 #[.pointer (some ⟨g,0,none⟩)] w fun r w'=>r= .returned (J (s.1.length:Int))/\Le w w':=by
 obtain⟨A,n,c,d,e,_⟩:=h
 rw[e.1]
 exact X8 w d
end
variable {A:Option Addr}{n c:Nat}
theorem abf {xs:List (BitVec 8)}(w:World)(hV:Vec w jv 1 A n xs)(hn:n<=100000):Calls prog 235 #[.slice A n c] w fun r w'=>∃g F,r= .returned (.pointer (some ⟨g,0,none⟩))/\yI w' w.heap.size g F (xs,false)/\Le w w':=by
 refine(X7 (c:=c) w hV hn).mono ?_
 rintro r w' ⟨g,A',c',rfl,hg,hb,ho,hl⟩
 refine⟨g,fun k=>k=g\/rowOf A' c'=some k,rfl,⟨A',n,c',hb,ho.vec,ho.cap.1,hn,hg,rowOf A' c',fun d=>?_,fun k=>Iff.rfl,fun q hq=>?_⟩,hl⟩
 ·have:=ho.cap.1
  unfold rowOf
  rw[if_neg (by omega)]
 ·obtain⟨cs,hq'⟩:=ho.qU hq
  exact⟨(ho.row hq).1,(ho.row hq).2,fun he=>absurd (FE (he▸hq') hb) (by decide),cs,hq'⟩
structure BrO (w:World)(bs:Nat)(r:qZ)(b:Bp):Prop where
 af:r.af=b.af
 dl:r.dl=b.dl
 sec:r.sec=b.sec
 slt:b.sec<18446744073709551616
 keys:iy w bs 60 su 1 r.kA r.kN r.kC b.keys
 lt:∀k∈b.keys,k<18446744073709551616
def lI (w:World)(b:Nat)(rs:List qZ)(bs:List Bp):Prop:=rs.length=bs.length/\∀i,i<bs.length->BrO w b (rs.getD i jJ) (bs.getD i sJ)
structure OuO (w:World)(b:Nat)(r:UJ)(o:uG):Prop where
 am:r.am=o.am
 few:o.bs.length<=9223372036854775807
 rows:∃rs,iy w b 189 xn 4 r.bA r.bN r.bC rs/\lI w b rs o.bs
def rF (w:World)(b:Nat)(rs:List UJ)(os:List uG):Prop:=rs.length=os.length/\∀i,i<os.length->OuO w b (rs.getD i oL) (os.getD i qf)
section
variable {w w' w0:World}{b b':Nat}{r:qZ}{z:Bp}{rs:List qZ}{bs:List Bp}{o:UJ}{y:uG}{os:List UJ}{ys:List uG}{F:Nat->Prop}
theorem BrO.weak (h:BrO w b r z):UK w r z:=⟨h.1,h.2,h.3,h.4,h.5.vec,h.6⟩
theorem lI.weak (h:lI w b rs bs):xq w 0 rs bs:=⟨h.1,fun i hi=>(h.2 i hi).weak⟩
theorem OuO.weak (h:OuO w b o y):XR w o y:=⟨h.1,h.2,let⟨q,h1,h2⟩:=h.3;⟨q,h1.vec,h2.weak⟩⟩
theorem rF.weak (h:rF w b os ys):zo w 0 os ys:=⟨h.1,fun i hi=>(h.2 i hi).weak⟩
theorem BrO.map (h:BrO w b r z)(k:∀A n c (xs:List Nat),iy w b 60 su 1 A n c xs->iy w' b' 60 su 1 A n c xs):BrO w' b' r z:=⟨h.1,h.2,h.3,h.4,k _ _ _ _ h.5,h.6⟩
theorem lI.map (h:lI w b rs bs)(k:∀A n c (xs:List Nat),iy w b 60 su 1 A n c xs->iy w' b' 60 su 1 A n c xs):lI w' b' rs bs:=⟨h.1,fun i hi=>(h.2 i hi).map k⟩
theorem rF.map (h:rF w b os ys)(k:∀A n c (xs:List Nat),iy w b 60 su 1 A n c xs->iy w' b' 60 su 1 A n c xs)(k2:∀A n c (xs:List qZ),iy w b 189 xn 4 A n c xs->iy w' b' 189 xn 4 A n c xs):rF w' b' os ys:=
 ⟨h.1,fun i hi=>⟨(h.2 i hi).1,(h.2 i hi).2,let⟨q,d,e⟩:=(h.2 i hi).3;⟨q,k2 _ _ _ _ d,e.map k⟩⟩⟩
theorem lI.le (h:lI w b rs bs)(k:Le w w'):lI w' b rs bs:=h.map fun _ _ _ _ q=>q.le k
theorem rF.le (h:rF w b os ys)(k:Le w w'):rF w' b os ys:=h.map (fun _ _ _ _ q=>q.le k) (fun _ _ _ _ q=>q.le k)
theorem lI.mono (h:lI w b rs bs)(k:b'<=b):lI w b' rs bs:=h.map fun _ _ _ _ q=>q.mono k
theorem rF.mono (h:rF w b os ys)(k:b'<=b):rF w b' os ys:=h.map (fun _ _ _ _ q=>q.mono k) (fun _ _ _ _ q=>q.mono k)
theorem lI.ji (h:lI w b rs bs)(k:iX w w' F)(hF:∀i,F i->i<b):lI w' b rs bs:=h.map fun _ _ _ _ q=>q.ji k fun g hg hf=>by have:=(q.row hg).1;have:=hF g hf;omega
theorem rF.ji (h:rF w b os ys)(k:iX w w' F)(hF:∀i,F i->i<b):rF w' b os ys:=h.map (fun _ _ _ _ q=>q.ji k fun g hg hf=>by have:=(q.row hg).1;have:=hF g hf;omega) (fun _ _ _ _ q=>q.ji k fun g hg hf=>by have:=(q.row hg).1;have:=hF g hf;omega)
variable {b1 e s:Nat}{α:Type}{f:α->List Value}{xs:List α}
theorem lI.chO (h:lI w b rs bs)(k:Ch w w' (rowOf A c))(o:iy w b1 e f s A n c xs)(h1:60≠e):lI w' b rs bs:=h.map fun _ _ _ _ q=>q.Sk k o h1
theorem rF.chO (h:rF w b os ys)(k:Ch w w' (rowOf A c))(o:iy w b1 e f s A n c xs)(h1:60≠e)(h2:189≠e):rF w' b os ys:=h.map (fun _ _ _ _ q=>q.Sk k o h1) (fun _ _ _ _ q=>q.Sk k o h2)
variable {t:Nat}
theorem lI.AP {g:Nat}{cs:Array Value}(h:lI w b rs bs)(k:Ch w w' (some g))(o:ik w g t cs)(h1:60≠t):lI w' b rs bs:=h.map fun _ _ _ _ q=>q.LW k o h1
theorem rF.AP {g:Nat}{cs:Array Value}(h:rF w b os ys)(k:Ch w w' (some g))(o:ik w g t cs)(h1:60≠t)(h2:189≠t):rF w' b os ys:=h.map (fun _ _ _ _ q=>q.LW k o h1) (fun _ _ _ _ q=>q.LW k o h2)
variable {gp:Nat}
theorem lI.O7 {base:Nat}{G:Nat->Prop}{s:List (BitVec 8)×Bool}(h:lI w b rs bs)(k:iX w w' G)(hp:yI w base gp G s)(h1:336≠60)(h2:5≠60)(h3:336≠60)(h4:5≠60):lI w' b rs bs:=h.map fun _ _ _ _ q=>q.ji k (hp.xX q h1 h2)
theorem rF.O7 {base:Nat}{G:Nat->Prop}{s:List (BitVec 8)×Bool}(h:rF w b os ys)(k:iX w w' G)(hp:yI w base gp G s)(h1:336≠60)(h2:5≠60)(h3:336≠189)(h4:5≠189):rF w' b os ys:=h.map (fun _ _ _ _ q=>q.ji k (hp.xX q h1 h2)) (fun _ _ _ _ q=>q.ji k (hp.xX q h3 h4))
theorem lI.aij (h:lI w b rs bs)(h0:lI w0 b rs bs)(k:∀A n c (xs:List Nat),iy w b 60 su 1 A n c xs->iy w0 b 60 su 1 A n c xs->iy w' b 60 su 1 A n c xs):lI w' b rs bs:=⟨h.1,fun i hi=>⟨(h.2 i hi).1,(h.2 i hi).2,(h.2 i hi).3,(h.2 i hi).4,k _ _ _ _ (h.2 i hi).5 (h0.2 i hi).5,(h.2 i hi).6⟩⟩
theorem lI.yu {r:Option Nat}(h:lI w b rs bs)(h0:lI w0 b rs bs)(k:Ch w w' r)(hn:∀q,r=some q->w0.heap.size<=q):lI w' b rs bs:=h.aij h0 fun _ _ _ _ q c=>q.ch k fun g hg ha=>by have:=(c.row ha).2;have:=hn g hg;omega
theorem lI.nil (w:World)(b:Nat):lI w b [] []:=⟨rfl,fun i hi=>absurd hi (Nat.not_lt_zero _)⟩
theorem rF.nil (w:World)(b:Nat):rF w b [] []:=⟨rfl,fun i hi=>absurd hi (Nat.not_lt_zero _)⟩
variable {x:α}{l:List α}
theorem Gj {z:α}{i:Nat}(h:i<l.length):(l++[x]).getD i z=l.getD i z:=by
 rw[List.getD_eq_getElem?_getD,List.getD_eq_getElem?_getD,List.getElem?_append_left h]
theorem Gl {z:α}:(l++[x]).getD l.length z=x:=by
 rw[List.getD_eq_getElem?_getD,List.getElem?_append_right (Nat.le_refl _),Nat.sub_self]
 rfl
theorem lI.push (h:lI w b rs bs)(k:BrO w b r z):lI w b (rs++[r]) (bs++[z]):=by
 refine⟨by simp[h.1],fun i hi=>?_⟩
 simp only[List.length_append,List.length_cons,List.length_nil]at hi
 by_cases e:i<bs.length
 ·rw[Gj e,Gj (by rw[h.1];exact e)]
  exact h.2 i e
 ·have:i=bs.length:=by omega
  subst this
  rw[Gl,<-h.1,Gl]
  exact k
theorem rF.push (h:rF w b os ys)(k:OuO w b o y):rF w b (os++[o]) (ys++[y]):=by
 refine⟨by simp[h.1],fun i hi=>?_⟩
 simp only[List.length_append,List.length_cons,List.length_nil]at hi
 by_cases e:i<ys.length
 ·rw[Gj e,Gj (by rw[h.1];exact e)]
  exact h.2 i e
 ·have:i=ys.length:=by omega
  subst this
  rw[Gl,<-h.1,Gl]
  exact k
end
theorem abg {xs:List Nat}(w:World)(hV:Vec w su 1 A n xs)(hn:n<=100000):Calls prog 124 #[.slice A n c] w fun r w'=>∃Ab cb Ak ck,r= .returned (.agg #[.slice Ab 1 cb])/\iy w' w.heap.size 189 xn 4 Ab 1 cb [(⟨Ak,n,ck,0,0,0⟩:qZ)]/\iy w' w.heap.size 60 su 1 Ak n ck xs/\Le w w':=by
 have hl:=hV.1
 refine En func124 Z ?_
 have t:=Le.refl w
 refine Sr (Yz Z z173 fun u v D (e:ik v u 173 #[.slice none 0 0]) F=>?_)
 have f:=t.trans F
 refine Nx (Rr 1 Z (Yd Z (UO v (hV.le f) (by omega)) ?_))
 rintro _ H ⟨i,j,rfl,x,k⟩
 have y:=f.trans k
 refine Wa (.iF (xn (⟨i,n,j,0,0,0⟩)) Cv DV Z Z) Z (W.ef Z Z Z (Ef.iw (len:=1) [_] underlying171 H9 Z (by simp[Value.cells,kH.len]) Z (by decide) (by decide) ?_))
 intro d B I l m
 have l:ik B d 189 (([⟨i,n,j,0,0,0⟩]).map xn).flatten.toArray:=l
 have C:iy B H.heap.size 189 xn 4 (some ⟨d,0,none⟩) 1 1 ([⟨i,n,j,0,0,0⟩]):=l.j4 I kH Z Z (by decide)
 refine Wa (.iF [.slice (some ⟨d,0,none⟩) 1 1] NV z173 Z Z) Z (Yw Z (e.le (k.trans m)) (wN Z) ?_)
 intro K o s
 have o:ik K u 173 #[.slice (some ⟨d,0,none⟩) 1 1]:=o
 refine Nx (Re Z (lV Z o Rw (by rfl)) ?_)
 have _:=e.lt
 exact⟨_,_,_,_,rfl,((C.cb s (C.rl (by have:=k.size;omega))).mono y.size),(((x.le m).cb s (x.rl (by omega))).mono f.size),((y.trans m).tb s t D)⟩
def okf (k:Vu):Value:= .agg (O6 k).toArray
theorem X9 (a:Vu):((O6 a).toArray.toList.drop 0).take 32=a.id.1.map jf:=by
 have h:=kF a.id.2
 have hl:(a.id.1.map jf).length=32:=by rw[List.length_map,a.id.2]
 simp only[O6,h,List.drop_zero]
 exact List.take_left' hl
theorem Ya (a:Vu):(O6 a).toArray[32]? =some (J a.no):=by
 have h:=kF a.id.2
 have hl:(a.id.1.map jf).length=32:=by rw[List.length_map,a.id.2]
 simp only[O6,h,List.getElem?_toArray]
 rw[List.getElem?_append_right (by omega),hl]
 rfl
variable {d:Nat}
theorem adU (a b:Vu):yU prog (d+3) 59 (okf a) (okf b) (decide (a=b)):=by
 have h:=yU.struct (P:=prog) (d:=d+2) (t:=59) (O6 a).toArray (O6 b).toArray [(0,.agg (a.id.1.map jf).toArray,.agg (b.id.1.map jf).toArray,decide (a.id.1=b.id.1)),(32,J a.no,J b.no,decide (a.no=b.no))] (by kernel_rfl) (by kernel_rfl) (by
  rw[show(prog.fieldsOf 59)=_ from(by unfold Program.fieldsOf;rw[underlying59])]
  exact⟨by decide,rfl,fun w=>Dz _ ug (by rw[List.length_map,a.id.2]) (X9 a) w,fun w=>Dz _ ug (by rw[List.length_map,b.id.2]) (X9 b) w,yU.bytes _ _ underlying23 yC underlying5 a.id.2 b.id.2,
   by decide,rfl,fun w=>kR yH (Ya a) w,fun w=>kR yH (Ya b) w,yU.int (P:=prog) _ _ underlying3,trivial⟩)
 have e:(([(0,.agg (a.id.1.map jf).toArray,.agg (b.id.1.map jf).toArray,decide (a.id.1=b.id.1)),(32,J a.no,J b.no,decide (a.no=b.no))]:List (Nat×Value×Value×Bool)).all fun k=>k.2.2.2)=decide (a=b):=by
  obtain⟨⟨c,f⟩,i⟩:=a
  obtain⟨⟨j,l⟩,m⟩:=b
  rw[Bool.eq_iff_iff]
  simp
 rw[e]at h
 exact h
theorem Ym (b:Bool)(k:Vu)(w:World):∀m:Nat,(Instr.checkKey b (m+3) 59 (okf k)).run prog w= .ok () w:=by
 intro m
 have hi:∀(v:Int) (w:World),(Instr.checkKey b (m+2) 3 (J v)).run prog w= .ok () w:=fun v w=>by unfold Instr.checkKey;simp[run_underlying underlying3]
 have c:∀(v:BitVec 8) (w:World),(Instr.checkKey b (m+1) 5 (jf v)).run prog w= .ok () w:=fun v w=>by unfold Instr.checkKey jf;simp[run_underlying underlying5]
 have hs:∀w:World,(Go.sizeOf 5).run prog w= .ok 1 w:=yC.run
 have hp:∀i,i<32->∀w:World,(part 5 (k.id.1.map jf).toArray i).run prog w= .ok (jf (k.id.1.getD i 0)) w:=fun i hi w=>kR Vs (JB k.id.1 (by rw[k.id.2];exact hi)) w
 have hh:∀w:World,(Instr.checkKey b (m+2) 23 (.agg (k.id.1.map jf).toArray)).run prog w= .ok () w:=fun w=>by
  unfold Instr.checkKey
  simp only[Sem.run_bind,run_underlying underlying23,Result.andThen_ok]
  simp[-List.map_toArray,Std.Legacy.Range.forIn_eq_forIn_range',List.range',hp,c,hs]
 have d:∀w:World,(part 23 (O6 k).toArray 0).run prog w= .ok (.agg (k.id.1.map jf).toArray) w:=fun w=>Dz _ ug (by rw[List.length_map,k.id.2]) (X9 k) w
 have e:∀w:World,(part 3 (O6 k).toArray 32).run prog w= .ok (J k.no) w:=fun w=>kR yH (Ya k) w
 unfold Instr.checkKey
 simp only[Sem.run_bind,run_underlying underlying59,Result.andThen_ok,okf]
 simp[-List.map_toArray,d,e,hi,hh]
theorem kop:wT prog 59 okf:=wT.struct underlying59 (fun b k w=>Ym b k w 9997) (fun k=>⟨_,rfl⟩) (fun a b=>adU (d:=9997) a b)
def hadB (ins:List Qo)(i:Nat)(o:Vu):Bool:=(List.range i).any fun j=>decide ((ins.getD j iP).op=o)
def IG (ins:List Qo)(i:Nat):Bool:= !hadB ins i (ins.getD i iP).op&&decide (0<=(ins.getD i iP).op.no)&&decide ((ins.getD i iP).op.no<64)&&LK (ins.getD i iP)
def Ox (ins:List Qo):Bool:=(List.range ins.length).all (IG ins)
def Sm (ins:List Qo)(os:List uG)(note:Int):Bool:=decide (1<=ins.length/\ins.length<=64/\os.length<=64/\0<=note)&&Ox ins&&(xS 0 os).isSome
theorem YA (ins:List Qo)(k:Nat)(o:Vu):hadB ins (k+1) o=(hadB ins k o||decide ((ins.getD k iP).op=o)):=by
 unfold hadB
 rw[List.range_succ,List.any_append]
 simp
variable {x:Option Bool}
theorem CX {b:Bool}(h:x=if b=true then some true else none):x.getD false=b:=by
 subst h;cases b<;>rfl
theorem YB {b:Bool}(h:x=if b=true then some true else none)(hq:¬x.getD false=true):x=none:=by
 subst h;cases b
 ·rfl
 ·exact absurd Z hq
variable {ins:List Qo}{k:Nat}
theorem CY (h:IG ins k=true):¬hadB ins k (ins.getD k iP).op=true/\0<=(ins.getD k iP).op.no/\(ins.getD k iP).op.no<64/\LK (ins.getD k iP)=true:=by
 unfold IG at h
 simp only[Bool.and_eq_true,decide_eq_true_eq,Bool.not_eq_true']at h
 exact⟨by rw[h.1.1.1];decide,h.1.1.2,h.1.2,h.2⟩
theorem adV (h1:¬hadB ins k (ins.getD k iP).op=true)(h2:¬(ins.getD k iP).op.no<0)(h3:¬(ins.getD k iP).op.no≥64)(h4:LK (ins.getD k iP)=true):IG ins k=true:=by
 unfold IG
 simp only[Bool.and_eq_true,decide_eq_true_eq,Bool.not_eq_true']
 exact⟨⟨⟨Bool.eq_false_iff.2 h1,by omega⟩,by omega⟩,h4⟩
theorem YC {ck:Nat}{l:List (Nat×Vu×Bool)}(h:∀o,iO o l=if hadB ins k o=true then some true else none)(hn:iO (ins.getD k iP).op l=none):∀o,iO o (l++[(ck,(ins.getD k iP).op,true)])=if hadB ins (k+1) o=true then some true else none:=fun o=>by
 rw[zP hn,YA,h o]
 by_cases e:o=(ins.getD k iP).op
 ·subst e;simp
 ·rw[if_neg e]
  have:decide ((ins.getD k iP).op=o)=false:=decide_eq_false (fun q=>e q.symm)
  rw[this,Bool.or_false]
theorem abh (hk:k<ins.length)(h:IG ins k=false):Ox ins=false:=by
 unfold Ox
 rw[List.all_eq_false]
 exact⟨k,List.mem_range.2 hk,by rw[h];decide⟩
theorem YD (h:∀j,j<ins.length->IG ins j=true):Ox ins=true:=by
 unfold Ox
 rw[List.all_eq_true]
 exact fun j hj=>h j (List.mem_range.1 hj)
theorem abj (h:Ox ins=true){k:Nat}(hk:k<ins.length):0<=(ins.getD k iP).op.no/\(ins.getD k iP).op.no<64/\0<=(ins.getD k iP).br/\(ins.getD k iP).br<4/\(ins.getD k iP).sN<=12:=by
 unfold Ox at h
 rw[List.all_eq_true]at h
 have:=h k (List.mem_range.2 hk)
 unfold IG LK at this
 simp only[Bool.and_eq_true,decide_eq_true_eq]at this
 omega
theorem Km:∀(s:Int) (l:List uG) (o:uG),xS s (l++[o])=(xS s l).bind fun t=>if(pI t o.am).2&&uw o.bs then some (pI t o.am).1 else none
 |s,[],o=>by simp[xS]
 |s,x::l,o=>by
  simp only[List.cons_append,xS]
  split
  ·exact Km _ l o
  ·rfl
variable {s t:Int}{os:List uG}
theorem Eb (hk:k<os.length)(h:xS s (os.take k)=some t):xS s (os.take (k+1))=if(pI t (os.getD k qf).am).2&&uw (os.getD k qf).bs then some (pI t (os.getD k qf).am).1 else none:=by
 have e:os.take (k+1)=os.take k++[os.getD k qf]:=by
  rw[List.take_add_one]
  simp[List.getD,hk]
 rw[e,Km,h]
 rfl
theorem UR (h:xS s (os.take k)=none):xS s os=none:=by
 have:∀(s:Int) (a b:List uG),xS s a=none->xS s (a++b)=none:=by
  intro s a
  induction a generalizing s with
  |nil=>intro b h;cases h
  |cons x a ih=>
   intro b h
   simp only[List.cons_append,xS]at h ⊢
   split
   ·rename_i hc;rw[if_pos hc]at h;exact ih _ _ h
   ·rfl
 have e:=this s (os.take k) (os.drop k) h
 rwa [List.take_append_drop]at e
theorem Oy {s t:Int}:∀{os:List uG},xS s os=some t->∀k,k<os.length->0<=(os.getD k qf).am/\(os.getD k qf).am<=1125899906842624/\uw (os.getD k qf).bs=true
 |[],_,k,hk=>absurd hk (Nat.not_lt_zero _)
 |o::os,h,k,hk=>by
  simp only[xS]at h
  split at h
  ·rename_i hc
   rw[Bool.and_eq_true]at hc
   cases k with
   |zero=>
    refine⟨?_,?_,hc.2⟩
    all_goals
     have h1:=hc.1
     show _<=_
     simp only[List.getD_cons_zero]
     unfold pI at h1
     split at h1
     ·rename_i h2
      unfold vE l7 at h2
      simp at h2
      omega
     ·cases h1
   |succ k=>simpa using Oy h k (by simpa using hk)
  ·cases h
def CZ (br:Int)(n:Nat):Bool:=decide (0<=br)&&decide (br<4)&&decide (n<=12)
variable {note:Int}
theorem LX (h:¬(1<=ins.length/\ins.length<=64/\os.length<=64/\0<=note)):Sm ins os note=false:=by
 unfold Sm;rw[decide_eq_false h];rfl
theorem Su (hk:k<ins.length)(h:IG ins k=false):Sm ins os note=false:=by
 unfold Sm;rw[abh hk h,Bool.and_false];rfl
theorem YE (h:xS 0 (os.take k)=none):Sm ins os note=false:=by
 unfold Sm;rw[UR h];exact Bool.and_false _
theorem adW (h:1<=ins.length/\ins.length<=64/\os.length<=64/\0<=note)(hi:∀j,j<ins.length->IG ins j=true)(ho:xS 0 os=some t):Sm ins os note=true:=by
 unfold Sm;rw[decide_eq_true h,YD hi,ho];rfl
theorem abk (br:Int)(Aw:Option Addr)(nw cw sec:Nat)(w:World):Calls prog 179 #[.agg #[J br,.slice Aw nw cw,.int .u64 (sec:Int)]] w fun r w'=>r= .returned (.bool (CZ br nw))/\Le w w':=by
 refine En func179 Z (Sr (Yv Z fun i j l (e:ik j i 196 #[J br,.slice Aw nw cw,.int .u64 (sec:Int)]) k=>?_))
 have f:=(Le.refl w).trans k
 refine Yx 1 Z (Rr 1 Z (Yk (J br) Z e Z (Yn 1 Z ?_)))
 by_cases c:0<=br
 ·refine Dt c Z Z (Yn 1 Z (Yk (J br) Z e Z (Yn 2 Z ?_)))
  by_cases d:br<4
  ·refine Dt d Z Z (Yn 1 Z (Yk (.slice Aw nw cw) Z e Z (Yy 4 Z Z Z ?_)))
   exact⟨(by first|rfl|(simp[CZ,c,d];done)|(simp[CZ,c,d];omega)|(simp[CZ,c,d];split<;>first|(exfalso;omega)|(simp;done)|(simp;omega))|(rw[Bool.eq_iff_iff];simp[CZ];omega)),f⟩
  refine Df d Z Z (Yy 6 Z Z Z ?_)
  exact⟨(by first|rfl|(simp[CZ,c,d];done)|(simp[CZ,c,d];omega)|(simp[CZ,c,d];split<;>first|(exfalso;omega)|(simp;done)|(simp;omega))|(rw[Bool.eq_iff_iff];simp[CZ];omega)),f⟩
 refine Df c Z Z (Yy 11 Z Z Z ?_)
 exact⟨(by first|rfl|(simp[CZ,c];done)|(simp[CZ,c];omega)|(simp[CZ,c];split<;>first|(exfalso;omega)|(simp;done)|(simp;omega))|(rw[Bool.eq_iff_iff];simp[CZ];omega)),f⟩
variable {Ai Ao:Option Addr}{ni ci wY co:Nat}{zY:List UJ}
set_option maxHeartbeats 2000000 in
theorem Qs (w:World) (hI:Vec w Qp 36 Ai ni ins) (hO:Vec w XQ 2 Ao wY zY) (hU:zo w 0 zY os):Calls prog 136 #[.agg #[.slice Ai ni ci,.slice Ao wY co,J (note)]] w fun r w'=>r= .returned (.bool (Sm ins os note))/\Le w w':=by
 have hIl:=hI.1
 have hOl:=hO.1
 have hUl:=hU.1
 refine En func136 Z (Sr (Yv Z fun x ak aA (d:ik ak x 113 #[.slice Ai ni ci,.slice Ao wY co,J (note)]) al=>?_))
 have e:=(Le.refl w).trans al
 refine Yx 1 Z (Sq (Rr 1 Z (Yk (.slice Ai ni ci) Z d Z (Yn 2 Z ?_))))
 by_cases H:(ni:Int)<1
 ·refine Dt H Z Z (Yx 16 Z (Ct Z (Rn 1 Z (Rt (E.il (E.iC Z Z ?_))))))
  exact⟨rB (LX (by omega)).symm,e⟩
 refine Df H Z Z (Yn 1 Z (Yk (.slice Ai ni ci) Z d Z (Yn 3 Z ?_)))
 by_cases I:64<(ni:Int)
 ·refine Dt I Z Z (Yx 10 Z (Ct Z (Rn 1 Z (Rt (E.il (E.iC Z Z ?_))))))
  exact⟨rB (LX (by omega)).symm,e⟩
 refine Df I Z Z (Yn 1 Z (Yk (.slice Ao wY co) Z d Z (Yn 3 Z ?_)))
 by_cases K:64<(wY:Int)
 ·refine Dt K Z Z (Yx 4 Z (Ct Z (Rn 1 Z (Rt (E.il (E.iC Z Z ?_))))))
  exact⟨rB (LX (by omega)).symm,e⟩
 refine Df K Z Z (Yn 1 Z (Yk (J note) Z d Z (Yx 2 Z ?_)))
 by_cases L:note<0
 ·refine Cy Z (dT L) (Rn 1 Z (Rt (E.il (E.iC Z Z ?_))))
  exact⟨rB (LX (by omega)).symm,e⟩
 refine Cn Z (dF L) (Sn (Sr (W.ef Z Z Z (Ef.wU okf Value.bool fun N an ao ap O=>Yx 1 Z (Sq (Rr 1 Z ?_))))))
 have P:=(d.le O)
 refine Yk (.slice Ai ni ci) Z P Z (Yx 2 Z (Bk ?_))
 refine WC.loop (ι:=Nat×(List (Nat×Vu×Bool))×Nat) (fun⟨k,lh,ch⟩=>[(1,.pointer (some ⟨x,0,none⟩)),(3,.map (some N)),(33,.slice Ai ni ci),(34,J (ni:Int)),(35,J (k:Int))]) (fun⟨k,lh,ch⟩ f=>(k<=ni)/\(∀o,iO o lh=if hadB ins k o=true then some true else none)/\(∀j,j<k->IG ins j=true)/\Le w f/\an.heap.size<=f.heap.size/\ik f x 113 #[.slice Ai ni ci,.slice Ao wY co,J (note)]/\jk f okf Value.bool N lh ch) (fun⟨k,lh,ch⟩=>ni-k) (0,[],0) ?_ ?_ ?_
 ·exact .of Z
 ·exact⟨Nat.zero_le _,(fun _=>rfl),(fun j hj=>absurd hj (Nat.not_lt_zero _)),(e.trans O),Nat.le_refl _,P,ap⟩
 rintro⟨k,lh,ch⟩ f ⟨hk,hm,hq,A,aq,Q,ar⟩
 refine Rn 1 Z (Sq ?_)
 by_cases R:(k:Int)<(ni:Int)
 ·refine Cy Z (dT R) (Nb (Sr (Ys k Z (hI.isSome vN (by omega)) (Wr (.lX acB Z (hI.le A) vN (jN ins iP (by omega))) Z (W.ab Z z198 WN (vN.one (ins.getD k iP)) fun au S aB (i:ik S au 198 (Qp (ins.getD k iP)).toArray) m=>?_)))))
  have n:=A.trans m
  refine Nx (Sq (Rr 2 Z (Yb (O6 ((ins.getD k iP).op)) Z i Z ?_)))
  have U:=(ar.le m)
  refine Wr (.as (.vK (key:=((ins.getD k iP).op)) underlying278 kop z4 Z Z U) (aaq _)) Z ?_
  by_cases V:((iO ((ins.getD k iP).op) lh).getD false)=true
  ·refine Yq 1 Z V (Yx 17 Z (Ct Z (Rn 1 Z (Rt (E.il (E.jc (E.il (E.il (E.jc ?_)))))))))
   refine E.il (E.iC Z Z ?_)
   exact⟨rB (Su (k:=k) (by omega) (Bool.eq_false_iff.2 fun hb=>by obtain⟨e1,e2,e3,e4⟩:=CY hb;rw[<-CX (hm _)]at e1;unfold LK at e4;first|omega|exact e1 (by assumption)|exact absurd e4 (by assumption))).symm,n⟩
  refine Yq 1 Z (Bool.eq_false_iff.2 V) (Yn 2 Z (Yk (J ((ins.getD k iP).op.no)) Z i Z (Yn 2 Z ?_)))
  by_cases X:((ins.getD k iP).op.no)<0
  ·refine Dt X Z Z (Yx 11 Z (Ct Z (Rn 1 Z (Rt (E.il (E.jc (E.il (E.il (E.jc ?_)))))))))
   refine E.il (E.iC Z Z ?_)
   exact⟨rB (Su (k:=k) (by omega) (Bool.eq_false_iff.2 fun hb=>by obtain⟨e1,e2,e3,e4⟩:=CY hb;rw[<-CX (hm _)]at e1;unfold LK at e4;first|omega|exact e1 (by assumption)|exact absurd e4 (by assumption))).symm,n⟩
  refine Df X Z Z (Yn 2 Z (Yk (J ((ins.getD k iP).op.no)) Z i Z (Yn 2 Z ?_)))
  by_cases Y:64<=((ins.getD k iP).op.no)
  ·refine Dt Y Z Z (Yx 5 Z (Ct Z (Rn 1 Z (Rt (E.il (E.jc (E.il (E.il (E.jc ?_)))))))))
   refine E.il (E.iC Z Z ?_)
   exact⟨rB (Su (k:=k) (by omega) (Bool.eq_false_iff.2 fun hb=>by obtain⟨e1,e2,e3,e4⟩:=CY hb;rw[<-CX (hm _)]at e1;unfold LK at e4;first|omega|exact e1 (by assumption)|exact absurd e4 (by assumption))).symm,n⟩
  refine Df Y Z Z (Yn 1 Z (Yb [J ((ins.getD k iP).br),.slice ((ins.getD k iP).sA) ((ins.getD k iP).sN) ((ins.getD k iP).sC),.int .u64 ((ins.getD k iP).sec:Int)] Z i Z (Yc Z (abk ((ins.getD k iP).br) ((ins.getD k iP).sA) ((ins.getD k iP).sN) ((ins.getD k iP).sC) ((ins.getD k iP).sec) S) fun aC l=>?_)))
  have L6:=n.trans l
  refine Yx 2 Z ?_
  by_cases c2:(CZ ((ins.getD k iP).br) ((ins.getD k iP).sN))=true
  ·refine Cn Z (congrArg not c2) (Sn (Rg (Yn 2 Z (Yb (O6 ((ins.getD k iP).op)) Z (i.le l) Z ?_))))
   have hnn:=YB (hm (ins.getD k iP).op) (by assumption)
   refine W.jR Z Z (Ef.Cb (key:=((ins.getD k iP).op)) (u:=true) underlying278 kop Z Z Z (U.le l) hnn fun aD av B=>W.nil (Lp 1 Z Z ?_))
   have aw:=((Q.le (m.trans l)).cn B (by have:=d.lt;omega))
   refine E.again (k+1,(lh++[(ch,((ins.getD k iP).op),true)]),(ch+1)) (.of Z) ?_ ?_
   ·exact⟨by omega,YC hm hnn,(fun j hj=>by rcases Nat.lt_or_ge j k with h|h;exact hq j h;rw[show j=k by omega];exact adV (by rw[<-CX (hm _)];assumption) (by assumption) (by assumption) (by unfold LK;assumption)),(L6.tb B e ao),by have:=aq;have:=m.size;have:=l.size;have:=B.size;omega,aw,av⟩
   first|omega|(simp only[];omega)
  refine Cy Z (congrArg not (Bool.eq_false_iff.2 c2)) (Rn 1 Z (Rt (E.il (E.jc (E.il (E.il (E.jc (E.il (E.iC Z Z ?_)))))))))
  exact⟨rB (Su (k:=k) (by omega) (Bool.eq_false_iff.2 fun hb=>by obtain⟨e1,e2,e3,e4⟩:=CY hb;rw[<-CX (hm _)]at e1;unfold LK at e4;first|omega|exact e1 (by assumption)|exact absurd e4 (by assumption))).symm,L6⟩
 refine Cn Z (dF R) (Ex (Rn 2 Z (Sq (Rr 1 Z (Yk (.slice Ao wY co) Z Q Z (Yx 2 Z (Bk ?_)))))))
 refine WC.loop (ι:=Nat×Int) (fun⟨k2,t⟩=>[(6,J t),(66,.slice Ao wY co),(67,J (wY:Int)),(68,J (k2:Int))]) (fun⟨k2,t⟩ C=>(k2<=wY)/\(xS 0 (os.take k2)=some t)/\Le w C/\f.heap.size<=C.heap.size) (fun⟨k2,t⟩=>wY-k2) (0,0) ?_ ?_ ?_
 ·exact .of Z
 ·exact⟨Nat.zero_le _,rfl,A,Nat.le_refl _⟩
 rintro⟨k2,t⟩ C ⟨aE,ht,D,ax⟩
 refine Rn 1 Z (Sq ?_)
 by_cases c3:(k2:Int)<(wY:Int)
 ·refine Cy Z (dT c3) (Nb (Sr ?_))
  have y:=hU.2 k2 (by omega)
  have ya:=y.am;have yf:=y.few
  obtain⟨ry,aa,ac⟩:=y.rows
  have yk:=aa.1;have yl:=ac.1
  refine Ys k2 Z (hO.isSome zW (by omega)) (Wr (.lX acz Z (hO.le D) zW (jN zY oL (by omega))) Z (W.ab Z adv RA (zW.one (zY.getD k2 oL)) fun ay ad aF (ae:ik ad ay 177 (XQ (zY.getD k2 oL)).toArray) af=>Nx (Rr 2 Z (Yk (J ((zY.getD k2 oL).am)) Z ae Z (Yc Z (Lj t ((zY.getD k2 oL).am) ad) fun az F=>?_)))))
  have s:=(D.trans af).trans F
  refine Yx 5 Z (Rr 2 Z ?_)
  by_cases ah:((pI t ((zY.getD k2 oL).am)).2)=true
  ·refine Yq 1 Z (congrArg not ah) (Yn 1 Z (Yb [.slice ((zY.getD k2 oL).bA) ((zY.getD k2 oL).bN) ((zY.getD k2 oL).bC)] Z (ae.le F) Z (Yc Z (D6 (c:=((zY.getD k2 oL).bC)) az (aa.le s) (ac.le s) (by omega)) fun aG ai=>?_)))
   have aj:=s.trans ai
   refine Yx 2 Z ?_
   by_cases c4:(uw ((os.getD k2 qf).bs))=true
   ·refine Cn Z (congrArg not c4) (WC.skip (Lp 1 Z Z (E.again (k2+1,(pI t (zY.getD k2 oL).am).1) (.of Z) ?_ ?_)))
    ·exact⟨by omega,(by rw[Eb (by omega) ht,<-ya];exact if_pos (by simp_all)),aj,by have:=ax;have:=af.size;have:=F.size;have:=ai.size;omega⟩
    first|omega|(simp only[];omega)
   refine Cy Z (congrArg not (Bool.eq_false_iff.2 c4)) (Rn 1 Z (Rt (E.jc (E.il (E.il (E.jc (E.il (E.iC Z Z ?_))))))))
   exact⟨rB (YE (k:=k2+1) (by rw[Eb (by omega) ht,<-ya];exact if_neg (by simp_all))).symm,aj⟩
  refine Yq 1 Z (congrArg not (Bool.eq_false_iff.2 ah)) (Yx 5 Z (Ct Z (Rn 1 Z (Rt (E.jc (E.il (E.il (E.jc (E.il ?_)))))))))
  refine E.iC Z Z ?_
  exact⟨rB (YE (k:=k2+1) (by rw[Eb (by omega) ht,<-ya];exact if_neg (by simp_all))).symm,s⟩
 refine Cn Z (dF c3) (Ex (Ry 1 Z Z Z ?_))
 exact⟨rB (adW (by omega) (fun j hj=>hq j (by omega)) (by rw[List.take_of_length_le (by omega)]at ht;exact ht)).symm,D⟩
theorem agF (a:Qo):((Qp a).toArray.toList.drop 0).take 32=a.op.id.1.map jf:=by
 have h:=kF a.op.id.2
 have hl:(a.op.id.1.map jf).length=32:=by rw[List.length_map,a.op.id.2]
 simp only[Qp,O6,h,List.drop_zero,List.append_assoc]
 exact List.take_left' hl
def inY (x:Qo):List Byte:=x.op.id.1++jF x.op.no.toNat
def ouY (y:uG):List Byte:=jF y.am.toNat++jF (uy y.bs).length++uy y.bs
def ZB (ins:List Qo)(os:List uG)(note:Int):List Byte:=jF ins.length++(ins.map inY).flatten++jF os.length++(os.map ouY).flatten++jF note.toNat
def nG (ins:List Qo)(os:List uG)(note:Int):List Byte:=if Sm ins os note then tag nTx [ZB ins os note]else noH
theorem l5 (ins:List Qo)(os:List uG)(note:Int):(nG ins os note).length=32:=by
 unfold nG;split
 ·exact jG _ _
 ·rfl
theorem YF (h:Sm ins os note=true):(1<=ins.length/\ins.length<=64/\os.length<=64/\0<=note)/\Ox ins=true/\∃t,xS 0 os=some t:=by
 unfold Sm at h
 simp only[Bool.and_eq_true,decide_eq_true_eq]at h
 exact⟨h.1.1,h.1.2,Option.isSome_iff_exists.1 h.2⟩
set_option maxHeartbeats 2000000 in
theorem Oz (w:World) (hI:Vec w Qp 36 Ai ni ins) (hO:Vec w XQ 2 Ao wY zY) (hU:zo w 0 zY os) (hnt:note<=9223372036854775807) (hx:Sm ins os note=true):Calls prog 137 #[.agg #[.slice Ai ni ci,.slice Ao wY co,J (note)]] w fun r w'=>∃A' c',r= .returned (.slice A' (ZB ins os note).length c')/\iy w' w.heap.size 5 jv 1 A' (ZB ins os note).length c' (ZB ins os note)/\(ZB ins os note).length<=60000/\Le w w':=by
 have hIl:=hI.1
 have hOl:=hO.1
 have hUl:=hU.1
 obtain⟨aO,hxi,ts,hxs⟩:=YF hx
 have hrn:=jy ni (by omega);have hro:=jy wY (by omega);have hrt:=jy note.toNat (by omega)
 refine En func137 Z (Sr (Yv Z fun m u aP (K:ik u m 113 #[.slice Ai ni ci,.slice Ao wY co,J (note)]) aa=>Yx 1 Z (Rr 1 Z (Yk (.slice Ai ni ci) Z K Z (Yn 1 Z (Yd Z (wC ni (by omega) u (Vec.nil _ _ _ _) (by first|omega|(simp only[List.length_append,List.length_nil];omega))) ?_))))))
 rintro _ ac ⟨ad,ae,rfl,af,C⟩
 refine Yx 1 Z (Sq (Rr 1 Z ?_))
 have L:=(K.le C)
 refine Yk (.slice Ai ni ci) Z L Z (Yx 2 Z (Bk ?_))
 refine WC.loop (ι:=Nat×(List (BitVec 8))×(Option Addr)×Nat) (fun⟨k,xs,Aa,ca⟩=>[(1,.pointer (some ⟨m,0,none⟩)),(3,.slice Aa xs.length ca),(13,.slice Ai ni ci),(14,J (ni:Int)),(15,J (k:Int))]) (fun⟨k,xs,Aa,ca⟩ d=>(k<=ni)/\(xs.length<=10+42*k)/\(xs=jF ni++((ins.take k).map inY).flatten)/\Le w d/\ac.heap.size<=d.heap.size/\ik d m 113 #[.slice Ai ni ci,.slice Ao wY co,J (note)]/\iy d u.heap.size 5 jv 1 Aa xs.length ca xs) (fun⟨k,xs,Aa,ca⟩=>ni-k) (0,([]++jF ni),ad,ae) ?_ ?_ ?_
 ·exact .of Z
 ·exact⟨Nat.zero_le _,(by simp only[List.nil_append];omega),(by simp),(((Le.refl w).trans aa).trans C),Nat.le_refl _,L,af⟩
 rintro⟨k,xs,Aa,ca⟩ d ⟨hk,hxl,hxe,D,ah,F,N⟩
 have aQ:u.heap.size<=d.heap.size:=by have:=C.size;omega
 refine Rn 1 Z (Sq ?_)
 by_cases O:(k:Int)<(ni:Int)
 ·refine Cy Z (dT O) (Nb (Sr ?_))
  have aR:=abj hxi (k:=k) (by omega)
  have hid:=(ins.getD k iP).op.id.2
  have hrk:=jy (ins.getD k iP).op.no.toNat (by omega)
  refine Ys k Z (hI.isSome vN (by omega)) (Wr (.lX acB Z (hI.le D) vN (jN ins iP (by omega))) Z (W.ab Z z198 WN (vN.one (ins.getD k iP)) fun ai aj aS (ak:ik aj ai 198 (Qp (ins.getD k iP)).toArray) n=>Nx (WC.draw [0,1,2,3,5,6,7,4,8,9] mixed (by kernel_rfl) fun w5 f=>Xn 3 Z ?_)))
  have P:=(ak.le f)
  refine Gd Z (.Ha ((ins.getD k iP).op.id.1.map jf) ug (by rw[List.length_map,(ins.getD k iP).op.id.2]) (by decide) Z P (agF (ins.getD k iP))) (Xn 2 Z (Xk (J ((ins.getD k iP).op.no)) Z P Z (Xd Z (R4 ((ins.getD k iP).op.id.1) (ins.getD k iP).op.id.2 w5 (N.le (n.trans f)).vec (by first|omega|(simp only[List.length_append,List.length_nil];omega))) ?_)))
  rintro _ al ⟨aT,an,rfl,ao,o⟩
  refine⟨fun _=>o,?_⟩
  refine Xd Z (by have q:=wC ((ins.getD k iP).op.no).toNat (by omega) (c:=an) al ao.vec (by first|omega|(simp only[List.length_append,List.length_nil];omega));rw[Int.toNat_of_nonneg (by omega)]at q;exact q) ?_
  rintro _ aU ⟨ap,aq,rfl,ar,x⟩
  refine⟨fun _=>x,?_⟩
  refine Xn 1 Z (G.nil (Lp 1 Z Z (E.again (k+1,((xs++(ins.getD k iP).op.id.1)++jF ((ins.getD k iP).op.no).toNat),ap,aq) (.of Z) ?_ ?_)))
  ·exact⟨by omega,(by simp only[List.length_append];omega),(by rw[xu (z:=iP) (by omega),hxe];unfold inY;simp only[List.append_assoc]),((((D.trans n).trans f).trans o).trans x),by have:=ah;have:=n.size;have:=f.size;have:=o.size;have:=x.size;omega,(F.le (n.trans (f.trans (o.trans x)))),(ar.mono (by have:=n.size;have:=f.size;have:=o.size;omega))⟩
  first|omega|(simp only[];omega)
 refine Cn Z (dF O) (Ex (Rr 2 Z (Yk (.slice Ao wY co) Z F Z (Yn 1 Z (Yd Z (wC wY (by omega) d N.vec (by first|omega|(simp only[List.length_append,List.length_nil];omega))) ?_)))))
 rintro _ au ⟨av,aw,rfl,ax,H⟩
 refine Yx 1 Z (Sq (Rr 1 Z ?_))
 have Q:=(F.le H)
 refine Yk (.slice Ao wY co) Z Q Z (Yx 2 Z (Bk ?_))
 refine WC.loop (ι:=Nat×(List (BitVec 8))×(Option Addr)×Nat) (fun⟨j,zs,Ab,cb⟩=>[(1,.pointer (some ⟨m,0,none⟩)),(3,.slice Ab zs.length cb),(35,.slice Ao wY co),(36,J (wY:Int)),(37,J (j:Int))]) (fun⟨j,zs,Ab,cb⟩ e=>(j<=wY)/\(zs.length<=2708+640*j)/\(zs=jF ni++(ins.map inY).flatten++jF wY++((os.take j).map ouY).flatten)/\Le w e/\au.heap.size<=e.heap.size/\ik e m 113 #[.slice Ai ni ci,.slice Ao wY co,J (note)]/\iy e d.heap.size 5 jv 1 Ab zs.length cb zs) (fun⟨j,zs,Ab,cb⟩=>wY-j) (0,(xs++jF wY),av,aw) ?_ ?_ ?_
 ·exact .of Z
 ·exact⟨Nat.zero_le _,(by simp only[List.length_append];omega),(by rw[hxe,show ins.take k=ins from List.take_of_length_le (by omega)];simp),(D.trans H),Nat.le_refl _,Q,ax⟩
 rintro⟨j,zs,Ab,cb⟩ e ⟨hj,hzl,hze,A,ay,R,S⟩
 have aV:d.heap.size<=e.heap.size:=by have:=H.size;omega
 refine Rn 1 Z (Sq ?_)
 by_cases U:(j:Int)<(wY:Int)
 ·refine Cy Z (dT U) (Nb (Sr ?_))
  have y:=hU.2 j (by omega)
  have ya:=y.am;have yf:=y.few
  obtain⟨ry,V,X⟩:=y.rows
  have yk:=V.1;have yl:=X.1
  have aW:=Oy hxs j (by omega)
  have hra:=jy (zY.getD j oL).am.toNat (by omega)
  have hlk:=D9 (os.getD j qf).bs;have hrl:=jy (uy (os.getD j qf).bs).length (by omega)
  refine Ys j Z (hO.isSome zW (by omega)) (Wr (.lX acz Z (hO.le A) zW (jN zY oL (by omega))) Z (W.ab Z adv RA (zW.one (zY.getD j oL)) fun az aA aX (aB:ik aA az 177 (XQ (zY.getD j oL)).toArray) s=>Nx (WC.draw [0,1,2,4,5,3,6,7,8] mixed (by kernel_rfl) fun aC i=>Xn 2 Z ?_)))
  have Y:=(aB.le i)
  refine Xk (J ((zY.getD j oL).am)) Z Y Z (Xn 1 Z (Xb [.slice ((zY.getD j oL).bA) ((zY.getD j oL).bN) ((zY.getD j oL).bC)] Z Y Z (Xd Z (by have q:=wC ((zY.getD j oL).am).toNat (by omega) (c:=cb) aC (S.le (s.trans i)).vec (by first|omega|(simp only[List.length_append,List.length_nil];omega));rw[Int.toNat_of_nonneg (by omega)]at q;exact q) ?_)))
  rintro _ aD ⟨aY,aZ,rfl,aE,t⟩
  refine⟨fun _=>t,?_⟩
  have I:=((A.trans s).trans i).trans t
  refine Xd Z (IB (c:=((zY.getD j oL).bC)) aD (V.le I) (X.le I) (by omega)) ?_
  rintro _ aF ⟨a0,a1,rfl,aG,l⟩
  refine⟨fun _=>l,?_⟩
  have a2:=D9 ((os.getD j qf).bs)
  refine Xd Z (aaQ aF (aE.le l).vec (by first|omega|(simp only[List.length_append,List.length_nil];omega)) aG.vec (by first|omega|(simp only[List.length_append,List.length_nil];omega))) ?_
  rintro _ a3 ⟨aH,aI,rfl,aJ,B⟩
  refine⟨fun _=>B,?_⟩
  refine Xn 1 Z (G.nil (Lp 1 Z Z ?_))
  have aK:=(R.le (s.trans (i.trans (t.trans (l.trans B)))))
  refine E.again (j+1,[(zs++jF ((zY.getD j oL).am).toNat),jF ((uy ((os.getD j qf).bs)).length),(uy ((os.getD j qf).bs))].flatten,aH,aI) (.of Z) ?_ ?_
  ·exact⟨by omega,(by simp only[List.flatten_cons,List.flatten_nil,List.append_nil,List.length_append];omega),(by rw[xu (z:=qf) (by omega),hze];unfold ouY;rw[ya];simp only[List.flatten_cons,List.flatten_nil,List.append_nil,List.append_assoc]),((I.trans l).trans B),by have:=ay;have:=s.size;have:=i.size;have:=t.size;have:=l.size;have:=B.size;omega,aK,(aJ.mono (by have:=s.size;have:=i.size;have:=t.size;have:=l.size;omega))⟩
  first|omega|(simp only[];omega)
 refine Cn Z (dF U) (Ex (Rr 2 Z (Yk (J note) Z R Z (Yd Z (by have q:=wC (note).toNat (by omega) (c:=cb) e S.vec (by first|omega|(simp only[List.length_append,List.length_nil];omega));rw[Int.toNat_of_nonneg (by omega)]at q;exact q) ?_))))
 rintro _ a4 ⟨a5,a6,rfl,aL,aM⟩
 have aN:=A.trans aM
 refine Yy 1 Z Z Z ?_
 have he:ZB ins os note=zs++jF note.toNat:=by unfold ZB;rw[hze,show os.take j=os from List.take_of_length_le (by omega),<-hUl,hOl,hIl]
 exact⟨_,_,by rw[he],by rw[he];exact(aL.mono A.size),by rw[he];simp only[List.length_append];omega,aN⟩
theorem ve (w:World)(hI:Vec w Qp 36 Ai ni ins)(hO:Vec w XQ 2 Ao wY zY)(hU:zo w 0 zY os)(hnt:note<=9223372036854775807):Calls prog 83 #[.agg #[.slice Ai ni ci,.slice Ao wY co,J (note)]] w fun r w'=>r= .returned (.agg (jV (nG ins os note)).toArray)/\Le w w':=by
 have hIl:=hI.1
 have hOl:=hO.1
 have hUl:=hU.1
 refine En func83 Z (Sr (Yv Z fun F H X (I:ik H F 113 #[.slice Ai ni ci,.slice Ao wY co,J (note)]) K=>?_))
 have f:=(Le.refl w).trans K
 refine Yz Z z23 fun i o t (u:ik o i 23 (jV noH).toArray) x=>?_
 have d:=f.trans x
 refine Nx (Sq (Sr ?_))
 have y:=(I.le x)
 refine Yh Z y (Yc Z (Qs (ci:=ci) (co:=co) (note:=note) o (hI.le d) (hO.le d) (hU.le d)) fun L e=>?_)
 have c:=d.trans e
 refine Yx 1 Z ?_
 by_cases A:(Sm ins os note)=true
 ·refine Cn Z (congrArg not A) (Sn (Sr (Yh Z (y.le e) (Yd Z (Oz (ci:=ci) (co:=co) (note:=note) L (hI.le c) (hO.le c) (hU.le c) (by omega) (by assumption)) ?_))))
  rintro _ Y ⟨N,O,rfl,P,aa,B⟩
  refine W.ef Z Z Z (Ef.lQ [_] underlying266 FC Z (by intro v hv;simp at hv;rcases hv with rfl<;>rfl) Z (by decide) (by decide) ?_)
  intro Q C ac j k
  have j:ik C Q 78 #[.slice N ((ZB ins os note).length) O]:=j
  refine Yc Z (Ib _ nTx C (ps:=[(ZB ins os note)]) Z (j.sl (s:=1) (n:=1) Z) (.cons (tC (P.le k).vec) (.nil _)) (by rw[RN];show 16+2+_<=_;omega)) fun ad D=>W.jR Z Z (Ef.storeAll zb (by simp[(jG _ _)]) Z Z (u.le (e.trans (B.trans (k.trans D)))) (by simp[(jG _ _),qc.len]) (rT _) ?_)
  intro R l S
  have l:ik R i 23 ((tag nTx [(ZB ins os note)]).map jf).toArray:=l
  refine Nx (Re Z (lV Z l ug (by simp[(jG _ _)])) ?_)
  exact⟨by rw[show nG ins os note=_ from if_pos (by assumption),kF (jG _ _)],((((c.trans B).trans k).trans D).tb S f t)⟩
 refine Cy Z (congrArg not (Bool.eq_false_iff.2 A)) (Sr (Wa (.kU (cells:=(jV noH).toArray) underlying23 yC z23 Z Z) Z (Yw Z (u.le e) (qc.one noH) ?_)))
 intro U m V
 have m:ik U i 23 (jV noH).toArray:=m
 refine Nx (Rt (E.il (E.iC Z (lV Z m ug (by rfl)) ?_)))
 exact⟨by rw[show nG ins os note=_ from if_neg (by assumption)],(c.tb V f t)⟩
theorem sU (a b:jw):yU prog (d+2) 35 (.agg (jq a).toArray) (.agg (jq b).toArray) (decide (a=b)):=by
 have h:=yU.arr (P:=prog) (d:=d+1) (xs:=(jq a).toArray) (ys:=(jq b).toArray) (fun i=>decide (a.ix i=b.ix i)) (fun i=> J (a.ix i)) (fun i=> J (b.ix i)) underlying35 nC (fun i hi w=>kR yH (by rw[Nat.mul_one];exact CJ a hi) w) (fun i hi w=>kR yH (by rw[Nat.mul_one];exact CJ b hi) w) (fun i hi=>yU.int (P:=prog) _ _ underlying3)
 have e:((List.range 2).all fun i=>decide (a.ix i=b.ix i))=decide (a=b):=by
  obtain⟨c,f⟩:=a
  obtain⟨j,k⟩:=b
  rw[Bool.eq_iff_iff]
  simp[List.range_succ,jw.ix]
 rw[e]at h
 exact h
namespace S46
instance (n : Nat) (t : Seat) : Decidable (o7 n t) := by unfold o7; infer_instance
theorem LY {s:rP}(h:s.lh.isEmpty=true)(h2:(1<=s.own.length/\s.own.length<=12)/\(∀x∈s.own,0<=x)/\(∀x∈s.ls,x.2.1=x.2.2.ch/\(0<=x.2.1/\x.2.1<40)/\o7 s.own.length x.2.2)/\(nK s.ls).Nodup/\0<=s.lost/\s.all<=1125899906842624):jB s:=by
 have e:s.lh=[]:=List.isEmpty_iff.1 h
 obtain⟨c,d,f,i,j,k⟩:=h2
 exact⟨c,d,f,i,(by rw[e];intro x hx;cases hx),(by rw[e];exact .nil),j,k⟩
def s0:rP:=⟨[100,100,50],[],0,[],0,0⟩
def s1:rP:=(pE s0 (⟨3,0,1,60,0⟩:Seat) 5).1
theorem e1:pE s0 (⟨3,0,1,60,0⟩:Seat) 5=(s1,0):=by decide+kernel
theorem e2:pE s1 (⟨3,1,2,0,0⟩:Seat) 0=(s1,4):=by decide+kernel
theorem e3:pE s1 (⟨4,0,1,36,0⟩:Seat) 0=(s1,8):=by decide+kernel
theorem e4:uN s1.own 0=35:=by decide+kernel
theorem e5:mG s1.own s1.ls s1.lh 0=95:=by decide+kernel
def s6:rP:=(nI s1 3 0 1 40 16).1
theorem e6:nI s1 3 0 1 40 16=(s6,0):=by decide+kernel
theorem e7:jA s6.lh 3 0=40:=by decide+kernel
theorem e8:mG s6.own s6.ls s6.lh 0=95:=by decide+kernel
theorem e9:K8 s6 3 (⟨0,0⟩:jw)=(s6,14):=by decide+kernel
theorem e10:lZ s6 3 0 1 3=(s6,23):=by decide+kernel
def s11:rP:=(lZ s6 3 0 1 2).1
theorem e11:lZ s6 3 0 1 2=(s11,0):=by decide+kernel
theorem e12:mG s11.own s11.ls s11.lh 1=140:=by decide+kernel
theorem e13:um s11 3 0 1=(s11,5):=by decide+kernel
def s14:rP:=(pE s11 (⟨7,1,2,30,10⟩:Seat) 0).1
theorem e14:pE s11 (⟨7,1,2,30,10⟩:Seat) 0=(s14,0):=by decide+kernel
def s15:rP:=(K9 s14 [(⟨3,0,12⟩:Bc),(⟨7,0,11⟩:Bc)]).1
theorem e15:K9 s14 [(⟨3,0,12⟩:Bc),(⟨7,0,11⟩:Bc)]=(s15,0):=by decide+kernel
theorem agG:jB s15:=LY (by decide+kernel) (by decide+kernel)
theorem e16:mG s15.own s15.ls s15.lh 2=61:=by decide+kernel
theorem e17:K9 s15 [(⟨3,0,1⟩:Bc),(⟨7,0,99⟩:Bc)]=(s15,8):=by decide+kernel
theorem e18:mG s15.own s15.ls s15.lh 0=43:=by decide+kernel
def s19:rP:=(uP s15 [3,7] [(⟨3,0,2,8,21⟩:Seat),(⟨9,1,0,70,0⟩:Seat)] [0,1,0]).1
theorem e19:uP s15 [3,7] [(⟨3,0,2,8,21⟩:Seat),(⟨9,1,0,70,0⟩:Seat)] [0,1,0]=(s19,0):=by decide+kernel
theorem aik:jB s19:=LY (by decide+kernel) (by decide+kernel)
def s20:rP:=(qR s19 9 (⟨(-20),30⟩:jw) (⟨2,0⟩:jw)).1
theorem e20:qR s19 9 (⟨(-20),30⟩:jw) (⟨2,0⟩:jw)=(s20,0):=by decide+kernel
theorem ail:jB s20:=LY (by decide+kernel) (by decide+kernel)
theorem e21:uN s20.own 1=88:=by decide+kernel
theorem e22:uN s20.own 0=5:=by decide+kernel
theorem aim:rW s20.ls 9=⟨9,1,0,50,30⟩:=by decide+kernel
theorem ain:(iO 9 s20.ls).isSome=true:=by decide+kernel
theorem aio:(DL s20.ls).length=2:=by decide+kernel
theorem aip:s20.all-s20.lost=242:=by decide+kernel
theorem agH:s20.lost=8:=by decide+kernel
end S46
open S46
theorem II (w:World):Calls prog 4 #[] w fun r w'=>r= .returned (.bool true)/\Le w w':=by
 refine En func4 Z (Rn 1 Z (Sr (W.ef Z Z Z (Ef.iw (len:=3) [_,_,_] underlying48 Je Z (by simp[Value.cells]) Z (by decide) (by decide) ?_))))
 intro ah x a7 y a8
 have c:=(Le.refl w).trans a8
 have y:ik x ah 3 (([100,100,50]).map iv).flatten.toArray:=y
 have a9:iy x w.heap.size 3 iv 1 (some ⟨ah,0,none⟩) 3 3 ([100,100,50]):=y.j4 a7 iQ Z Z (by decide)
 refine Yd Z (R7 x a9.vec (by decide)) ?_
 rintro _ ba ⟨bQ,bR,rfl,bb,bc⟩
 refine Yx 1 Z (Sq (Rr 1 Z (Wa (.dec (.Lc (by kernel_rfl) Z) Z) Z (Yn 1 Z (Yc Z (Ip ba (Vec.nil _ _ _ _) (by decide)) fun bd ai=>Wg (Any.rd (.dec (.uE (by kernel_rfl) Z) Z) _) Z (Yn 2 Z (W.MN Z Z Z Z Z Z (Ef.iw (len:=2) [_,_] underlying48 Je Z (by simp[Value.cells]) Z (by decide) (by decide) ?_))))))))
 intro aj A be B ak
 have B:ik A aj 3 (([1125899906842624,1]).map iv).flatten.toArray:=B
 have bf:iy A bd.heap.size 3 iv 1 (some ⟨aj,0,none⟩) 2 2 ([1125899906842624,1]):=B.j4 be iQ Z Z (by decide)
 refine Yc Z (Ip A bf.vec (by decide)) fun bg al=>Wg (Any.rd (.dec (.uE (by kernel_rfl) Z) Z) _) Z (Yn 2 Z (W.MN Z Z Z Z Z Z (Ef.iw (len:=1) [_] underlying48 Je Z (by simp[Value.cells]) Z (by decide) (by decide) ?_)))
 intro an C bh D ao
 have D:ik C an 3 (([(-1)]).map iv).flatten.toArray:=D
 have bi:iy C bg.heap.size 3 iv 1 (some ⟨an,0,none⟩) 1 1 ([(-1)]):=D.j4 bh iQ Z Z (by decide)
 refine Yc Z (Ip C bi.vec (by decide)) fun bS ap=>Wg (Any.rd (.dec (.uE (by kernel_rfl) Z) Z) _) Z (Yx 1 Z (Cf Z (Sn (Rr 1 Z (Wa (.kU (cells:=(jq (⟨0,1⟩:jw)).toArray) underlying35 nC z35 Z Z) Z (Wa (.kU (cells:=(jq (⟨60,0⟩:jw)).toArray) underlying35 nC z35 Z Z) Z (Wa (.iF (iV (⟨3,0,1,60,0⟩:Seat)) P7 z52 Z Z) Z ?_)))))))
 have f8:=(bb.le (ai.trans (ak.trans (al.trans (ao.trans ap)))))
 refine Yd Z (by have h:=zn (s:=s0) (⟨3,0,1,60,0⟩:Seat) 5 f8;rw[e1]at h;exact h) ?_
 rintro _ bT ⟨bU,rfl,aq,bV,bj⟩
 refine Yq 1 Z (show _=true from by first|decide|rfl) (Yn 2 Z (Wg (Any.rd (.kU (cells:=(jq (⟨1,2⟩:jw)).toArray) underlying35 nC z35 Z Z) _) Z (Wg (Any.rd (.iF (iV (⟨3,1,2,0,0⟩:Seat)) P7 z52 Z Z) _) Z (Yd Z (by have h:=zn (s:=s1) (⟨3,1,2,0,0⟩:Seat) 0 aq;rw[e2]at h;exact h) ?_))))
 rintro _ bW ⟨bX,rfl,ar,bY,bk⟩
 refine Yq 1 Z (show _=true from by first|decide|rfl) (Yn 3 Z (Wg (Any.rd (.kU (cells:=(jq (⟨0,1⟩:jw)).toArray) underlying35 nC z35 Z Z) _) Z (Wg (Any.rd (.kU (cells:=(jq (⟨36,0⟩:jw)).toArray) underlying35 nC z35 Z Z) _) Z (Wg (Any.rd (.iF (iV (⟨4,0,1,36,0⟩:Seat)) P7 z52 Z Z) _) Z (Yd Z (by have h:=zn (s:=s1) (⟨4,0,1,36,0⟩:Seat) 0 ar;rw[e3]at h;exact h) ?_)))))
 rintro _ bZ ⟨b0,rfl,au,b1,bl⟩
 refine Yq 1 Z (show _=true from by first|decide|rfl) (Yn 3 Z (Yc Z (by have h:=LA (s:=s1) 0 au;rw[e4]at h;exact h) fun b2 av=>?_))
 refine Yq 1 Z (show _=true from by first|decide|rfl) (Yn 3 Z ?_)
 have aw:=(au.le av)
 refine Yc Z (by have h:=qw (s:=s1) 0 aw;rw[e5]at h;exact h) fun b3 ax=>?_
 refine Yq 1 Z (show _=true from by first|decide|rfl) (Yx 2 Z (Rr 1 Z ?_))
 have ay:=(aw.le ax)
 refine Yd Z (by have h:=Ka (s:=s1) 3 0 1 40 16 (by omega) ay (by rw[e6]);rw[e6]at h;exact h) ?_
 rintro _ b4 ⟨b5,rfl,az,b6,bm⟩
 refine Yq 1 Z (show _=true from by first|decide|rfl) (Yn 2 Z (Yc Z (by have h:=XN (s:=s6) 3 0 az;rw[e7]at h;exact h) fun b7 aA=>?_))
 refine Yq 1 Z (show _=true from by first|decide|rfl) (Yn 3 Z ?_)
 have aB:=(az.le aA)
 refine Yc Z (by have h:=qw (s:=s6) 0 aB;rw[e8]at h;exact h) fun b8 aC=>?_
 refine Yq 1 Z (show _=true from by first|decide|rfl) (Yn 3 Z (Wg (Any.rd (.kU (cells:=(jq (⟨0,0⟩:jw)).toArray) underlying35 nC z35 Z Z) _) Z ?_))
 have aD:=(aB.le aC)
 refine Yd Z (by have h:=UA (s:=s6) 3 (⟨0,0⟩:jw) aD (by decide) (t:=⟨3,0,1,20,0⟩) (by decide+kernel) (by decide+kernel);rw[e9]at h;exact h) ?_
 rintro _ b9 ⟨ca,rfl,aE,cc,bn⟩
 refine Yq 1 Z (show _=true from by first|decide|rfl) (Yn 3 Z (Yd Z (by have h:=Bo (s:=s6) 3 0 1 3 aE;rw[e10]at h;exact h) ?_))
 rintro _ cd ⟨ce,rfl,aF,ci,bo⟩
 have bp:=(((((((((((((((c.trans bc).trans ai).trans ak).trans al).trans ao).trans ap).jP bj (fun i hi=>Nat.le_trans c.size (f8.old hi))).jP bk (fun i hi=>Nat.le_trans c.size (aq.old hi))).jP bl (fun i hi=>Nat.le_trans c.size (ar.old hi))).trans av).trans ax).jP bm (fun i hi=>Nat.le_trans c.size (ay.old hi))).trans aA).trans aC).jP bn (fun i hi=>Nat.le_trans c.size (aD.old hi))).jP bo (fun i hi=>Nat.le_trans c.size (aE.old hi))
 refine Yq 1 Z (show _=true from by first|decide|rfl) (Yn 3 Z (Yd Z (by have h:=Bo (s:=s6) 3 0 1 2 aF;rw[e11]at h;exact h) ?_))
 rintro _ cj ⟨ck,rfl,aG,cm,bq⟩
 refine Yq 1 Z (show _=true from by first|decide|rfl) (Yn 3 Z (Yc Z (by have h:=qw (s:=s11) 1 aG;rw[e12]at h;exact h) fun cp aH=>?_))
 refine Yq 1 Z (show _=true from by first|decide|rfl) (Yn 3 Z ?_)
 have aI:=(aG.le aH)
 refine Yd Z (by have h:=Oe (s:=s11) 3 0 1 aI;rw[e13]at h;exact h) ?_
 rintro _ cq ⟨cr,rfl,aJ,ct,bs⟩
 refine Yq 1 Z (show _=true from by first|decide|rfl) (Yx 2 Z (Rr 1 Z (Wa (.kU (cells:=(jq (⟨1,2⟩:jw)).toArray) underlying35 nC z35 Z Z) Z (Wa (.kU (cells:=(jq (⟨30,10⟩:jw)).toArray) underlying35 nC z35 Z Z) Z (Wa (.iF (iV (⟨7,1,2,30,10⟩:Seat)) P7 z52 Z Z) Z (Yd Z (by have h:=zn (s:=s11) (⟨7,1,2,30,10⟩:Seat) 0 aJ;rw[e14]at h;exact h) ?_))))))
 rintro _ bt ⟨bu,rfl,aK,cu,bv⟩
 refine Yq 1 Z (show _=true from by first|decide|rfl) (Yn 2 Z (Wg (Any.rd (.iF (DW (⟨3,0,12⟩:Bc)) aav z99 Z Z) _) Z (Wg (Any.rd (.iF (DW (⟨7,0,11⟩:Bc)) aav z99 Z Z) _) Z (W.MN Z Z Z Z Z Z (Ef.iw (len:=2) [_,_] underlying100 aau Z (by simp[Value.cells,uX.len]) Z (by decide) (by decide) ?_)))))
 intro F aL bw H aM
 have H:ik aL F 99 (([(⟨3,0,12⟩:Bc),(⟨7,0,11⟩:Bc)]).map DW).flatten.toArray:=H
 have I:iy aL bt.heap.size 99 DW 3 (some ⟨F,0,none⟩) 2 2 ([(⟨3,0,12⟩:Bc),(⟨7,0,11⟩:Bc)]):=H.j4 bw uX Z Z (by decide)
 have aN:=(aK.le aM)
 refine Yd Z (by have h:=R6 (s:=s14) (cg:=2) aN (by rw[e15];exact agG) I.vec (by omega) (fun q e l m=>(show∀g,rowOf (some ⟨F,0,none⟩) 2=some g->¬bu g from(fun g hg hF=>by have:=aK.lt hF;have:=(I.row hg).1;omega)) q (zm e (by have:=I.cap;omega)));rw[e15]at h;exact h) ?_
 rintro _ cv ⟨bx,rfl,K,cw,bz⟩
 refine Yq 1 Z (show _=true from by first|decide|rfl) (Yn 3 Z (Yc Z (by have h:=qw (s:=s15) 2 K;rw[e16]at h;exact h) fun bA L=>?_))
 refine Yq 1 Z (show _=true from by first|decide|rfl) (Yn 3 Z (Wg (Any.rd (.iF (DW (⟨3,0,1⟩:Bc)) aav z99 Z Z) _) Z (Wg (Any.rd (.iF (DW (⟨7,0,99⟩:Bc)) aav z99 Z Z) _) Z (W.MN Z Z Z Z Z Z (Ef.iw (len:=2) [_,_] underlying100 aau Z (by simp[Value.cells,uX.len]) Z (by decide) (by decide) ?_)))))
 intro N aO bB O aP
 have O:ik aO N 99 (([(⟨3,0,1⟩:Bc),(⟨7,0,99⟩:Bc)]).map DW).flatten.toArray:=O
 have P:iy aO bA.heap.size 99 DW 3 (some ⟨N,0,none⟩) 2 2 ([(⟨3,0,1⟩:Bc),(⟨7,0,99⟩:Bc)]):=O.j4 bB uX Z Z (by decide)
 have aQ:=(K.le (L.trans aP))
 refine Yd Z (by have h:=R6 (s:=s15) (cg:=2) aQ (by rw[e17];exact agG) P.vec (by omega) (fun q e l m=>(show∀g,rowOf (some ⟨N,0,none⟩) 2=some g->¬bx g from(fun g hg hF=>by have:=K.lt hF;have:=L.size;have:=(P.row hg).1;omega)) q (zm e (by have:=P.cap;omega)));rw[e17]at h;exact h) ?_
 rintro _ cx ⟨Q,rfl,f,cy,bC⟩
 refine Yq 1 Z (show _=true from by first|decide|rfl) (Yn 3 Z (Yc Z (by have h:=qw (s:=s15) 0 f;rw[e18]at h;exact h) fun bD j=>?_))
 refine Yq 1 Z (show _=true from by first|decide|rfl) (Yx 2 Z (Rr 1 Z (W.ef Z Z Z (Ef.iw (len:=2) [_,_] underlying48 Je Z (by simp[Value.cells]) Z (by decide) (by decide) ?_))))
 intro R S bE U n
 have U:ik S R 3 (([3,7]).map iv).flatten.toArray:=U
 have bF:iy S bD.heap.size 3 iv 1 (some ⟨R,0,none⟩) 2 2 ([3,7]):=U.j4 bE iQ Z Z (by decide)
 refine Wa (.kU (cells:=(jq (⟨0,2⟩:jw)).toArray) underlying35 nC z35 Z Z) Z (Wa (.kU (cells:=(jq (⟨8,21⟩:jw)).toArray) underlying35 nC z35 Z Z) Z (Wa (.iF (iV (⟨3,0,2,8,21⟩:Seat)) P7 z52 Z Z) Z (Wa (.kU (cells:=(jq (⟨1,0⟩:jw)).toArray) underlying35 nC z35 Z Z) Z (Wa (.kU (cells:=(jq (⟨70,0⟩:jw)).toArray) underlying35 nC z35 Z Z) Z (Wa (.iF (iV (⟨9,1,0,70,0⟩:Seat)) P7 z52 Z Z) Z (W.ef Z Z Z (Ef.iw (len:=2) [_,_] underlying102 PX Z (by simp[Value.cells,iI.len]) Z (by decide) (by decide) ?_)))))))
 intro V X bG Y o
 have Y:ik X V 52 (([(⟨3,0,2,8,21⟩:Seat),(⟨9,1,0,70,0⟩:Seat)]).map iV).flatten.toArray:=Y
 have bH:iy X S.heap.size 52 iV 5 (some ⟨V,0,none⟩) 2 2 ([(⟨3,0,2,8,21⟩:Seat),(⟨9,1,0,70,0⟩:Seat)]):=Y.j4 bG iI Z Z (by decide)
 refine W.ef Z Z Z (Ef.iw (len:=3) [_,_,_] underlying48 Je Z (by simp[Value.cells]) Z (by decide) (by decide) ?_)
 intro aa aR bI ac u
 have ac:ik aR aa 3 (([0,1,0]).map iv).flatten.toArray:=ac
 have ad:iy aR X.heap.size 3 iv 1 (some ⟨aa,0,none⟩) 3 3 ([0,1,0]):=ac.j4 bI iQ Z Z (by decide)
 have aS:=(f.le (j.trans (n.trans (o.trans u))))
 have ae:=(bF.le (o.trans u))
 have af:=(bH.le u)
 have _:=j.size
 have _:=n.size
 refine Yd Z (by have h:=aaX (s:=s15) (co:=2) (cS:=2) (cf:=3) aS (by decide+kernel) (by rw[e19];exact aik) ae.vec af.vec ad.vec (by omega) (by omega) (by omega) (fun q e l m=>(show∀g,rowOf (some ⟨R,0,none⟩) 2=some g->¬Q g from(fun g hg hF=>by have:=f.lt hF;have:=(ae.row hg).1;omega)) q (zm e (by have:=ae.cap;omega))) (fun q e l m=>(show∀g,rowOf (some ⟨V,0,none⟩) 2=some g->¬Q g from(fun g hg hF=>by have:=f.lt hF;have:=(af.row hg).1;omega)) q (zm e (by have:=af.cap;omega))) (fun q e l m=>(show∀g,rowOf (some ⟨aa,0,none⟩) 3=some g->¬Q g from(fun g hg hF=>by have:=f.lt hF;have:=o.size;have:=(ad.row hg).1;omega)) q (zm e (by have:=ad.cap;omega)));rw[e19]at h;exact h) ?_
 rintro _ cz ⟨cA,rfl,aT,cB,bJ⟩
 refine Yq 1 Z (show _=true from by first|decide|rfl) (Yn 2 Z (Wg (Any.rd (.kU (cells:=(jq (⟨(-20),30⟩:jw)).toArray) underlying35 nC z35 Z Z) _) Z (Wg (Any.rd (.kU (cells:=(jq (⟨2,0⟩:jw)).toArray) underlying35 nC z35 Z Z) _) Z (Yd Z (by have h:=Qh (s:=s19) 9 (⟨(-20),30⟩:jw) (⟨2,0⟩:jw) (by intro k hk;have:k=0\/k=1:=(by omega);rcases this with rfl|rfl<;>simp[jw.ix]) aT (by rw[e20];exact ail);rw[e20]at h;exact h) ?_))))
 rintro _ cC ⟨cD,rfl,aU,cE,bK⟩
 have bL:=((((((((((((((bp.jP bq (fun i hi=>Nat.le_trans c.size (aF.old hi))).trans aH).jP bs (fun i hi=>Nat.le_trans c.size (aI.old hi))).jP bv (fun i hi=>Nat.le_trans c.size (aJ.old hi))).trans aM).jP bz (fun i hi=>Nat.le_trans c.size (aN.old hi))).trans L).trans aP).jP bC (fun i hi=>Nat.le_trans c.size (aQ.old hi))).trans j).trans n).trans o).trans u).jP bJ (fun i hi=>Nat.le_trans c.size (aS.old hi))).jP bK (fun i hi=>Nat.le_trans c.size (aT.old hi))
 refine Yq 1 Z (show _=true from by first|decide|rfl) (Yn 3 Z (Yc Z (by have h:=LA (s:=s20) 1 aU;rw[e21]at h;exact h) fun cF aV=>?_))
 refine Yq 1 Z (show _=true from by first|decide|rfl) (Yn 3 Z ?_)
 have aW:=(aU.le aV)
 refine Yc Z (by have h:=LA (s:=s20) 0 aW;rw[e22]at h;exact h) fun cG aX=>?_
 refine Yq 1 Z (show _=true from by first|decide|rfl) (Yx 2 Z (Rr 1 Z ?_))
 have aY:=(aW.le aX)
 refine Yc Z (by have h:=Io (s:=s20) 9 aY;rw[aim,ain]at h;exact h) fun cH aZ=>?_
 refine Yn 1 Z (Wa (.extract (v:= .agg (iV (⟨9,1,0,50,30⟩:Seat)).toArray) Z Z) Z (Wa (.extract (v:= .bool true) Z Z) Z (W.ab Z z52 wu (iI.one (⟨9,1,0,50,30⟩:Seat)) fun bM bN cI (bO:ik bN bM 52 (iV (⟨9,1,0,50,30⟩:Seat)).toArray) a0=>Yx 1 Z (Rr 15 Z (Yb [J ((⟨9,1,0,50,30⟩:Seat).h0),J ((⟨9,1,0,50,30⟩:Seat).h1)] Z bO Z (Wg (Any.rd (.kU (cells:=(jq (⟨50,30⟩:jw)).toArray) underlying35 nC z35 Z Z) _) Z (Wg (Any.rd (.dec (.eqA PV Z Z (sU (d:=9998) (⟨(⟨9,1,0,50,30⟩:Seat).h0,(⟨9,1,0,50,30⟩:Seat).h1⟩:jw) (⟨50,30⟩:jw))) (show _=true from by decide)) _) Z (Yn 3 Z ?_))))))))
 have a1:=(aY.le (aZ.trans a0))
 refine Yd Z (by have h:=UC (s:=s20) a1;rw[aio]at h;exact h) ?_
 rintro _ cJ ⟨cK,cL,rfl,cM,a2⟩
 refine Yq 2 Z (show _=true from by first|decide|rfl) (Yn 3 Z ?_)
 have a3:=(a1.le a2)
 refine Yc Z (by have h:=Kb (s:=s20) a3;rw[aip]at h;exact h) fun cN a4=>?_
 refine Yn 1 Z ?_
 have a5:=(a3.le a4)
 refine Yc Z (by have h:=Im (s:=s20) a5;rw[agH]at h;exact h) fun cO a6=>?_
 refine Yp Z (Yq 1 Z (show _=true from by decide) (Yn 3 Z (Yc Z (by have h:=Im (s:=s20) (a5.le a6);rw[agH]at h;exact h) fun cP bP=>?_)))
 refine Yq 1 Z (show _=true from by first|decide|rfl) (Yy 2 Z Z Z ?_)
 exact⟨rfl,((((((((bL.trans aV).trans aX).trans aZ).trans a0).trans a2).trans a4).trans a6).trans bP)⟩
end Go.Proofs.YtkpmaajniagncaaGreatDoor
