/- LedgerSides: for every input the law answers true and leaves its arguments as they were. -/
import Derived.Test.YtkpmaajniagncaaGreatDoorLedgerSidesP
import Derived.Lib.Bytealg
set_option linter.defProp false
set_option linter.unusedVariables false
set_option linter.unusedSimpArgs false
namespace Go.Sx
open Go
theorem Ba {P:Program}{w:World}:∀(l:List (BitVec 8)) (a:Addr) (acc:ByteArray),(∀j u,(l.map jf)[j]? =some u->w.cell? (a.add j)=some u)->(Extern.Bytes.loadBytes a l.length acc).run P w= .ok ⟨acc.data++(l.map fun b=>b.toNat.toUInt8).toArray⟩ w
 |[],a,acc,_=>by simp[Extern.Bytes.loadBytes]
 |b::l,a,acc,h=>by
  have h0:=h 0 (jf b) Z
  have c:a.add 0=a:=by simp[Addr.add]
  rw[c]at h0
  have ea:∀j,(a.add 1).add j=a.add (j+1):=fun j=>by
   rcases Nat.eq_zero_or_pos j with h0|h0
   ·subst h0;simp[Addr.add]
   ·have d:j≠0:=by omega
    simp[Addr.add,d];omega
  have ih:=Ba (P:=P) (w:=w) l (a.add 1) (acc.push b.toNat.toUInt8) fun j u hu=>by
   rw[ea];exact h (j+1) u (by simpa using hu)
  simp only[List.length_cons,Extern.Bytes.loadBytes,Sem.run_bind,run_load,h0,Result.andThen,jf,Int.toNat_natCast]
  rw[ih]
  simp
variable {P:Program}{w:World}{n:Nat}
theorem Fj {A:Option Addr}{c:Nat}{xs:List (BitVec 8)}(h:Sb w A n xs):(Extern.Bytes.bytesOf (.slice A n c)).run P w= .ok ⟨(xs.map fun b=>b.toNat.toUInt8).toArray⟩ w:=by
 cases A with
 |none=>
  have hn:xs=[]:=by
   rcases Nat.eq_zero_or_pos n with e|e
   ·exact List.length_eq_zero_iff.1 (h.len.trans e)
   ·have:=h.isSome e;cases this
  subst hn
  rfl
 |some a=>
  have hl:=h.len
  subst hl
  have d:=Ba (P:=P) (w:=w) xs a .empty fun j u hu=>by
   obtain⟨ad,e,hc⟩:=h.2 j u hu
   cases e
   exact hc
  show(Extern.Bytes.loadBytes a xs.length .empty).run P w=_
  rw[d]
  simp
theorem Ef.abl {env:Env}{K:Value->World->Prop}{d:Option Nat}{T:TypeId}{p:String}{af:Array Edge}{g:Option (Nat×Bool)}{f:FuncId}{fn:Func}{x y:Operand}{ats:Array TypeId}{u v r:Value}{e:Array Value->Sem Value}(hf:P.funcs[f]? =some fn)(hname:(fn.name== "runtime.NumGoroutine")=false)(hb:fn.body.isNone=true)(hn:Extern.findNext fn=none)(he:Extern.find fn=some e)
  (hx:ev env x=some u)(hy:ev env y=some v)(hr:(e #[u,v]).run P w= .ok r w)(h:K r w):Ef P env n ⟨d,.call ⟨.value (.func f),#[x,y],ats⟩,T,p,af,g⟩ w K:=by
 refine .of_run (v:=r) (w':=w) (fun a ha=>?_) h
 have hfo:=ha.eval (show ev env (.func f)=some (.func (.func f) #[] #[])from Z)
 have hc:=run_callFunc_extern hf hname hb hn he (args:=#[u,v]) (w:=w)
 rw[hr]at hc
 simp[execOp,resolve,Deferred.ofValue,invoke,ha.eval hx,ha.eval hy,hfo,hc]
end Go.Sx
namespace Go.Proofs.YtkpmaajniagncaaGreatDoor
open Tryz
open Go Go.Sx Go.Fv Go.Num Go.KJ Go.Gz Go.Lsp Go.JQ Go.yA Go.GJ
set_option maxRecDepth 20000
structure vP where
 am:Int
 bA:Option Addr
 bN:Nat
 bC:Nat
 FF:Int
 c:mF
 lk:List Bp
 rs:List qZ
def jS:vP:=⟨0,none,0,0,0,ag,[],[]⟩
def Fp (x:vP):List Value:=[J x.am,.slice x.bA x.bN x.bC,J x.FF,J x.c.fr,J x.c.id,J x.c.am,.int .u64 (x.c.pt:Int),J x.c.ex]++jV (tQ x.lk)
theorem mW:kM Fp 40:=⟨fun x=>by simp[Fp,jV],fun x v hv=>by
 rcases List.mem_append.1 hv with hv|hv
 ·simp only[List.mem_cons,List.not_mem_nil,or_false]at hv;rcases hv with rfl|rfl|rfl|rfl|rfl|rfl|rfl|rfl<;>rfl
 ·exact zV _ v hv,by decide⟩
def u8s (l:List Byte):List UInt8:=l.map fun b=>b.toNat.toUInt8
def UT (a b:List Byte):Int:=Lib.compareBytes (u8s a) (u8s b)
def adX (a b:vP):Int:=ZA [pJ a.am b.am,UT (tQ a.lk) (tQ b.lk),pJ a.FF b.FF,pJ a.c.fr b.c.fr,pJ a.c.id b.c.id]
def Ec (a b:vP):Bool:=decide (adX a b<0)
variable {w:World}{x:vP}
theorem acR {g:Nat}(h:ik w g 180 (Fp x).toArray):Sb w (some ⟨g,8,none⟩) 32 (tQ x.lk):=h.ahg 8 32 _ (Kj _) fun i u hu=>by
 rw[<-kF (Kj _)]at hu
 have e:(Fp x).toArray[8+i]? =(jV (tQ x.lk))[i]? :=by
  rw[List.getElem?_toArray]
  show([_,_,_,_,_,_,_,_]++jV (tQ x.lk))[8+i]? =_
  rw[List.getElem?_append_right (by simp)]
  simp
 rw[e];exact hu
variable {α:Type}{j:Nat}{d:α}
theorem Kn {lt:α->α->Bool}{a:Nat}{xs:List α}(h:a<j->lt (xs.getD j d) (xs.getD (j-1) d)=false):xG lt d a j xs=xs:=by
 cases j with
 |zero=>rfl
 |succ j=>rw[xG,if_neg (fun q=>by have:=h q.1;rw[Nat.add_sub_cancel,q.2]at this;cases this)]
theorem UU {lt:α->α->Bool}{a:Nat}{xs:List α}(h:a<j)(hl:lt (xs.getD j d) (xs.getD (j-1) d)=true):xG lt d a j xs=xG lt d a (j-1) ((xs.set j (xs.getD (j-1) d)).set (j-1) (xs.getD j d)):=by
 cases j with
 |zero=>omega
 |succ j=>rw[Nat.add_sub_cancel]at hl ⊢;rw[xG,if_pos ⟨h,hl⟩];rfl
variable {A:Option Addr}{n c:Nat}
theorem abm {B:Option Addr}{m d:Nat}{xs ys:List (BitVec 8)}(w:World)(hV:Sb w A n xs)(hU:Sb w B m ys):Calls prog 75 #[.slice A n c,.slice B m d] w fun r w'=>r= .returned (J (UT xs ys))/\Le w w':=by
 refine En func75 Z (Rn 1 Z (Rr 2 Z (W.ef Z Z Z (Ef.abl (r:= J (UT xs ys)) (e:=Extern.BytealgCompare.compare) func127 (by kernel_rfl) (by kernel_rfl) (by kernel_rfl) (by kernel_rfl) Z Z ?_ ?_))))
 ·show Sem.run _ (Extern.Bytes.bytesOf (.slice A n c)>>=fun x=>Extern.Bytes.bytesOf (.slice B m d)>>=fun y=>pure (goInt (Extern.BytealgCompare.cmp x y))) _=_
  rw[Sem.run_bind,Fj hV]
  simp only[Result.andThen]
  rw[Sem.run_bind,Fj hU]
  simp only[Result.andThen]
  rw[Lib.cmp_eq]
  rfl
 refine Yy 1 Z Z Z ?_
 exact⟨rfl,Le.refl w⟩
theorem abn (a b:vP)(w:World):Calls prog 72 #[.agg (Fp a).toArray,.agg (Fp b).toArray] w fun r w'=>r= .returned (J (adX a b))/\Le w w':=by
 refine En func72 Z (Sr (Yv Z fun A B U (C:ik B A 180 (Fp a).toArray) D=>Yv Z fun F H V (I:ik H F 180 (Fp b).toArray) m=>Yx 1 Z (Sq (WC.draw [0,1,2,3,4,5,7,8,9,10,12,13,14,15,16,17,19,20,21,22,23,24,25,26,28,29,30,31,32,33,34,35,6,11,18,27,36,37,38,39] mixed (by kernel_rfl) fun K j=>Xn 2 Z ?_))))
 have e:=(C.le (m.trans j))
 refine Xk (J a.am) Z e Z (Xn 2 Z ?_)
 have f:=(I.le j)
 refine Xk (J b.am) Z f Z (Xn 1 Z (Ga Z (.QZ underlying23 yC (by decide) Z) (Xn 1 Z (Ga Z (.QZ underlying23 yC (by decide) Z) (Xn 2 Z (Xk (J a.FF) Z e Z (Xn 2 Z (Xk (J b.FF) Z f Z (Xn 3 Z ?_)))))))))
 refine Xk (J a.c.fr) Z e Z (Xn 3 Z (Xk (J b.c.fr) Z f Z (Xn 3 Z (Xk (J a.c.id) Z e Z (Xn 3 Z (Xk (J b.c.id) Z f Z (Xc Z (rC a.am b.am K) fun L i=>Xc Z (abm (c:=32) (d:=32) L (acR (e.le i)) (acR (f.le i))) fun N n=>Xc Z (rC a.FF b.FF N) fun O o=>?_)))))))
 refine Xc Z (rC a.c.fr b.c.fr O) fun P s=>Xc Z (rC a.c.id b.c.id P) fun Q t=>G.ef Z Z Z Z Z (Ef.iw (len:=5) [_,_,_,_,_] underlying48 Je Z (by simp[Value.cells]) Z (by decide) (by decide) ?_)
 intro u k R l x
 refine⟨fun _=>x,?_⟩
 have l:ik k u 3 (([(pJ a.am b.am),(UT (tQ a.lk) (tQ b.lk)),(pJ a.FF b.FF),(pJ a.c.fr b.c.fr),(pJ a.c.id b.c.id)]).map iv).flatten.toArray:=l
 have S:iy k Q.heap.size 3 iv 1 (some ⟨u,0,none⟩) 5 5 ([(pJ a.am b.am),(UT (tQ a.lk) (tQ b.lk)),(pJ a.FF b.FF),(pJ a.c.fr b.c.fr),(pJ a.c.id b.c.id)]):=l.j4 R iQ Z Z (by decide)
 refine Xc Z (R8 k S.vec (by decide)) fun X y=>Xx 1 Z (Re Z Z ?_)
 exact⟨rfl,(((((((((((Le.refl w).trans D).trans m).trans j).trans i).trans n).trans o).trans s).trans t).trans x).trans y)⟩
theorem abo (a b:Nat){base:Nat}{A:Option Addr}{n c:Nat}{xs:List vP}(w:World)(hO:iy w base 180 Fp 40 A n c xs)(hb:b<=n)(hn:n<=1000000)(ha:a<=n):Calls prog 168 #[.slice A n c,J (a:Int),J (b:Int),.func (.func 72) #[] #[]] w fun r w'=>r= .returned (.tuple #[])/\iy w' base 180 Fp 40 A n c (kK Ec jS a b xs)/\Ch w w' (rowOf A c):=by
 have hl:=hO.1
 refine En func168 Z (Rr 1 Z (Yp Z (Yx 1 Z (Bk (WC.loop (ι:=Nat×(List vP)) (fun⟨i,ys⟩=>[(0,.slice A n c),(1,J (a:Int)),(2,J (b:Int)),(3,.func (.func 72) #[] #[]),(8,J (i:Int))]) (fun⟨i,ys⟩ f=>(a+1<=i)/\(ys.length=n)/\(KR Ec jS a b i ys=kK Ec jS a b xs)/\Ch w f (rowOf A c)/\w.heap.size<=f.heap.size/\iy f base 180 Fp 40 A n c ys) (fun⟨i,ys⟩=>b-i) (a+1,xs) ?_ ?_ ?_)))))
 ·exact .of Z
 ·exact⟨Nat.le_refl _,hl,rfl,(Ch.refl w (rowOf A c)),Nat.le_refl _,hO⟩
 rintro⟨i,ys⟩ f ⟨hi,hyl,hF,t,u,v⟩
 refine Sq (Rn 3 Z ?_)
 by_cases x:(i:Int)<(b:Int)
 ·refine Cy Z (dT x) (Nb (Rn 2 Z (Bk (WC.loop (ι:=Nat×(List vP)) (fun⟨j,zs⟩=>[(0,.slice A n c),(1,J (a:Int)),(2,J (b:Int)),(3,.func (.func 72) #[] #[]),(8,J (i:Int)),(9,J (j:Int))]) (fun⟨j,zs⟩ k=>(a<=j)/\(j<=i)/\(zs.length=n)/\(xG Ec jS a j zs=xG Ec jS a i ys)/\Ch w k (rowOf A c)/\f.heap.size<=k.heap.size/\iy k base 180 Fp 40 A n c zs) (fun⟨j,zs⟩=>j) (i,ys) ?_ ?_ ?_))))
  ·exact .of Z
  ·exact⟨by omega,Nat.le_refl _,hyl,rfl,t,Nat.le_refl _,v⟩
  rintro⟨j,zs⟩ k ⟨Q,R,hzl,hG,K,m,y⟩
  refine Sq (Sq (WC.draw [0,1,2,3,4,5,6,7,8,9,10,11,12,13,14,15,16] mixed (by kernel_rfl) fun L d=>?_))
  have B:=K.trans (d.ch _)
  refine Xn 3 Z ?_
  by_cases C:(a:Int)<(j:Int)
  ·refine Xq 1 Z (dT C) (Xn 3 Z (Xs j Z (hO.vec.isSome mW (by omega)) ?_))
   have l:=(y.le d)
   refine Gdg Z (.lX NQ Z l.vec mW (jN zs jS (by omega))) (Xn 2 Z (Xp Z (Xs (j-1) Z (hO.vec.isSome mW (by omega)) (Gdg Z (.lX NQ Z l.vec mW (jN zs jS (by omega))) (G.MN Z Z Z Z Z Z Z Z (Ef.call ah0 Z Z (abn (zs.getD j jS) (zs.getD (j-1) jS) L) ?_))))))
   rintro _ S ⟨rfl,e⟩
   refine⟨_,rfl,?_⟩
   refine⟨fun _=>e,?_⟩
   have D:=B.trans (e.ch _)
   refine Xx 2 Z ?_
   by_cases F:(adX (zs.getD j jS) (zs.getD (j-1) jS))<0
   ·refine Cy Z (dT F) (Nb (WC.draw [0,1,2,3,4,5,6,7,8,9,10,11,12,13,14,15,16,17] mixed (by kernel_rfl) fun U o=>Xn 4 Z (Xp Z (Xn 2 Z (Xp Z (Xs (j-1) Z (hO.vec.isSome mW (by omega)) ?_))))))
    have s:=(l.le (e.trans o))
    refine Gd Z (.lX NQ Z s.vec mW (jN zs jS (by omega))) (Xn 2 Z (Xs j Z (hO.vec.isSome mW (by omega)) (Gd Z (.lX NQ Z s.vec mW (jN zs jS (by omega))) (Xs j Z (hO.vec.isSome mW (by omega)) (G.jR Z Z Z Z (Ef.aeZ (j:=j) (zs.getD (j-1) jS) RD Z Z Z s mW (by omega) fun V N H=>noT (by kernel_rfl) (Xs (j-1) Z (hO.vec.isSome mW (by omega)) (G.jR Z Z Z Z ?_))))))))
    refine Ef.aeZ (j:=(j-1)) (zs.getD j jS) RD Z Z Z N mW (by omega) fun X O I=>noT (by kernel_rfl) (G.nil (E.jD (E.iM (Rg (Yn 1 Z (Yp Z (Yn 1 Z (W.nil (E.again (j-1,((zs.set j (zs.getD (j-1) jS)).set (j-1) (zs.getD j jS))) (.cons Z (.cons Z (.cons Z (.cons Z (.cons Z (.cons' Z (int_eq (by omega)) (.nil _))))))) ?_ ?_)))))))))
    ·exact⟨by omega,by omega,by simp[hzl],by rw[<-UU (by omega) (dT (by assumption))];exact hG,(((D.trans (o.ch _)).trans H).trans I),by have:=m;have:=d.size;have:=e.size;have:=o.size;have:=H.size;have:=I.size;omega,O⟩
    first|omega|(simp only[];omega)
   refine Cn Z (dF F) (WC.exit (E.jW (E.jW (E.rQ (E.jD (E.iM (Rg (Yn 1 Z (Yp Z ?_)))))))))
   refine Yn 1 Z (W.nil (E.again (i+1,zs) (.of Z) ?_ ?_))
   ·exact⟨by omega,hzl,by rw[Kn (xs:=zs) (fun P=>by first|omega|exact dF (by assumption))]at hG;rw[<-hF,Jw (xs:=ys) (by omega),<-hG],D,by have:=u;have:=d.size;have:=e.size;have:=m;omega,(l.le e)⟩
   first|omega|(simp only[];omega)
  refine Xq 1 Z (dF C) (Xx 13 Z (Cf Z (WC.exit (E.jW (E.jW (E.rQ (E.jD (E.iM (Rg ?_)))))))))
  refine Yn 1 Z (Yp Z (Yn 1 Z (W.nil (E.again (i+1,zs) (.of Z) ?_ ?_))))
  ·exact⟨by omega,hzl,by rw[Kn (xs:=zs) (fun P=>by first|omega|exact dF (by assumption))]at hG;rw[<-hF,Jw (xs:=ys) (by omega),<-hG],B,by have:=u;have:=d.size;have:=m;omega,(y.le d)⟩
  first|omega|(simp only[];omega)
 refine Cn Z (dF x) (WC.exit (E.jW (E.jW (E.rQ (E.end_ (E.Pt Z ?_))))))
 exact⟨rfl,v.cast Z (by rw[<-hF,VO (by omega)]),t⟩
variable {xs:List vP}
theorem YG {base:Nat}(w:World)(hO:iy w base 180 Fp 40 A n c xs)(hn:n<20):Calls prog 125 #[.slice A n c,J (n:Int),.func (.func 72) #[] #[]] w fun r w'=>r= .returned (.tuple #[])/\iy w' base 180 Fp 40 A n c (kK Ec jS 0 n xs)/\Ch w w' (rowOf A c):=by
 have hl:=hO.1
 refine En func125 Z (Rn 1 Z (Rn 3 Z (Sq (Bk (WC.loop (ι:=Unit) (fun u=>[(0,.slice A n c),(1,J (n:Int)),(2,.func (.func 72) #[] #[]),(6,J 20),(7,J 0),(8,J 20)]) (fun u d=>Ch w d (rowOf A c)/\w.heap.size<=d.heap.size/\iy d base 180 Fp 40 A n c xs) (fun u=>0) () ?_ ?_ ?_)))))
 ·exact .of Z
 ·exact⟨(Ch.refl w (rowOf A c)),Nat.le_refl _,hO⟩
 rintro u d ⟨f,s,i⟩
 refine Sq (Rn 3 Z (Cn Z (dF (by omega)) (Ex (Rr 4 Z (Yd Z (abo 0 n d i (by omega) (by omega) (by omega)) ?_)))))
 rintro _ j ⟨rfl,k,l⟩
 refine Nx (Bk (WC.loop (ι:=Unit) (fun u=>[(0,.slice A n c),(1,J (n:Int)),(2,.func (.func 72) #[] #[]),(6,J 20)]) (fun u e=>Ch w e (rowOf A c)/\j.heap.size<=e.heap.size/\iy e base 180 Fp 40 A n c (kK Ec jS 0 n xs)) (fun u=>0) () ?_ ?_ ?_))
 ·exact .of Z
 ·exact⟨(f.trans l),Nat.le_refl _,k⟩
 rintro u e ⟨m,t,o⟩
 refine Sq (Rn 3 Z (Cn Z (dF (by omega)) (WC.exit (E.jW (E.jW (E.rQ (E.end_ (E.Pt Z ?_))))))))
 exact⟨rfl,o,m⟩
theorem YH {base:Nat}(w:World)(hO:iy w base 180 Fp 40 A n c xs)(hn:n<20):Calls prog 71 #[.slice A n c,.func (.func 72) #[] #[]] w fun r w'=>r= .returned (.tuple #[])/\iy w' base 180 Fp 40 A n c (kK Ec jS 0 n xs)/\Ch w w' (rowOf A c):=by
 refine En func71 Z (Rg (Yn 4 Z (Yd Z (YG w hO (by omega)) ?_)))
 rintro _ f ⟨rfl,d,e⟩
 refine W.nil (E.end_ (E.Pt Z ?_))
 exact⟨rfl,d,((Ch.refl w (rowOf A c)).trans e)⟩
def vM.b (c:vM)(i o:Nat):Nat:=if i=0 then[c.p0,c.p1,c.p2,c.p3,c.p4].getD o 0 else[c.p5,c.p6,c.p7,c.p8,c.p9].getD o 0
theorem LZ {i:Nat}(h:i<2):i=0\/i=1:=by omega
theorem YI (c:vM){i:Nat}(h:i<2):(mU c).toArray[34+i*5+0]? =some (.int .u64 (c.b i 0:Int)):=by rcases LZ h with rfl|rfl<;>rfl
theorem adY (c:vM){i:Nat}(h:i<2):(mU c).toArray[34+i*5+1]? =some (.int .u64 (c.b i 1:Int)):=by rcases LZ h with rfl|rfl<;>rfl
theorem adZ (c:vM){i:Nat}(h:i<2):(mU c).toArray[34+i*5+2]? =some (.int .u64 (c.b i 2:Int)):=by rcases LZ h with rfl|rfl<;>rfl
theorem YJ (c:vM){i:Nat}(h:i<2):(mU c).toArray[34+i*5+3]? =some (.int .u64 (c.b i 3:Int)):=by rcases LZ h with rfl|rfl<;>rfl
theorem ad1 (c:vM){i:Nat}(h:i<2):(mU c).toArray[34+i*5+4]? =some (.int .u64 (c.b i 4:Int)):=by rcases LZ h with rfl|rfl<;>rfl
theorem ad2 (c:vM){i:Nat}(h:i<2):(mU c).toArray[44+i*6+2]? =some (J (5+(i:Int))):=by rcases LZ h with rfl|rfl<;>rfl
theorem YK (c:vM){i:Nat}(h:i<2):((mU c).toArray.toList.drop (44+i*6)).take 6=[J 100,J 200,J (5+(i:Int)),J 16,J 1,J 1125899906842624]:=by rcases LZ h with rfl|rfl<;>rfl
theorem vM.bOk {c:vM}(h:CO c){i o:Nat}(ho:o<5):rZ (c.b i o):=by
 obtain⟨d,e,f,j,k,l,m,n,s,t⟩:=h.pts
 have:o=0\/o=1\/o=2\/o=3\/o=4:=by omega
 unfold vM.b
 split<;>rcases this with rfl|rfl|rfl|rfl|rfl<;>assumption
def Sv (own rev:Nat)(delay:Int):List Bp:=[⟨[rev],0,0,0⟩,⟨[own],0,delay,0⟩]
def abp (p:Nat):List Bp:=[⟨[p],0,0,0⟩]
def IJ (p:Nat):List Bp:=[⟨[p],0,0,0⟩,⟨[],0,16,0⟩]
def kW (w:World)(b:Nat)(xs:List vP)(_:Unit):Prop:=∀x∈xs,iy w b 189 xn 4 x.bA x.bN x.bC x.rs/\lI w b x.rs x.lk
def lk0 (A:Option Addr)(n c:Nat)(lk:List Bp)(rs:List qZ):vP:=⟨0,A,n,c,0,ag,lk,rs⟩
section
variable {w w' w0:World}{b b':Nat}{xs ys:List vP}{u:Unit}{F:Nat->Prop}
theorem kW.le (h:kW w b xs u)(k:Le w w'):kW w' b xs u:=fun x hx=>⟨(h x hx).1.le k,(h x hx).2.le k⟩
theorem kW.mono (h:kW w b xs u)(k:b'<=b):kW w b' xs u:=fun x hx=>⟨(h x hx).1.mono k,(h x hx).2.mono k⟩
theorem kW.ji (h:kW w b xs u)(k:iX w w' F)(hF:∀i,F i->i<b):kW w' b xs u:=fun x hx=>⟨(h x hx).1.ji k fun g hg hf=>by have:=((h x hx).1.row hg).1;have:=hF g hf;omega,(h x hx).2.ji k hF⟩
theorem kW.chO {b1 e s:Nat}{f:α->List Value}{zs:List α}(h:kW w b xs u)(k:Ch w w' (rowOf A c))(o:iy w b1 e f s A n c zs)(h1:60≠e)(h2:189≠e):kW w' b xs u:=fun x hx=>⟨(h x hx).1.Sk k o h2,(h x hx).2.chO k o h1⟩
theorem kW.AP {g t:Nat}{cs:Array Value}(h:kW w b xs u)(k:Ch w w' (some g))(o:ik w g t cs)(h1:60≠t)(h2:189≠t):kW w' b xs u:=fun x hx=>⟨(h x hx).1.LW k o h2,(h x hx).2.AP k o h1⟩
theorem kW.yu {r:Option Nat}(h:kW w b xs u)(h0:kW w0 b xs u)(k:Ch w w' r)(hn:∀q,r=some q->w0.heap.size<=q):kW w' b xs u:=fun x hx=>⟨(h x hx).1.ch k fun g hg ha=>by have:=((h0 x hx).1.row ha).2;have:=hn g hg;omega,(h x hx).2.yu (h0 x hx).2 k hn⟩
theorem kW.app (h:kW w b xs u)(k:kW w b ys u):kW w b (xs++ys) u:=fun x hx=>(List.mem_append.1 hx).elim (h x) (k x)
theorem kW.one {rs:List qZ}{lk:List Bp}(x:vP)(h:kW w b [lk0 A n c lk rs] u)(e:(x.bA,x.bN,x.bC,x.lk,x.rs)=(A,n,c,lk,rs)):kW w b [x] u:=fun y hy=>by
 rw[List.mem_singleton.1 hy]
 have d:=h _ (List.mem_singleton.2 Z)
 simp only[Prod.mk.injEq]at e
 obtain⟨e1,e2,e3,e4,e5⟩:=e
 rw[e1,e2,e3,e4,e5]
 exact d
theorem kW.nil:kW w b [] u:=fun x hx=>by cases hx
end
def iA (cs:List mF):List mF:=cs.filter fun c=>decide (100<=c.am)
def tT (ch:vM)(s:ny)(i:Int):Int:=s.h i-if i=ch.op then lF s.rt (iA s.cs).length else 0
theorem IK {cs:List mF}{k:Nat}(h:k<cs.length):iA (cs.take (k+1))=iA (cs.take k)++if 100<=(cs.getD k ag).am then[cs.getD k ag]else[]:=by
 unfold iA
 rw[xU (z:=ag) h,List.filter_append,List.filter_cons]
 split<;>rename_i e<;>simp at e<;>simp[e]
theorem Ko (cs:List mF):(iA cs).length<=cs.length:=List.length_filter_le _ _
theorem YL (own:Nat)(ho:own<18446744073709551616)(rev:Nat)(hr:rev<18446744073709551616)(delay:Int)(w:World):Calls prog 67 #[.int .u64 (own:Int),.int .u64 (rev:Int),J (delay)] w fun r w'=>∃Ab cb rs,r= .returned (.agg #[.slice Ab 2 cb])/\kW w' w.heap.size [lk0 Ab 2 cb (Sv own rev delay) rs] ()/\Le w w':=by
 refine En func67 Z ?_
 have y:=Le.refl w
 refine Sr (Yz Z z173 fun A B N (e:ik B A 173 #[.slice none 0 0]) O=>?_)
 have C:=y.trans O
 refine Nx (Rr 1 Z (W.ef Z Z Z (Ef.iw (len:=1) [_] underlying187 wy Z (by simp[Value.cells]) Z (by decide) (by decide) ?_)))
 intro c n P o f
 have D:=C.trans f
 have o:ik n c 60 (([rev]).map su).flatten.toArray:=o
 have F:iy n B.heap.size 60 su 1 (some ⟨c,0,none⟩) 1 1 ([rev]):=o.j4 P iT Z Z (by decide)
 refine Wa (.iF (xn (⟨(some ⟨c,0,none⟩),1,1,0,0,0⟩)) Cv DV Z Z) Z (Yn 1 Z (W.ef Z Z Z (Ef.iw (len:=1) [_] underlying187 wy Z (by simp[Value.cells]) Z (by decide) (by decide) ?_)))
 intro d s Q t i
 have H:=D.trans i
 have t:ik s d 60 (([own]).map su).flatten.toArray:=t
 have I:iy s n.heap.size 60 su 1 (some ⟨d,0,none⟩) 1 1 ([own]):=t.j4 Q iT Z Z (by decide)
 refine Yn 1 Z (Wa (.iF (xn (⟨(some ⟨d,0,none⟩),1,1,0,delay,0⟩)) Cv DV Z Z) Z (W.ef Z Z Z (Ef.iw (len:=2) [_,_] underlying171 H9 Z (by simp[Value.cells,kH.len]) Z (by decide) (by decide) ?_)))
 intro j K R u l
 have u:ik K j 189 (([⟨(some ⟨c,0,none⟩),1,1,0,0,0⟩,⟨(some ⟨d,0,none⟩),1,1,0,delay,0⟩]).map xn).flatten.toArray:=u
 have L:iy K s.heap.size 189 xn 4 (some ⟨j,0,none⟩) 2 2 ([⟨(some ⟨c,0,none⟩),1,1,0,0,0⟩,⟨(some ⟨d,0,none⟩),1,1,0,delay,0⟩]):=u.j4 R kH Z Z (by decide)
 refine Wa (.iF [.slice (some ⟨j,0,none⟩) 2 2] NV z173 Z Z) Z (Yw Z (e.le (f.trans (i.trans l))) (wN Z) ?_)
 intro S v m
 have v:ik S A 173 #[.slice (some ⟨j,0,none⟩) 2 2]:=v
 have U:=(H.trans l).tb m y N
 refine Nx (Rt ?_)
 have _:=e.lt
 have _:=f.size
 have V:=(L.cb m (L.rl (by have:=i.size;omega)))
 refine E.iC Z (lV Z v Rw (by rfl)) ?_
 exact⟨_,_,_,rfl,fun x hx=>by rw[List.mem_singleton.1 hx];exact⟨(V.mono H.size),lI.push (lI.push (lI.nil _ _) ⟨rfl,rfl,rfl,(by show(0:Nat)<_;decide),((F.le (i.trans l)).cb m (F.rl (by omega))).mono C.size,fun k hk=>by rw[List.mem_singleton.1 hk];assumption⟩) ⟨rfl,rfl,rfl,(by show(0:Nat)<_;decide),((I.le l).cb m (I.rl (by omega))).mono D.size,fun k hk=>by rw[List.mem_singleton.1 hk];assumption⟩⟩,U⟩
theorem OA (p:Nat)(hp:p<18446744073709551616)(w:World):Calls prog 69 #[.int .u64 (p:Int)] w fun r w'=>∃Ab cb rs,r= .returned (.agg #[.slice Ab 2 cb])/\kW w' w.heap.size [lk0 Ab 2 cb (IJ p) rs] ()/\Le w w':=by
 refine En func69 Z ?_
 have s:=Le.refl w
 refine Sr (Yz Z z173 fun t u D (e:ik u t 173 #[.slice none 0 0]) F=>?_)
 have v:=s.trans F
 refine Nx (Rr 1 Z (W.ef Z Z Z (Ef.iw (len:=1) [_] underlying187 wy Z (by simp[Value.cells]) Z (by decide) (by decide) ?_)))
 intro c f H i j
 have y:=v.trans j
 have i:ik f c 60 (([p]).map su).flatten.toArray:=i
 have A:iy f u.heap.size 60 su 1 (some ⟨c,0,none⟩) 1 1 ([p]):=i.j4 H iT Z Z (by decide)
 refine Wa (.iF (xn (⟨(some ⟨c,0,none⟩),1,1,0,0,0⟩)) Cv DV Z Z) Z (Wa (.iF (xn (⟨none,0,0,0,16,0⟩)) Cv DV Z Z) Z (W.ef Z Z Z (Ef.iw (len:=2) [_,_] underlying171 H9 Z (by simp[Value.cells,kH.len]) Z (by decide) (by decide) ?_)))
 intro d B I l m
 have l:ik B d 189 (([⟨(some ⟨c,0,none⟩),1,1,0,0,0⟩,⟨none,0,0,0,16,0⟩]).map xn).flatten.toArray:=l
 have C:iy B f.heap.size 189 xn 4 (some ⟨d,0,none⟩) 2 2 ([⟨(some ⟨c,0,none⟩),1,1,0,0,0⟩,⟨none,0,0,0,16,0⟩]):=l.j4 I kH Z Z (by decide)
 refine Wa (.iF [.slice (some ⟨d,0,none⟩) 2 2] NV z173 Z Z) Z (Yw Z (e.le (j.trans m)) (wN Z) ?_)
 intro K n o
 have n:ik K t 173 #[.slice (some ⟨d,0,none⟩) 2 2]:=n
 have L:=(y.trans m).tb o s D
 refine Nx (Re Z (lV Z n Rw (by rfl)) ?_)
 have _:=e.lt
 exact⟨_,_,_,rfl,fun x hx=>by rw[List.mem_singleton.1 hx];exact⟨((C.cb o (C.rl (by have:=j.size;omega))).mono y.size),lI.push (lI.push (lI.nil _ _) ⟨rfl,rfl,rfl,(by show(0:Nat)<_;decide),((A.le m).cb o (A.rl (by omega))).mono v.size,fun k hk=>by rw[List.mem_singleton.1 hk];assumption⟩) ⟨rfl,rfl,rfl,(by show(0:Nat)<_;decide),iy.nil _ _ _ _ _ _,fun k hk=>by cases hk⟩⟩,L⟩
theorem abq (p:Nat)(hp:p<18446744073709551616)(w:World):Calls prog 68 #[.int .u64 (p:Int)] w fun r w'=>∃Ab cb rs,r= .returned (.agg #[.slice Ab 1 cb])/\kW w' w.heap.size [lk0 Ab 1 cb (abp p) rs] ()/\Le w w':=by
 refine En func68 Z ?_
 have m:=Le.refl w
 refine Sr (Yz Z z173 fun n o y (d:ik o n 173 #[.slice none 0 0]) A=>Nx (Rr 1 Z (W.ef Z Z Z (Ef.iw (len:=1) [_] underlying187 wy Z (by simp[Value.cells]) Z (by decide) (by decide) ?_))))
 intro s e B f c
 have i:=(m.trans A).trans c
 have f:ik e s 60 (([p]).map su).flatten.toArray:=f
 have C:iy e o.heap.size 60 su 1 (some ⟨s,0,none⟩) 1 1 ([p]):=f.j4 B iT Z Z (by decide)
 refine Yd Z (abg e C.vec (by omega)) ?_
 rintro _ K ⟨D,F,L,N,rfl,t,u,v⟩
 refine Yw Z (d.le (c.trans v)) (wN Z) ?_
 intro H j l
 have j:ik H n 173 #[.slice D 1 F]:=j
 have I:=(i.trans v).tb l m y
 refine Nx (Re Z (lV Z j Rw (by rfl)) ?_)
 have _:=d.lt
 have _:=c.size
 exact⟨_,_,_,rfl,fun x hx=>by rw[List.mem_singleton.1 hx];exact⟨((t.cb l (t.rl (by omega))).mono i.size),lI.push (lI.nil _ _) ⟨rfl,rfl,rfl,(by show(0:Nat)<_;decide),(u.cb l (u.rl (by omega))).mono i.size,fun k hk=>by rw[List.mem_singleton.1 hk];assumption⟩⟩,I⟩
theorem YM (i:Nat)(hi:i<2)(w:World):Calls prog 59 #[J (i:Int)] w fun r w'=>r= .returned (.bool true)/\Le w w':=by
 refine En func59 Z ?_
 have c:=Le.refl w
 refine Rn 1 Z (Rr 2 Z ?_)
 by_cases d:(i:Int)=0
 ·refine Dt d Z Z (Yy 4 Z Z Z ?_)
  exact⟨rB (by first|rfl|(simp;omega)),c⟩
 refine Df d Z Z (Yy 4 Z Z Z ?_)
 exact⟨rB (by first|rfl|(simp;omega)),c⟩
theorem Ed (d r de co le mo n:Int)(w:World):Calls prog 66 #[.agg #[J d,J r,J de,J co,J le,J (mo)],J (n)] w fun r w'=>r= .returned (.bool (decide (d<=n)))/\Le w w':=by
 refine En func66 Z (Sr (Yv Z fun c e j (f:ik e c 65 #[J d,J r,J de,J co,J le,J (mo)]) i=>Yx 1 Z (Rr 2 Z (Yk (J d) Z f Z (Yy 2 Z Z Z ?_)))))
 exact⟨rfl,((Le.refl w).trans i)⟩
theorem Kq (ch:vM)(own:Nat){s:ny}{Dp op:Int}{A:Option Addr}{n c:Nat}(w:World)(hC:Vec w jl 5 A n s.cs)(hr:kz Dp op s)(ho:own<2):Calls prog 70 #[.agg (mU ch).toArray,.agg #[J s.no,J s.h0,J s.h1,.slice A n c,J (s.rt)],J (own:Int)] w fun r w'=>∃A' c',r= .returned (.slice A' (iA s.cs).length c')/\iy w' w.heap.size 83 jl 5 A' (iA s.cs).length c' (iA s.cs)/\Le w w':=by
 have hl:=hC.1;have hlen:=hr.len
 refine En func70 Z (Sr (Yv Z fun o Q al (R:ik Q o 68 (mU ch).toArray) S=>Yv Z fun U i an (V:ik i U 38 #[J s.no,J s.h0,J s.h1,.slice A n c,J (s.rt)]) D=>?_))
 have t:=((Le.refl w).trans S).trans D
 refine Yx 1 Z (Rn 1 Z (Sq (Rr 1 Z (Yk (.slice A n c) Z V Z (Yx 2 Z (Bk ?_))))))
 have F:=(R.le D)
 refine WC.loop (ι:=Nat×(List mF)×(Option Addr)×Nat) (fun⟨k,xs,Aa,ca⟩=>[(2,J (own:Int)),(3,.pointer (some ⟨o,0,none⟩)),(7,.slice Aa xs.length ca),(11,.slice A n c),(12,J (n:Int)),(13,J (k:Int))]) (fun⟨k,xs,Aa,ca⟩ j=>(k<=n)/\(xs=iA (s.cs.take k))/\(xs.length<=k)/\Le w j/\i.heap.size<=j.heap.size/\ik j o 68 (mU ch).toArray/\iy j i.heap.size 83 jl 5 Aa xs.length ca xs) (fun⟨k,xs,Aa,ca⟩=>n-k) (0,[],none,0) ?_ ?_ ?_
 ·exact .of Z
 ·exact⟨Nat.zero_le _,rfl,Nat.le_refl _,t,Nat.le_refl _,F,(iy.nil i i.heap.size 83 jl 5 none)⟩
 rintro⟨k,xs,Aa,ca⟩ j ⟨hk,hxe,hxl,u,H,X,x⟩
 have Y:i.heap.size<=j.heap.size:=by omega
 refine Rn 1 Z (Sq ?_)
 by_cases I:(k:Int)<(n:Int)
 ·refine Cy Z (dT I) (Nb (Sr (Ys k Z (hC.isSome iN (by omega)) (Wr (.lX Lh Z (hC.le u) iN (jN s.cs ag (by first|omega|(simp only[List.length_cons,List.length_nil];omega)))) Z (W.ab Z z83 Bl (iN.one (s.cs.getD k ag)) fun aa ac ao (ad:ik ac aa 83 (jl (s.cs.getD k ag)).toArray) f=>Nx (Sq (WC.draw [0,1,2,3,4,5,6] mixed (by kernel_rfl) fun w5 e=>Xn 2 Z ?_)))))))
  refine Xj own Z ?_
  have y:=(X.le (f.trans e))
  refine Xb [J 100,J 200,J (5+(own:Int)),J 16,J 1,J (1125899906842624)] Z y (YK ch (by omega)) (Xn 1 Z ?_)
  have K:=(ad.le e)
  refine Xk (J ((s.cs.getD k ag).am)) Z K Z (Xc Z (Ed 100 200 (5+(own:Int)) 16 1 1125899906842624 ((s.cs.getD k ag).am) w5) fun ae d=>?_)
  have L:=((u.trans f).trans e).trans d
  refine Gx ?_
  by_cases N:100<=((s.cs.getD k ag).am)
  ·refine Cy Z (dT N) (Rg (Yn 1 Z (Yh Z (K.le d) (W.ef Z Z Z (Ef.iw (len:=1) [_] underlying36 TT Z (by simp[Value.cells,iN.len]) Z (by decide) (by decide) ?_)))))
   intro O P af m l
   have m:ik P O 83 (([s.cs.getD k ag]).map jl).flatten.toArray:=m
   have ap:iy P ae.heap.size 83 jl 5 (some ⟨O,0,none⟩) 1 1 ([s.cs.getD k ag]):=m.j4 af iN Z Z (by decide)
   have B:=(x.le (f.trans (e.trans (d.trans l))))
   have _:=f.size
   have _:=e.size
   have _:=d.size
   refine W.ef Z Z Z (Ef.vJ (a:=(s.cs.getD k ag)) underlying36 TT underlying36 iN Z B Z m (by omega) (by unfold maxLen;omega) (by have:=Y;have:=l.size;omega) ?_)
   intro ah ai aq aj C ar
   refine Yn 1 Z (W.nil (Lp 1 Z Z ?_))
   have ak:=((y.le (d.trans l)).ch C (B.rl (by have:=F.lt;omega)))
   refine E.again (k+1,(xs++[s.cs.getD k ag]),ah,ai) (.cons Z (.cons Z (.cons' Z (oK (by simp)) (.of Z)))) ?_ ?_
   ·exact⟨by omega,(by rw[IK (by omega),hxe,if_pos (by assumption)]),by first|omega|(rw[List.length_append];exact Nat.succ_le_succ hxl),((L.trans l).ja C (fun q hq=>Nat.le_trans t.size (B.row hq).1)),by have:=H;have:=l.size;have:=C.size;omega,ak,(aj.cast (by simp) Z)⟩
   first|omega|(simp only[];omega)
  refine Cn Z (dF N) (WC.skip (Lp 1 Z Z (E.again (k+1,xs,Aa,ca) (.of Z) ?_ ?_)))
  ·exact⟨by omega,(by rw[IK (by omega),hxe,if_neg (by assumption),List.append_nil]),by first|omega|(rw[List.length_append];exact Nat.succ_le_succ hxl),L,by have:=H;have:=f.size;have:=e.size;have:=d.size;omega,(y.le d),(x.le (f.trans (e.trans d)))⟩
  first|omega|(simp only[];omega)
 refine Cn Z (dF I) (Ex (Ry 2 Z Z Z ?_))
 have he:iA s.cs=xs:=by rw[hxe,List.take_of_length_le (by omega)]
 rw[he]
 exact⟨_,_,rfl,(x.mono t.size),u⟩
theorem OB (ch:vM)(own of:Nat){s:ny}{Dp op:Int}{A:Option Addr}{n c:Nat}(w:World)(hC:Vec w jl 5 A n s.cs)(hr:kz Dp op s)(ho:own<2)(hf:of<2):Calls prog 65 #[.agg (mU ch).toArray,.agg #[J s.no,J s.h0,J s.h1,.slice A n c,J (s.rt)],J (own:Int),J (of:Int)] w fun r w'=>r= .returned (J (tT ch s (of:Int)))/\Le w w':=by
 have hl:=hC.1;have hlen:=hr.len;have hrt:=hr.Wy
 have hsl:=Ko s.cs;have hmul:=Oh hrt (show(iA s.cs).length<=16 by omega)
 have hhB:=hr.hB (of:Int)
 have agI:lF s.rt (iA s.cs).length=s.rt*(68+8*((iA s.cs).length:Int))+660:=Z
 refine En func65 Z (Sr (Yv Z fun t u I (x:ik u t 68 (mU ch).toArray) y=>Yv Z fun B C K (e:ik C B 38 #[J s.no,J s.h0,J s.h1,.slice A n c,J (s.rt)]) f=>?_))
 have i:=((Le.refl w).trans y).trans f
 refine Yx 1 Z (Rr 2 Z (Yi of Z (Yk (J (s.h (of:Int))) Z e (by rcases LZ hf with rfl|rfl<;>rfl) (Yx 1 Z (Sq (Rr 2 Z ?_))))))
 have j:=(x.le f)
 refine Yk (J ch.op) Z j Z (Yx 1 Z ?_)
 by_cases hop:(of:Int)=ch.op
 ·refine Cy Z (dT hop) (WC.draw [0,1,2,3,4,5,6,7,8,9,10,11] mixed (by kernel_rfl) fun D d=>?_)
  have k:=i.trans d
  refine Xn 2 Z ?_
  have l:=(e.le d)
  refine Xk (J s.rt) Z l Z (Xh Z (j.le d) (Xh Z l (Xn 1 Z (Xd Z (Kq (c:=c) ch own D (hC.le k) hr (by omega)) ?_))))
  rintro _ F ⟨L,N,rfl,O,m⟩
  refine⟨fun _=>m,?_⟩
  refine Xn 1 Z (Xc Z (LG s.rt ((iA s.cs).length) (by omega) (by omega) F) fun P o=>?_)
  have H:=(k.trans m).trans o
  refine Xp Z (Xp Z (Xx 1 Z (Ry 2 Z Z Z ?_)))
  exact⟨by unfold tT;rw[if_pos hop,agI],H⟩
 refine Cn Z (dF hop) (Sn (Ry 2 Z Z Z ?_))
 exact⟨by unfold tT;rw[if_neg hop,Int.sub_zero],i⟩
def uH (w:World)(base g:Nat)(F:Nat->Prop)(xs:List vP):Prop:=∃A c,ik w g 170 #[.slice A xs.length c]/\iy w base 180 Fp 40 A xs.length c xs/\(∀k,F k↔(k=g\/rowOf A c=some k))/\base<=g
section
variable {w w':World}{base g b:Nat}{F G:Nat->Prop}{xs ys:List vP}{u:Unit}
theorem uH.ji {F':Nat->Prop}(h:uH w base g F xs)(hc:iX w w' F')(hne:∀k,F k->¬F' k):uH w' base g F xs:=by
 obtain⟨A,c,e,f,d,i⟩:=h
 exact⟨A,c,e.ji hc (hne g ((d g).2 (.inl Z))),f.ji hc fun k hk=>hne k ((d k).2 (.inr hk)),d,i⟩
theorem uH.ch {r:Option Nat}(h:uH w base g F xs)(hc:Ch w w' r)(hne:∀k,r=some k->¬F k):uH w' base g F xs:=h.ji (hc.ji (F:=fun k=>r=some k) (fun i hi=>hi)) (fun k hk hr=>hne k hr hk)
theorem uH.le (h:uH w base g F xs)(hl:Le w w'):uH w' base g F xs:=h.ji (hl.ji (fun _=>False)) (fun _ _ hf=>hf)
theorem uH.lt (h:uH w base g F xs){k:Nat}(hk:F k):k<w.heap.size:=by
 obtain⟨A,c,d,e,f,i⟩:=h
 rcases(f k).1 hk with rfl|hk
 ·exact d.lt
 ·exact(e.row hk).2
theorem uH.old (h:uH w base g F xs){k:Nat}(hk:F k):base<=k:=by
 obtain⟨A,c,i,d,e,f⟩:=h
 rcases(e k).1 hk with rfl|hk
 ·exact f
 ·exact(d.row hk).1
theorem uH.jg {k t:Nat}{cs:Array Value}(h:uH w base g F xs)(hB:ik w k t cs)(e1:170≠t)(e2:180≠t):¬F k:=fun hF=>by
 obtain⟨A,c,d,e,f,i⟩:=h
 rcases(f k).1 hF with rfl|hq
 ·exact e1 (FE d hB)
 ·obtain⟨cs',hc⟩:=e.qU hq
  exact e2 (FE hc hB)
theorem uH.xX {e sz:Nat}{f:α->List Value}{zs:List α}(h:uH w base g F xs)(ho:iy w b e f sz A n c zs)(h1:170≠e)(h2:180≠e):∀k,rowOf A c=some k->¬F k:=fun k hk=>by
 obtain⟨cs,hB⟩:=ho.qU hk
 exact h.jg hB h1 h2
theorem kW.O7 {s:List vP}(h:kW w b ys u)(k:iX w w' G)(hp:uH w base g G s)(h1:170≠60)(h2:180≠60)(h3:170≠189)(h4:180≠189):kW w' b ys u:=fun x hx=>
 ⟨(h x hx).1.ji k (hp.xX (h x hx).1 h3 h4),(h x hx).2.map fun _ _ _ _ q=>q.ji k (hp.xX q h1 h2)⟩
end
variable {bl bN bC:Nat}{bA:Option Addr}{lk:List Bp}{rs:List qZ}
theorem abr {base g:Nat}(am FF:Int)(cd:mF)(w:World)(hb:ik w g 170 #[.slice A n c])(hO:iy w base 180 Fp 40 A n c xs)(hbase:base<=w.heap.size)(hn:n<100)(hM:kW w bl [lk0 bA bN bC lk rs] ())(hbn:rs.length<=100):Calls prog 63 #[J am,.agg #[.slice bA bN bC],.agg #[J FF,J cd.fr,J cd.id,J cd.am,.int .u64 (cd.pt:Int),J (cd.ex)],.pointer (some ⟨g,0,none⟩)] w fun r w'=>r= .returned (.tuple #[])/\∃A' c',ik w' g 170 #[.slice A' (n+1) c']/\iy w' base 180 Fp 40 A' (n+1) c' (xs++[(⟨am,bA,bN,bC,FF,cd,lk,rs⟩:vP)])/\(∀k,rowOf A' c'=some k->rowOf A c=some k\/w.heap.size<=k)/\iX w w' (fun k=>k=g\/rowOf A c=some k):=by
 have hne:rowOf A c≠some g:=fun he=>iy.kV hO hb (by decide) he
 have hOl:=hO.1
 refine En func63 Z (Sr (Yv Z fun I K ae (L:ik K I 173 #[.slice bA bN bC]) l=>Yv Z fun N O af (P:ik O N 175 #[J FF,J cd.fr,J cd.id,J cd.am,.int .u64 (cd.pt:Int),J (cd.ex)]) e=>Nx (WC.draw [0,1,2,3,4,5,6,7,8,9,10] mixed (by kernel_rfl) fun Q d=>?_)))
 have o:=(hb.le (l.trans (e.trans d)))
 refine Xk (.slice A n c) Z o Z (Xn 1 Z ?_)
 have t:=(L.le (e.trans d))
 refine Xh Z t (Ga Z (.iF (XQ (⟨am,bA,bN,bC⟩)) agn adv Z Z) (Xh Z (P.le d) (Xh Z t ?_)))
 have u:=(hM.le (l.trans (e.trans d)))
 refine Xc Z (aa7 (c:=bC) Q (u _ (List.mem_singleton.2 Z)).1.vec (u _ (List.mem_singleton.2 Z)).2.weak (by have h1:rs.length=bN:=(hM _ (List.mem_singleton.2 Z)).1.1;omega)) fun R f=>Ga Z (.iF (Fp (⟨am,bA,bN,bC,FF,cd,lk,rs⟩:vP)) agp afP Z Z) (G.ef Z Z Z Z Z (Ef.iw (len:=1) [_] underlying170 RB Z (by simp[Value.cells,mW.len]) Z (by decide) (by decide) ?_))
 intro x y S m j
 refine⟨fun _=>j,?_⟩
 have B:=(((((iX.refl w (fun k=>k=g\/rowOf A c=some k)).le l).le e).le d).le f).le j
 have m:ik y x 180 (([(⟨am,bA,bN,bC,FF,cd,lk,rs⟩:vP)]).map Fp).flatten.toArray:=m
 have ah:iy y R.heap.size 180 Fp 40 (some ⟨x,0,none⟩) 1 1 ([(⟨am,bA,bN,bC,FF,cd,lk,rs⟩:vP)]):=m.j4 S mW Z Z (by decide)
 refine G.ef Z Z Z Z Z (Ef.vJ (a:=(⟨am,bA,bN,bC,FF,cd,lk,rs⟩:vP)) underlying170 RB underlying170 mW Z (hO.le (l.trans (e.trans (d.trans (f.trans j))))) Z m (by omega) (by unfold maxLen;omega) (Nat.le_trans hbase (B).size) ?_)
 intro U V X Y C D
 refine noT (by kernel_rfl) ?_
 have aa:iX w X (fun k=>k=g\/rowOf A c=some k):=B.ch C (fun i hi _=>(fun i hi=>Or.inr hi) i hi)
 refine G.jR Z Z Z Z (Ef.store afM Z Z ((o.le (f.trans j)).ch C hne) (by first|decide|(simp;done)) Z ?_)
 intro F s H
 refine noT (by kernel_rfl) ?_
 have s:ik F g 170 #[.slice U (n+1) V]:=s
 have ac:iX w F (fun k=>k=g\/rowOf A c=some k):=aa.ch H (fun i hi _=>by cases hi;exact Or.inl Z)
 refine G.nil (E.end_ ?_)
 have _:=f.size
 have _:=j.size
 have ad:=(Y.ch H (fun q hq=>by cases hq;exact(D.off (by have:=o.lt;omega) hne)))
 refine E.Pt Z ?_
 exact⟨rfl,_,_,s,ad,fun k hk=>(D k hk).imp id fun h=>by have:=l.size;have:=e.size;have:=d.size;omega,ac⟩
theorem zZ {base g:Nat}{F:Nat->Prop}(am FF:Int)(cd:mF)(h:uH w base g F xs)(hM:kW w bl [lk0 bA bN bC lk rs] ())(hn:xs.length<100)(hbn:lk.length<=100):
  Calls prog 63 #[J am,.agg #[.slice bA bN bC],.agg #[J FF,J cd.fr,J cd.id,J cd.am,.int .u64 (cd.pt:Int),J cd.ex],.pointer (some ⟨g,0,none⟩)] w fun r w'=>∃F',r= .returned (.tuple #[])/\uH w' base g F' (xs++[(⟨am,bA,bN,bC,FF,cd,lk,rs⟩:vP)])/\(∀k,F' k->F k\/w.heap.size<=k)/\iX w w' F:=by
 obtain⟨A,c,e,f,d,j⟩:=h
 refine(abr am FF cd w e f (by have:=e.lt;omega) hn hM (by have n:rs.length=lk.length:=(hM _ (List.mem_singleton.2 Z)).2.1;omega)).mono ?_
 rintro r w' ⟨rfl,A',c',k1,k2,l,m⟩
 refine⟨fun k=>k=g\/rowOf A' c'=some k,rfl,⟨A',c',by rw[List.length_append];exact k1,by rw[List.length_append];exact k2,fun k=>Iff.rfl,j⟩,?_,m.mono fun i hi _=>(d i).2 hi⟩
 rintro k (rfl|hk)
 ·exact .inl ((d k).2 (.inl Z))
 ·exact(l k hk).imp (fun q=>(d k).2 (.inr q)) id
abbrev Gh:=Int×Int×mF×List Bp
def gh (x:vP):Gh:=(x.am,x.FF,x.c,x.lk)
def aiq (a b:Gh):Int:=ZA [pJ a.1 b.1,UT (tQ a.2.2.2) (tQ b.2.2.2),pJ a.2.1 b.2.1,pJ a.2.2.1.fr b.2.2.1.fr,pJ a.2.2.1.id b.2.2.1.id]
def ltG (a b:Gh):Bool:=decide (aiq a b<0)
variable {β:Type}
theorem getD_map (f:α->β)(xs:List α)(i:Nat)(d:α):(xs.map f).getD i (f d)=f (xs.getD i d):=by
 simp only[List.getD_eq_getElem?_getD,List.getElem?_map]
 cases xs[i]? <;>rfl
theorem abt (f:α->β)(d:α)(i j:Nat)(xs:List α):(swp d i j xs).map f=swp (f d) i j (xs.map f):=by unfold swp;simp only[List.map_set,getD_map]
theorem OC (f:α->β){lt:α->α->Bool}{lt':β->β->Bool}(h:∀x y,lt' (f x) (f y)=lt x y)(d:α)(a:Nat):∀(j:Nat) (xs:List α),(xG lt d a j xs).map f=xG lt' (f d) a j (xs.map f)
 |0,_=>rfl
 |j+1,xs=>by
  rw[xG,xG,getD_map,getD_map,h]
  split
  ·rw[OC f h d a j,abt]
  ·rfl
theorem Qu (f:α->β){lt:α->α->Bool}{lt':β->β->Bool}(h:∀x y,lt' (f x) (f y)=lt x y)(d:α)(a b:Nat)(xs:List α):(kK lt d a b xs).map f=kK lt' (f d) a b (xs.map f):=by
 unfold kK KR
 generalize List.range' (a+1) (b-(a+1))=l
 induction l generalizing xs with
 |nil=>rfl
 |cons i l ih=>rw[List.foldl_cons,List.foldl_cons,ih,OC f h]
theorem Qv {lt:α->α->Bool}(d:α)(a b:Nat)(xs:List α):(kK lt d a b xs).length=xs.length:=by
 unfold kK KR
 generalize List.range' (a+1) (b-(a+1))=l
 induction l generalizing xs with
 |nil=>rfl
 |cons i l ih=>rw[List.foldl_cons,ih,GM]
theorem OD {lt:α->α->Bool}{a:Nat}:∀(j:Nat) (xs:List α),j<xs.length->∀x∈xG lt d a j xs,x∈xs
 |0,_,_,_,h=>h
 |j+1,xs,hj,x,h=>by
  rw[xG]at h
  split at h
  ·have h1:=OD j _ (by rw[KQ];omega) x h
   unfold swp at h1
   rcases List.mem_or_eq_of_mem_set h1 with c|c
   ·rcases List.mem_or_eq_of_mem_set c with e|e
    ·exact e
    ·rw[e];exact r9 (by omega)
   ·rw[c];exact r9 hj
  ·exact h
theorem IL {lt:α->α->Bool}{b:Nat}{xs:List α}(hb:b<=xs.length):∀x∈kK lt d 0 b xs,x∈xs:=by
 have key:∀(l:List Nat) (ys:List α),(∀i∈l,i<ys.length)->∀x∈l.foldl (fun l i=>xG lt d 0 i l) ys,x∈ys:=by
  intro l
  induction l with
  |nil=>intro ys _ x h;exact h
  |cons i l ih=>intro ys hi x h;exact OD i ys (hi i (by simp)) x (ih _ (fun j hj=>by rw[GM];exact hi j (by simp[hj])) x h)
 exact key _ xs fun i hi=>by rw[List.mem_range'_1]at hi;omega
theorem agJ (x y:vP):ltG (gh x) (gh y)=Ec x y:=Z
def YN (ch:vM)(own per:Nat)(c:mF):Gh:=
 let m:=qI (ch.b own 3) per;let t:=qI (ch.b (1-own) 3) per;let r:=xW (ch.b (1-own) 4) per;let dl:Int:=5+(((1-own:Nat)):Int)
 if c.fr=(own:Int)then(c.am,5,c,[⟨[r],0,0,0⟩,⟨[t],0,0,c.pt⟩,⟨[m],c.ex,dl,0⟩])else(c.am,6,c,[⟨[r],0,0,0⟩,⟨[m],0,dl,c.pt⟩,⟨[t],c.ex,0,0⟩])
def g1B (ch:vM)(s:ny)(own per:Nat):List Gh:=if 100<=tT ch s (own:Int)then[(tT ch s (own:Int),1,ag,Sv (qI (ch.b own 2) per) (xW (ch.b (1-own) 4) per) (5+(((1-own:Nat)):Int)))]else[]
def g2B (ch:vM)(s:ny)(own per:Nat):List Gh:=g1B ch s own per++if 100<=tT ch s (((1-own:Nat)):Int)then[(tT ch s (((1-own:Nat)):Int),2,ag,abp (ch.b (1-own) 1))]else[]
def g3B (ch:vM)(s:ny)(own per:Nat):List Gh:=g2B ch s own per++[(330,3,ag,IJ (ch.b own 0)),(330,4,ag,IJ (ch.b (1-own) 0))]
def Ma (ch:vM)(s:ny)(own per:Nat):List Gh:=g3B ch s own per++(iA s.cs).map (YN ch own per)
def qC (ch:vM)(s:ny)(own per:Nat):List uG:=(kK ltG (gh jS) 0 (Ma ch s own per).length (Ma ch s own per)).map fun m=>⟨m.1,m.2.2.2⟩
theorem Qw (ch:vM)(s:ny)(own per:Nat):(g2B ch s own per).length<=2:=by unfold g2B g1B;rw[List.length_append];split<;>split<;>simp
theorem abu (ch:vM)(s:ny)(own per:Nat):(Ma ch s own per).length<=4+(iA s.cs).length:=by
 have:=Qw ch s own per
 unfold Ma g3B;simp only[List.length_append,List.length_cons,List.length_nil,List.length_map];omega
def ouX (x:vP):UJ:=⟨x.am,x.bA,x.bN,x.bC⟩
variable {ys:List vP}
theorem abv {b:Nat}(h:kW w b ys ())(hl:∀x∈ys,x.lk.length<=3):rF w b (ys.map ouX) (ys.map fun x=>(⟨x.am,x.lk⟩:uG)):=by
 refine⟨by simp,fun i hi=>?_⟩
 rw[List.length_map]at hi
 have e1:(ys.map ouX).getD i oL=ouX ys[i]:=by simp[List.getD,hi]
 have e2:(ys.map fun x=>(⟨x.am,x.lk⟩:uG)).getD i qf=⟨ys[i].am,ys[i].lk⟩:=by simp[List.getD,hi]
 rw[e1,e2]
 obtain⟨c,d⟩:=h ys[i] (List.getElem_mem hi)
 exact⟨rfl,by have:=hl _ (List.getElem_mem hi);show ys[i].lk.length<=_;omega,ys[i].rs,c,d⟩
def OE (x:vP):List Value:=[J x.am,.slice x.bA x.bN x.bC]
def rlV (x:vP):List Value:=[J x.FF,J x.c.fr,J x.c.id,J x.c.am,.int .u64 (x.c.pt:Int),J x.c.ex]
theorem IM:kM OE 2:=⟨fun _=>rfl,fun x v hv=>by simp[OE]at hv;rcases hv with rfl|rfl<;>rfl,by decide⟩
theorem Mc:kM rlV 6:=⟨fun _=>rfl,fun x v hv=>by simp[rlV]at hv;rcases hv with rfl|rfl|rfl|rfl|rfl|rfl<;>rfl,by decide⟩
theorem ad3 {b e:Nat}(h:iy w b e OE 2 A n c ys):iy w b e XQ 2 A n c (ys.map ouX):=⟨by rw[List.length_map];exact h.1,by rw[List.map_map];exact h.2⟩
theorem abw {ch:vM}{s:ny}{own per:Nat}(h:ys.map gh=Ma ch s own per)(hx:x∈ys):x.lk.length<=3:=by
 have d:gh x∈Ma ch s own per:=h▸List.mem_map_of_mem hx
 have key:∀m∈Ma ch s own per,m.2.2.2.length<=3:=fun m hm=>by
  unfold Ma g3B g2B g1B at hm
  simp only[List.mem_append,List.mem_map,List.mem_cons,List.not_mem_nil,or_false]at hm
  rcases hm with((hm|hm)|(rfl|rfl))|⟨c,_,rfl⟩
  ·split at hm
   ·rw[List.mem_singleton.1 hm];exact(by decide:2<=3)
   ·cases hm
  ·split at hm
   ·rw[List.mem_singleton.1 hm];exact(by decide:1<=3)
   ·cases hm
  ·exact(by decide:2<=3)
  ·exact(by decide:2<=3)
  ·unfold YN;dsimp only;split<;>exact Nat.le_refl 3
 exact key _ d
theorem OG {p:Nat}(h:right p=true):p<18446744073709551616:=by
 unfold right at h
 simp only[Bool.and_eq_true,decide_eq_true_eq]at h
 exact Nat.lt_trans h.1.2 (by decide)
set_option maxHeartbeats 40000000 in
theorem uI (ch:vM) (own per:Nat) {s:ny} {A:Option Addr} {n c:Nat} (w:World) (hC:Vec w jl 5 A n s.cs) (hr:kz ch.am ch.op s) (hch:CO ch) (ho:own<2) (hp1:right per=true) (hp2:per<18446744073709551616) (h8:s.cs.length<=8):Calls prog 27 #[.agg (mU ch).toArray,.agg #[J s.no,J s.h0,J s.h1,.slice A n c,J (s.rt)],J (own:Int),.int .u64 (per:Int)] w fun r w'=>∃Ai ci Ao no co Ar cr,r= .returned (.tuple #[.agg #[.slice Ai 1 ci,.slice Ao no co,J (2*s.no+(own:Int)),.slice Ar no cr],J 0])/\iy w' w.heap.size 198 Qp 36 Ai 1 ci [iP]/\(∃zY,iy w' w.heap.size 177 XQ 2 Ao no co zY/\rF w' w.heap.size zY (qC ch s own per))/\Le w w':=by
 have hl:=hC.1;have hlen:=hr.len;have hno:=hr.wY
 have hsl:=Ko s.cs
 have hbt:∀i o,o<5->ch.b i o<18446744073709551616:=fun i o h=>(vM.bOk hch h).2.2
 have hm:=hbt own 0 (by decide)
 have hn:=hbt (1-own) 0 (by decide)
 have hp:=hbt own 1 (by decide)
 have hs:=hbt (1-own) 1 (by decide)
 have ht:=hbt own 2 (by decide)
 have hu:=hbt (1-own) 2 (by decide)
 have hw:=hbt own 3 (by decide)
 have hy:=hbt (1-own) 3 (by decide)
 have hA:=hbt own 4 (by decide)
 have hD:=hbt (1-own) 4 (by decide)
 refine En func27 Z (Sr (Yv Z fun H eI hE (eJ:ik eI H 68 (mU ch).toArray) eK=>Yv Z fun I eL hG (eM:ik eL I 38 #[J s.no,J s.h0,J s.h1,.slice A n c,J (s.rt)]) cZ=>?_))
 have L2:=((Le.refl w).trans eK).trans cZ
 refine Yz Z z116 fun D c0 eN (bf:ik c0 D 116 #[.slice none 0 0,.slice none 0 0,J 0,.slice none 0 0]) bV=>Yx 1 Z (Sq (Bk (Rr 1 Z (Yc Z (YM own (by omega) c0) fun eO aG=>Yn 3 Z (Yc Z (by have q:=lC per hp2 eO;rw[hp1]at q;exact q) fun eP aH=>?_)))))
 have L5:=((L2.trans bV).trans aG).trans aH
 refine Yx 3 Z (Cf Z (Sr ?_))
 have f6:=(eJ.le (cZ.trans (bV.trans (aG.trans aH))))
 refine Yh Z f6 ?_
 have f7:=(eM.le (bV.trans (aG.trans aH)))
 refine Yh Z f7 (Yc Z (D7 (c:=c) ch hch eP (hC.le L5) hr) fun eQ N=>Yx 2 Z (Cf Z (WC.skip (E.jD (E.iM (Rr 1 Z (Wa (.as (.sub Z Z (by omega)) (int_eq (b:=(((1-own):Nat):Int)) (by omega))) Z (Yx 1 Z ?_))))))))
 refine Rr 2 Z (Yj (1-own) Z (Yg Z ?_))
 have f9:=(f6.le N)
 refine Yk (J (5+(((1-own):Nat):Int))) Z f9 (ad2 ch (by omega)) (Yx 1 Z (Rr 2 Z (Yj (1-own) Z (Yg Z (Yk (.int .u64 (((ch.b (1-own) 4):Nat):Int)) Z f9 (ad1 ch (by omega)) (Yn 1 Z (Yc Z (aa5 (ch.b (1-own) 4) per (by first|assumption|omega) (by first|assumption|omega) eQ) fun hH O=>Yx 1 Z (Sq ?_))))))))
 refine WC.draw [0,1,2,3,4,5,7,8,9,10,11,12,6,13,14,15] mixed (by kernel_rfl) fun w8 P=>Xn 2 Z (Xj own Z (Xg Z ?_))
 have aR:=(f9.le (O.trans P))
 refine Xk (.int .u64 (((ch.b own 3):Nat):Int)) Z aR (YJ ch (by omega)) (Xn 3 Z (Xj (1-own) Z (Xg Z (Xk (.int .u64 (((ch.b (1-own) 3):Nat):Int)) Z aR (YJ ch (by omega)) (Xn 1 Z (Xc Z (LM (ch.b own 3) per (by first|assumption|omega) (by first|assumption|omega) w8) fun eR B=>Xc Z (LM (ch.b (1-own) 3) per (by first|assumption|omega) (by first|assumption|omega) eR) fun K C=>?_))))))
 have aS:=((((L5.trans N).trans O).trans P).trans B).trans C
 refine Xx 2 Z (Sr (W.ef Z Z Z (Ef.alloc ahV fun Q bt eS (eT:ik bt Q 170 #[.slice none 0 0]) bu=>?_)))
 have c1:=aS.trans bu
 refine Nx (Sr ?_)
 have c7:uH bt K.heap.size Q (fun k=>k=Q) []:=⟨none,0,eT,iy.nil _ _ _ _ _ _,fun k=>by rw[jI];simp,eS⟩
 refine Wa (.makeFunc Z) Z (Yx 1 Z ?_)
 have c8:=(aR.le (B.trans (C.trans bu)))
 have bW:=(f7.le (N.trans (O.trans (P.trans (B.trans (C.trans bu))))))
 have c9:=(bf.le (aG.trans (aH.trans (N.trans (O.trans (P.trans (B.trans (C.trans bu))))))))
 refine WC.cut (ι:=(Nat->Prop)×(List vP)) (fun⟨F1,y1⟩=>[(2,J (own:Int)),(4,.pointer (some ⟨H,0,none⟩)),(5,.pointer (some ⟨I,0,none⟩)),(8,.pointer (some ⟨D,0,none⟩)),(10,J (((1-own):Nat):Int)),(11,J (5+(((1-own):Nat):Int))),(12,.int .u64 (xW (ch.b (1-own) 4) per:Int)),(13,.int .u64 (qI (ch.b own 3) per:Int)),(14,.int .u64 (qI (ch.b (1-own) 3) per:Int)),(15,.pointer (some ⟨Q,0,none⟩)),(16,.func (.func 63) #[] #[.pointer (some ⟨Q,0,none⟩)])]) (fun⟨F1,y1⟩ aF=>(y1.map gh=g1B ch s own per)/\Le w aF/\bt.heap.size<=aF.heap.size/\ik aF H 68 (mU ch).toArray/\ik aF I 38 #[J s.no,J s.h0,J s.h1,.slice A n c,J (s.rt)]/\ik aF D 116 #[.slice none 0 0,.slice none 0 0,J 0,.slice none 0 0]/\uH aF K.heap.size Q F1 y1/\kW aF K.heap.size y1 ()) ?_ ?_
 ·refine Sr (Yh Z c8 (Yh Z bW (Yn 2 Z (Yc Z (OB (c:=c) ch own own bt (hC.le c1) hr (by omega) (by omega)) fun eU au=>Yx 1 Z (Rr 2 Z (Yj own Z ?_))))))
  have bX:=(c8.le au)
  refine Yb [J 100,J 200,J (5+(own:Int)),J 16,J 1,J (1125899906842624)] Z bX (YK ch (by omega)) (Yn 1 Z (Yc Z (Ed 100 200 (5+(own:Int)) 16 1 1125899906842624 (tT ch s (own:Int)) eU) fun eV al=>?_))
  have da:=(c1.trans au).trans al
  refine Nx ?_
  by_cases c2:100<=(tT ch s (own:Int))
  ·refine Cy Z (dT c2) (Rg (Yn 4 Z (Yj own Z (Yg Z ?_))))
   have db:=(bX.le al)
   refine Yk (.int .u64 (((ch.b own 2):Nat):Int)) Z db (adZ ch (by omega)) (Yn 1 Z (Yc Z (LM (ch.b own 2) per (by first|assumption|omega) (by first|assumption|omega) eV) fun eW aZ=>Yn 2 Z (Yd Z (YL (qI (ch.b own 2) per) (tO _ _) (xW (ch.b (1-own) 4) per) (tO _ _) (5+(((1-own):Nat):Int)) eW) ?_)))
   rintro _ hI ⟨dc,dd,de,rfl,dg,bg⟩
   refine Wa (.iF [J 1,J ag.fr,J ag.id,J ag.am,.int .u64 (ag.pt:Int),J (ag.ex)] NW z175 Z Z) Z ?_
   have bh:=(c7.le (au.trans (al.trans (aZ.trans bg))))
   refine W.ef Z Z Z (Ef.yV TW Z Z Z (zZ (tT ch s (own:Int)) 1 (⟨ag.fr,ag.id,ag.am,ag.pt,ag.ex⟩) bh dg (by first|omega|decide|(simp only[List.length_append,List.length_cons,List.length_nil];omega)) (by first|(show 1<=100;decide)|(show 2<=100;decide)|(show 3<=100;decide))) ?_)
   rintro _ hJ ⟨eX,rfl,eY,hK,bi⟩
   refine⟨_,rfl,?_⟩
   have eZ:=((da.trans aZ).trans bg).jP bi (fun i hi=>Nat.le_trans aS.size (bh.old hi))
   have _:=B.size
   have _:=C.size
   have e0:=(db.le (aZ.trans bg)).ji bi (show¬(fun k=>k=Q) H from(fun hF=>by have:=bh.old hF;have:=aR.lt;omega))
   have _:=N.size
   have _:=O.size
   have _:=P.size
   have fa:=(bW.le (au.trans (al.trans (aZ.trans bg)))).ji bi (show¬(fun k=>k=Q) I from(fun hF=>by have:=bh.old hF;have:=f7.lt;omega))
   have fb:=(c9.le (au.trans (al.trans (aZ.trans bg)))).ji bi (show¬(fun k=>k=Q) D from(fun hF=>by have:=bh.old hF;have:=bf.lt;have:=aG.size;have:=aH.size;omega))
   have fc:=((kW.nil (w:=bt) (b:=K.heap.size) (u:=())).le (au.trans (al.trans (aZ.trans bg)))).O7 bi bh (by decide) (by decide) (by decide) (by decide)
   have fd:=dg.O7 bi bh (by decide) (by decide) (by decide) (by decide)
   have _:=au.size
   have _:=al.size
   have _:=aZ.size
   have fe:=kW.app fc (kW.one (⟨(tT ch s (own:Int)),dc,2,dd,1,⟨ag.fr,ag.id,ag.am,ag.pt,ag.ex⟩,(Sv (qI (ch.b own 2) per) (xW (ch.b (1-own) 4) per) (5+(((1-own):Nat):Int))),de⟩:vP) (fd.mono (by have:=bu.size;omega)) Z)
   refine W.nil (E.meet (eX,([]++[(⟨(tT ch s (own:Int)),dc,2,dd,1,⟨ag.fr,ag.id,ag.am,ag.pt,ag.ex⟩,(Sv (qI (ch.b own 2) per) (xW (ch.b (1-own) 4) per) (5+(((1-own):Nat):Int))),de⟩:vP)])) (.of Z) ?_)
   exact⟨by unfold g1B;rw[if_pos c2];rfl,eZ,by have:=bg.size;have:=bi.size;omega,e0,fa,fb,eY,fe⟩
  refine Cn Z (dF c2) (WC.skip ?_)
  have ff:=(bX.le al)
  have fg:=(bW.le (au.trans al))
  have fh:=(c9.le (au.trans al))
  have fi:=(c7.le (au.trans al))
  have fj:=((kW.nil (w:=bt) (b:=K.heap.size) (u:=())).le (au.trans al))
  refine E.meet ((fun k=>k=Q),[]) (.of Z) ?_
  exact⟨by unfold g1B;rw[if_neg c2];rfl,da,by have:=au.size;have:=al.size;omega,ff,fg,fh,fi,fj⟩
 rintro⟨F1,y1⟩ aF ⟨bY,dh,fk,di,bZ,dj,dk,dm⟩
 have dn:K.heap.size<=aF.heap.size:=by have:=fk;have:=bu.size;omega
 have hL:y1.length<=1:=by rw[<-List.length_map (f:=gh),bY];unfold g1B;split<;>simp
 refine WC.cut (ι:=(Nat->Prop)×(List vP)) (fun⟨F2,y2⟩=>[(2,J (own:Int)),(4,.pointer (some ⟨H,0,none⟩)),(5,.pointer (some ⟨I,0,none⟩)),(8,.pointer (some ⟨D,0,none⟩)),(10,J (((1-own):Nat):Int)),(11,J (5+(((1-own):Nat):Int))),(12,.int .u64 (xW (ch.b (1-own) 4) per:Int)),(13,.int .u64 (qI (ch.b own 3) per:Int)),(14,.int .u64 (qI (ch.b (1-own) 3) per:Int)),(15,.pointer (some ⟨Q,0,none⟩)),(16,.func (.func 63) #[] #[.pointer (some ⟨Q,0,none⟩)])]) (fun⟨F2,y2⟩ aI=>(y2.map gh=g2B ch s own per)/\Le w aI/\aF.heap.size<=aI.heap.size/\ik aI H 68 (mU ch).toArray/\ik aI I 38 #[J s.no,J s.h0,J s.h1,.slice A n c,J (s.rt)]/\ik aI D 116 #[.slice none 0 0,.slice none 0 0,J 0,.slice none 0 0]/\uH aI K.heap.size Q F2 y2/\kW aI K.heap.size y2 ()) ?_ ?_
 ·refine Sr (Yh Z di (Yh Z bZ (Yn 2 Z (Yc Z (OB (c:=c) ch own (1-own) aF (hC.le dh) hr (by omega) (by omega)) fun fl av=>Yx 1 Z (Rr 2 Z (Yj own Z ?_))))))
  have b0:=(di.le av)
  refine Yb [J 100,J 200,J (5+(own:Int)),J 16,J 1,J (1125899906842624)] Z b0 (YK ch (by omega)) (Yn 1 Z (Yc Z (Ed 100 200 (5+(own:Int)) 16 1 1125899906842624 (tT ch s (((1-own):Nat):Int)) fl) fun fm an=>?_))
  have dp:=(dh.trans av).trans an
  refine Nx ?_
  by_cases c3:100<=(tT ch s (((1-own):Nat):Int))
  ·refine Cy Z (dT c3) (Rg (Yn 4 Z (Yj (1-own) Z (Yg Z ?_))))
   have dq:=(b0.le an)
   refine Yk (.int .u64 (((ch.b (1-own) 1):Nat):Int)) Z dq (adY ch (by omega)) (Yd Z (abq (ch.b (1-own) 1) (by first|assumption|omega) fm) ?_)
   rintro _ hM ⟨dr,ds,du,rfl,dw,bj⟩
   refine Wa (.iF [J 2,J ag.fr,J ag.id,J ag.am,.int .u64 (ag.pt:Int),J (ag.ex)] NW z175 Z Z) Z ?_
   have bk:=(dk.le (av.trans (an.trans bj)))
   refine W.ef Z Z Z (Ef.yV TW Z Z Z (zZ (tT ch s (((1-own):Nat):Int)) 2 (⟨ag.fr,ag.id,ag.am,ag.pt,ag.ex⟩) bk dw (by first|omega|decide|(simp only[List.length_append,List.length_cons,List.length_nil];omega)) (by first|(show 1<=100;decide)|(show 2<=100;decide)|(show 3<=100;decide))) ?_)
   rintro _ hN ⟨fo,rfl,fp,hP,bl⟩
   refine⟨_,rfl,?_⟩
   have fq:=(dp.trans bj).jP bl (fun i hi=>Nat.le_trans aS.size (bk.old hi))
   have _:=B.size
   have _:=C.size
   have fs:=(dq.le bj).ji bl (show¬F1 H from(fun hF=>by have:=bk.old hF;have:=aR.lt;omega))
   have _:=N.size
   have _:=O.size
   have _:=P.size
   have ft:=(bZ.le (av.trans (an.trans bj))).ji bl (show¬F1 I from(fun hF=>by have:=bk.old hF;have:=f7.lt;omega))
   have fu:=(dj.le (av.trans (an.trans bj))).ji bl (show¬F1 D from(fun hF=>by have:=bk.old hF;have:=bf.lt;have:=aG.size;have:=aH.size;omega))
   have fv:=(dm.le (av.trans (an.trans bj))).O7 bl bk (by decide) (by decide) (by decide) (by decide)
   have fw:=dw.O7 bl bk (by decide) (by decide) (by decide) (by decide)
   have _:=av.size
   have _:=an.size
   have fx:=kW.app fv (kW.one (⟨(tT ch s (((1-own):Nat):Int)),dr,1,ds,2,⟨ag.fr,ag.id,ag.am,ag.pt,ag.ex⟩,(abp (ch.b (1-own) 1)),du⟩:vP) (fw.mono (by have:=dn;omega)) Z)
   refine W.nil (E.meet (fo,(y1++[(⟨(tT ch s (((1-own):Nat):Int)),dr,1,ds,2,⟨ag.fr,ag.id,ag.am,ag.pt,ag.ex⟩,(abp (ch.b (1-own) 1)),du⟩:vP)])) (.of Z) ?_)
   exact⟨by unfold g2B;rw[<-bY,if_pos c3,List.map_append];rfl,fq,by have:=bj.size;have:=bl.size;omega,fs,ft,fu,fp,fx⟩
  refine Cn Z (dF c3) (WC.skip ?_)
  have fy:=(b0.le an)
  have fz:=(bZ.le (av.trans an))
  have fA:=(dj.le (av.trans an))
  have fB:=(dk.le (av.trans an))
  have fC:=(dm.le (av.trans an))
  refine E.meet (F1,y1) (.of Z) ?_
  exact⟨by unfold g2B;rw[<-bY,if_neg c3,List.append_nil],dp,by have:=av.size;have:=an.size;omega,fy,fz,fA,fB,fC⟩
 rintro⟨F2,y2⟩ aI ⟨dx,fD,fE,dy,fF,fG,fH,fI⟩
 have b1:K.heap.size<=aI.heap.size:=by have:=dn;have:=fE;omega
 have hQ:y2.length<=2:=by rw[<-List.length_map (f:=gh),dx];exact Qw _ _ _ _
 refine Rr 3 Z (Yj own Z (Yg Z (Yk (.int .u64 (((ch.b own 0):Nat):Int)) Z dy (YI ch (by omega)) (Yd Z (OA (ch.b own 0) (by first|assumption|omega) aI) ?_))))
 rintro _ hR ⟨dz,dA,dB,rfl,dC,a0⟩
 refine Wa (.iF [J 3,J ag.fr,J ag.id,J ag.am,.int .u64 (ag.pt:Int),J (ag.ex)] NW z175 Z Z) Z ?_
 have bm:=(fH.le a0)
 refine W.ef Z Z Z (Ef.yV TW Z Z Z (zZ 330 3 (⟨ag.fr,ag.id,ag.am,ag.pt,ag.ex⟩) bm dC (by first|omega|decide|(simp only[List.length_append,List.length_cons,List.length_nil];omega)) (by first|(show 1<=100;decide)|(show 2<=100;decide)|(show 3<=100;decide))) ?_)
 rintro _ fJ ⟨bv,rfl,fK,b2,a1⟩
 refine⟨_,rfl,?_⟩
 have dD:=(dy.le a0)
 have dE:=(fF.le a0)
 have dG:=(fG.le a0)
 have _:=aR.lt
 have _:=B.size
 have _:=C.size
 have dH:=(show¬F2 H from(fun hF=>by have:=bm.old hF;omega))
 have dI:=dD.ji a1 dH
 have fL:¬bv H:=fun hF=>(b2 _ hF).elim dH (fun hz=>by have:=dD.lt;omega)
 have _:=f7.lt
 have _:=N.size
 have _:=O.size
 have _:=P.size
 have dJ:=(show¬F2 I from(fun hF=>by have:=bm.old hF;omega))
 have fM:¬bv I:=fun hF=>(b2 _ hF).elim dJ (fun hz=>by have:=dE.lt;omega)
 have _:=bf.lt
 have _:=aG.size
 have _:=aH.size
 have dK:=(show¬F2 D from(fun hF=>by have:=bm.old hF;omega))
 have fN:¬bv D:=fun hF=>(b2 _ hF).elim dK (fun hz=>by have:=dG.lt;omega)
 have fO:=(fI.le a0).O7 a1 bm (by decide) (by decide) (by decide) (by decide)
 have fP:=dC.O7 a1 bm (by decide) (by decide) (by decide) (by decide)
 have fQ:=kW.app fO (kW.one (⟨330,dz,2,dA,3,⟨ag.fr,ag.id,ag.am,ag.pt,ag.ex⟩,(IJ (ch.b own 0)),dB⟩:vP) (fP.mono (by have:=b1;omega)) Z)
 refine Nx (Rr 3 Z (Yj (1-own) Z (Yg Z (Yk (.int .u64 (((ch.b (1-own) 0):Nat):Int)) Z dI (YI ch (by omega)) (Yd Z (OA (ch.b (1-own) 0) (by first|assumption|omega) fJ) ?_)))))
 rintro _ hS ⟨dL,dM,dN,rfl,dO,bn⟩
 refine Wa (.iF [J 4,J ag.fr,J ag.id,J ag.am,.int .u64 (ag.pt:Int),J (ag.ex)] NW z175 Z Z) Z ?_
 have bF:=(fK.le bn)
 refine W.ef Z Z Z (Ef.yV TW Z Z Z (zZ 330 4 (⟨ag.fr,ag.id,ag.am,ag.pt,ag.ex⟩) bF dO (by first|omega|decide|(simp only[List.length_append,List.length_cons,List.length_nil];omega)) (by first|(show 1<=100;decide)|(show 2<=100;decide)|(show 3<=100;decide))) ?_)
 rintro _ b3 ⟨fR,rfl,fS,hT,bo⟩
 refine⟨_,rfl,?_⟩
 have dP:=(((fD.trans a0).jP a1 (fun i hi=>Nat.le_trans aS.size (bm.old hi))).trans bn).jP bo (fun i hi=>Nat.le_trans aS.size (bF.old hi))
 have dQ:=(dI.le bn).ji bo (show¬bv H from fL)
 have dR:=((dE.ji a1 dJ).le bn).ji bo (show¬bv I from fM)
 have fT:=(fQ.le bn).O7 bo bF (by decide) (by decide) (by decide) (by decide)
 have fU:=dO.O7 bo bF (by decide) (by decide) (by decide) (by decide)
 have _:=a0.size
 have _:=a1.size
 have fV:=kW.app fT (kW.one (⟨330,dL,2,dM,4,⟨ag.fr,ag.id,ag.am,ag.pt,ag.ex⟩,(IJ (ch.b (1-own) 0)),dN⟩:vP) (fU.mono (by have:=b1;omega)) Z)
 refine Nx (Sq (Sr (Yh Z dQ (Yh Z dR (Yn 1 Z (Yd Z (Kq (c:=c) ch own b3 (hC.le dP) hr (by omega)) ?_))))))
 rintro _ fW ⟨bG,bH,rfl,dS,a2⟩
 have fX:=dP.trans a2
 refine Yx 2 Z (Bk ?_)
 have fY:=(fS.le a2)
 have fZ:=(fV.le a2)
 have f0:=(dQ.le a2)
 have f1:=(dR.le a2)
 have f2:=((((dG.ji a1 dK).le bn).ji bo (show¬bv D from fN)).le a2)
 refine WC.loop (ι:=Nat×(Nat->Prop)×(List vP)) (fun⟨k,F3,j⟩=>[(2,J (own:Int)),(4,.pointer (some ⟨H,0,none⟩)),(5,.pointer (some ⟨I,0,none⟩)),(8,.pointer (some ⟨D,0,none⟩)),(11,J (5+(((1-own):Nat):Int))),(12,.int .u64 (xW (ch.b (1-own) 4) per:Int)),(13,.int .u64 (qI (ch.b own 3) per:Int)),(14,.int .u64 (qI (ch.b (1-own) 3) per:Int)),(15,.pointer (some ⟨Q,0,none⟩)),(16,.func (.func 63) #[] #[.pointer (some ⟨Q,0,none⟩)]),(139,.slice bG ((iA s.cs).length) bH),(140,J ((iA s.cs).length:Int)),(141,J (k:Int))]) (fun⟨k,F3,j⟩ aA=>(k<=(iA s.cs).length)/\(j.map gh=g3B ch s own per++((iA s.cs).take k).map (YN ch own per))/\Le w aA/\fW.heap.size<=aA.heap.size/\ik aA H 68 (mU ch).toArray/\ik aA I 38 #[J s.no,J s.h0,J s.h1,.slice A n c,J (s.rt)]/\ik aA D 116 #[.slice none 0 0,.slice none 0 0,J 0,.slice none 0 0]/\uH aA K.heap.size Q F3 j/\iy aA b3.heap.size 83 jl 5 bG ((iA s.cs).length) bH (iA s.cs)/\kW aA K.heap.size j ()) (fun⟨k,F3,j⟩=>(iA s.cs).length-k) (0,fR,((y2++[(⟨330,dz,2,dA,3,⟨ag.fr,ag.id,ag.am,ag.pt,ag.ex⟩,(IJ (ch.b own 0)),dB⟩:vP)])++[(⟨330,dL,2,dM,4,⟨ag.fr,ag.id,ag.am,ag.pt,ag.ex⟩,(IJ (ch.b (1-own) 0)),dN⟩:vP)])) ?_ ?_ ?_
 ·exact .of Z
 ·exact⟨Nat.zero_le _,by unfold g3B;rw[<-dx];simp[gh],fX,Nat.le_refl _,f0,f1,f2,fY,dS,fZ⟩
 rintro⟨k,F3,j⟩ aA ⟨hk,bI,dU,dV,a3,a4,aJ,ao,ap,aw⟩
 have _:=a2.size
 have hU:b3.heap.size<=aA.heap.size:=by omega
 have aK:K.heap.size<=aA.heap.size:=Nat.le_trans b1 (by have:=bn.size;have:=bo.size;omega)
 have hV:j.length<=4+k:=by have:=congrArg List.length bI;simp only[List.length_map,List.length_append,List.length_take]at this;have:=Qw ch s own per;unfold g3B at*;simp only[List.length_append,List.length_cons,List.length_nil]at*;omega
 refine Rn 1 Z (Sq ?_)
 by_cases c4:(k:Int)<((iA s.cs).length:Int)
 ·refine Cy Z (dT c4) (Nb (Sr (Ys k Z (dS.vec.isSome iN (by omega)) (Wr (.lX Lh Z ap.vec iN (jN (iA s.cs) ag (by first|omega|(simp only[List.length_cons,List.length_nil];omega)))) Z (W.ab Z z83 Bl (iN.one ((iA s.cs).getD k ag)) fun b4 f3 hW (f4:ik f3 b4 83 (jl ((iA s.cs).getD k ag)).toArray) e=>Nx (Sq (WC.ada [0,1,2,3,4,5] [6,7] [8,9] (fun i=>[]) mixed (by kernel_rfl) fun dW d=>?_)))))))
  have aT:=(dU.trans e).trans d
  refine Xn 1 Z ?_
  have bB:=(f4.le d)
  refine Xk (.int .u64 (((iA s.cs).getD k ag).pt:Int)) Z bB Z (Ga Z (.iF (xn (⟨none,0,0,0,0,((iA s.cs).getD k ag).pt⟩:qZ)) Cv DV Z Z) (Xn 1 Z (Xk (J (((iA s.cs).getD k ag).ex)) Z bB Z (Ga Z (.iF (xn (⟨none,0,0,((iA s.cs).getD k ag).ex,0,0⟩:qZ)) Cv DV Z Z) (G.nil ?_)))))
  refine E.aeV ⟨by rfl,fun i=>(bif Nat.beq i 6 then(fun v w'=>∃g,v= .pointer (some ⟨g,0,none⟩)/\ik w' g 189 #[.slice none 0 0,J 0,J 0,.int .u64 (0)])else(bif Nat.beq i 7 then(fun v w'=>∃g,v= .pointer (some ⟨g,0,none⟩)/\ik w' g 189 #[.slice none 0 0,J 0,J 0,.int .u64 (0)])else(fun _ _=>True))),?_,?_,?_⟩
  ·intro i hi v w1 w2 hv hle
   simp only[List.mem_cons,List.not_mem_nil,or_false]at hi
   rcases hi with rfl|rfl
   ·obtain⟨g,h1,S⟩:=hv;exact⟨g,h1,S.le hle⟩
   obtain⟨g,h1,S⟩:=hv;exact⟨g,h1,S.le hle⟩
  ·intro i hi
   simp only[List.mem_cons,List.not_mem_nil,or_false]at hi
   rcases hi with rfl|rfl
   ·refine Step.of0 Z Z ?_;intro w1 hle;refine Ef.pR DV ?_;intro g w2 hg b S;exact⟨S,⟨g,rfl,b⟩,fun k hk=>(show g=k from hk)▸⟨hg,b.lt⟩⟩
   refine Step.of0 Z Z ?_;intro w1 hle;refine Ef.pR DV ?_;intro g w2 hg b S;exact⟨S,⟨g,rfl,b⟩,fun k hk=>(show g=k from hk)▸⟨hg,b.lt⟩⟩
  intro agK aiJ zt Sw OH ad4
  obtain⟨R,b5,f5⟩:=Sw 6 (by decide)
  have U:dW.heap.size<=R:=(OH 6 (by decide) R (by rw[b5];rfl)).1
  obtain⟨V,b6,f8⟩:=Sw 7 (by decide)
  have X:dW.heap.size<=V:=(OH 7 (by decide) V (by rw[b6];rfl)).1
  have aU:R≠V:=fun h=>ad4 6 (by decide) 7 (by decide) (by decide) R (by rw[b5];rfl) (by rw[b6,h];rfl)
  show GS _ _ _ _ _ _ ((21,agK 6)::(22,agK 7)::_) _
  rw[b5,b6]
  refine GS.jR Z Z Z Z (Ef.storeAll NS (by rfl) Z Z f5 (by rfl) (kH.one (⟨none,0,0,0,0,((iA s.cs).getD k ag).pt⟩:qZ)) ?_)
  intro ga ax y
  have ax:ik ga R 189 (xn (⟨none,0,0,0,0,((iA s.cs).getD k ag).pt⟩:qZ)).toArray:=ax
  have dX:=zt.ja y (fun q hq=>by cases hq;exact U)
  refine⟨dX,?_⟩
  refine GS.jR Z Z Z Z (Ef.storeAll NS (by rfl) Z Z (f8.ch y (fun h=>aU (oI h))) (by rfl) (kH.one (⟨none,0,0,((iA s.cs).getD k ag).ex,0,0⟩:qZ)) ?_)
  intro gb ay m
  have ay:ik gb V 189 (xn (⟨none,0,0,((iA s.cs).getD k ag).ex,0,0⟩:qZ)).toArray:=ay
  have dY:=((aT.trans zt).tb y aT U).tb m aT X
  have gc:=dX.ja m (fun q hq=>by cases hq;exact X)
  refine⟨gc,?_⟩
  refine GS.nil (E.iM (Sr ?_))
  have _:=bB.lt
  have bJ:R≠b4:=by omega
  have bK:V≠b4:=by omega
  have b7:=(((bB.le zt).cn y bJ).cn m bK)
  refine Yh Z b7 (Wa (.iF [J 6,J (((iA s.cs).getD k ag).fr),J (((iA s.cs).getD k ag).id),J (((iA s.cs).getD k ag).am),.int .u64 (((iA s.cs).getD k ag).pt:Int),J (((iA s.cs).getD k ag).ex)] NW z175 Z Z) Z (W.ab Z z175 acy (wN Z) fun bL b8 dZ (bM:ik b8 bL 175 #[J 6,J (((iA s.cs).getD k ag).fr),J (((iA s.cs).getD k ag).id),J (((iA s.cs).getD k ag).am),.int .u64 (((iA s.cs).getD k ag).pt:Int),J (((iA s.cs).getD k ag).ex)]) t=>?_))
  have d0:=dY.trans t
  refine Nx (Sq (Rr 1 Z ?_))
  have b9:=(b7.le t)
  refine Yk (J (((iA s.cs).getD k ag).fr)) Z b9 Z (Yx 2 Z ?_)
  by_cases c5:(((iA s.cs).getD k ag).fr)=(own:Int)
  ·refine Cy Z (dT c5) (Rg (Yn 1 Z (W.ef Z Z Z (Ef.iw (len:=1) [_] underlying187 wy Z (by simp[Value.cells]) Z (by decide) (by decide) ?_))))
   intro a5 ca gf cc F
   have cc:ik ca a5 60 (([qI (ch.b (1-own) 3) per]).map su).flatten.toArray:=cc
   have bC:iy ca b8.heap.size 60 su 1 (some ⟨a5,0,none⟩) 1 1 ([qI (ch.b (1-own) 3) per]):=cc.j4 gf iT Z Z (by decide)
   refine Yn 1 Z (W.ef Z Z Z (Ef.iw (len:=1) [_] underlying187 wy Z (by simp[Value.cells]) Z (by decide) (by decide) ?_))
   intro aV d1 gg cd Y
   have cd:ik d1 aV 60 (([qI (ch.b own 3) per]).map su).flatten.toArray:=cd
   have bD:iy d1 ca.heap.size 60 su 1 (some ⟨aV,0,none⟩) 1 1 ([qI (ch.b own 3) per]):=cd.j4 gg iT Z Z (by decide)
   refine Yn 2 Z (W.jR Z Z (Ef.store NR Z Z ((ax.ch m (fun h=>(Ne.symm aU) (oI h))).le (t.trans (F.trans Y))) (by first|decide|(simp;done)|simp[kH.len]) Z ?_))
   intro gi ce aa
   have ce:ik gi R 189 (xn ({(⟨none,0,0,0,0,((iA s.cs).getD k ag).pt⟩:qZ)with kA:=(some ⟨a5,0,none⟩),kN:=1,kC:=1})).toArray:=ce
   refine Yn 1 Z (W.jR Z Z (Ef.store NR Z Z ((ay.le (t.trans (F.trans Y))).ch aa (fun h=>aU (oI h))) (by first|decide|(simp;done)|simp[kH.len]) Z ?_))
   intro gj cf ac
   have cf:ik gj V 189 (xn ({(⟨none,0,0,((iA s.cs).getD k ag).ex,0,0⟩:qZ)with kA:=(some ⟨aV,0,none⟩),kN:=1,kC:=1})).toArray:=cf
   refine Yn 1 Z (W.jR Z Z (Ef.store nC Z Z cf (by first|decide|(simp;done)|simp[kH.len]) Z ?_))
   intro gk cg ad
   have cg:ik gk V 189 (xn ({{(⟨none,0,0,((iA s.cs).getD k ag).ex,0,0⟩:qZ)with kA:=(some ⟨aV,0,none⟩),kN:=1,kC:=1}with dl:=(5+(((1-own):Nat):Int))})).toArray:=cg
   refine Yn 1 Z ?_
   have _:=ay.lt
   have d2:V≠bL:=by omega
   have _:=ax.lt
   have _:=m.size
   have d3:=((((bM.le (F.trans Y)).cn aa (by omega)).cn ac d2).cn ad d2)
   refine W.jR Z Z (Ef.store nC Z Z d3 (by first|decide|(simp;done)) Z ?_)
   intro d4 cj ae
   have cj:ik d4 bL 175 #[J 5,J (((iA s.cs).getD k ag).fr),J (((iA s.cs).getD k ag).id),J (((iA s.cs).getD k ag).am),.int .u64 (((iA s.cs).getD k ag).pt:Int),J (((iA s.cs).getD k ag).ex)]:=cj
   refine Nx (Rg (Yn 2 Z (Yk (J (((iA s.cs).getD k ag).am)) Z (((((b9.le (F.trans Y)).cn aa bJ).cn ac bK).cn ad bK).cn ae (by have:=b7.lt;omega)) Z (Yn 1 Z (W.ef Z Z Z (Ef.iw (len:=1) [_] underlying187 wy Z (by simp[Value.cells]) Z (by decide) (by decide) ?_))))))
   intro a6 ck gl cm aq
   have cm:ik ck a6 60 (([xW (ch.b (1-own) 4) per]).map su).flatten.toArray:=cm
   have gm:iy ck d4.heap.size 60 su 1 (some ⟨a6,0,none⟩) 1 1 ([xW (ch.b (1-own) 4) per]):=cm.j4 gl iT Z Z (by decide)
   refine Wa (.iF (xn (⟨(some ⟨a6,0,none⟩),1,1,0,0,0⟩:qZ)) Cv DV Z Z) Z (Yh Z ((((ce.ch ac (fun h=>(Ne.symm aU) (oI h))).ch ad (fun h=>(Ne.symm aU) (oI h))).cn ae (by omega)).le aq) (Yh Z ((cg.cn ae (by omega)).le aq) (W.ef Z Z Z (Ef.iw (len:=3) [_,_,_] underlying171 H9 Z (by simp[Value.cells,kH.len]) Z (by decide) (by decide) ?_))))
   intro bw cp gn ct aB
   have ct:ik cp bw 189 (([(⟨(some ⟨a6,0,none⟩),1,1,0,0,0⟩:qZ),{(⟨none,0,0,0,0,((iA s.cs).getD k ag).pt⟩:qZ)with kA:=(some ⟨a5,0,none⟩),kN:=1,kC:=1},{{(⟨none,0,0,((iA s.cs).getD k ag).ex,0,0⟩:qZ)with kA:=(some ⟨aV,0,none⟩),kN:=1,kC:=1}with dl:=(5+(((1-own):Nat):Int))}]).map xn).flatten.toArray:=ct
   have gp:iy cp ck.heap.size 189 xn 4 (some ⟨bw,0,none⟩) 3 3 ([(⟨(some ⟨a6,0,none⟩),1,1,0,0,0⟩:qZ),{(⟨none,0,0,0,0,((iA s.cs).getD k ag).pt⟩:qZ)with kA:=(some ⟨a5,0,none⟩),kN:=1,kC:=1},{{(⟨none,0,0,((iA s.cs).getD k ag).ex,0,0⟩:qZ)with kA:=(some ⟨aV,0,none⟩),kN:=1,kC:=1}with dl:=(5+(((1-own):Nat):Int))}]):=ct.j4 gn kH Z Z (by decide)
   refine Wa (.iF [.slice (some ⟨bw,0,none⟩) 3 3] NV z173 Z Z) Z (Yh Z (cj.le (aq.trans aB)) ?_)
   have _:=e.size
   have _:=d.size
   have gq:=(((((((((aw.le (e.trans (d.trans zt))).yu aw y (fun q hq=>by cases hq;have:=U;omega)).yu aw m (fun q hq=>by cases hq;have:=X;omega)).le (t.trans (F.trans Y))).yu aw aa (fun q hq=>by cases hq;have:=U;omega)).yu aw ac (fun q hq=>by cases hq;have:=X;omega)).yu aw ad (fun q hq=>by cases hq;have:=X;omega)).AP ae d3 (by decide) (by decide)).le (aq.trans aB))
   have gr:=(gm.le aB)
   have _:=t.size
   have _:=bM.lt
   have gs:=((((((bC.le Y).cb aa (bC.rl (by omega))).cb ac (bC.rl (by omega))).cb ad (bC.rl (by omega))).cb ae (bC.rl (by omega))).le (aq.trans aB))
   have _:=F.size
   have gu:=(((((bD.cb aa (bD.rl (by omega))).cb ac (bD.rl (by omega))).cb ad (bD.rl (by omega))).cb ae (bD.rl (by omega))).le (aq.trans aB))
   have hpt:=(hr.fine _ (List.mem_filter.1 (r9 (l:=iA s.cs) (z:=ag) (k:=k) (by omega))).1).2.2.2.2
   have hpl:=OG hpt.1
   have _:=zt.size
   have _:=y.size
   have _:=Y.size
   have _:=aa.size
   have _:=ac.size
   have _:=ad.size
   have _:=ae.size
   have _:=aq.size
   have d5:kW cp K.heap.size [lk0 (some ⟨bw,0,none⟩) 3 3 [⟨[xW (ch.b (1-own) 4) per],0,0,0⟩,⟨[qI (ch.b (1-own) 3) per],0,0,((iA s.cs).getD k ag).pt⟩,⟨[qI (ch.b own 3) per],((iA s.cs).getD k ag).ex,(5+(((1-own):Nat):Int)),0⟩] [(⟨(some ⟨a6,0,none⟩),1,1,0,0,0⟩:qZ),{(⟨none,0,0,0,0,((iA s.cs).getD k ag).pt⟩:qZ)with kA:=(some ⟨a5,0,none⟩),kN:=1,kC:=1},{{(⟨none,0,0,((iA s.cs).getD k ag).ex,0,0⟩:qZ)with kA:=(some ⟨aV,0,none⟩),kN:=1,kC:=1}with dl:=(5+(((1-own):Nat):Int))}]] ():=fun x hx=>by rw[List.mem_singleton.1 hx];exact⟨gp.mono (by have:=aK;omega),lI.push (lI.push (lI.push (lI.nil _ _) ⟨rfl,rfl,rfl,(by first|assumption|(show(0:Nat)<_;decide)),gr.mono (by have:=aK;omega),fun k hk=>by rw[List.mem_singleton.1 hk];first|assumption|exact tO _ _⟩) ⟨rfl,rfl,rfl,(by first|assumption|(show(0:Nat)<_;decide)),gs.mono (by have:=aK;omega),fun k hk=>by rw[List.mem_singleton.1 hk];first|assumption|exact tO _ _⟩) ⟨rfl,rfl,rfl,(by first|assumption|(show(0:Nat)<_;decide)),gu.mono (by have:=aK;omega),fun k hk=>by rw[List.mem_singleton.1 hk];first|assumption|exact tO _ _⟩⟩
   have a7:=(((((((((ao.le (e.trans (d.trans zt))).ch y (fun q hqq hF=>by cases hqq;have:=ao.lt hF;have:=U;omega)).ch m (fun q hqq hF=>by cases hqq;have:=ao.lt hF;have:=X;omega)).le (t.trans (F.trans Y))).ch aa (fun q hqq hF=>by cases hqq;have:=ao.lt hF;have:=U;omega)).ch ac (fun q hqq hF=>by cases hqq;have:=ao.lt hF;have:=X;omega)).ch ad (fun q hqq hF=>by cases hqq;have:=ao.lt hF;have:=X;omega)).ch ae (fun q hqq hF=>by cases hqq;have:=ao.lt hF;have:=dZ;omega)).le (aq.trans aB))
   refine W.ef Z Z Z (Ef.yV TW Z Z Z (zZ (((iA s.cs).getD k ag).am) 5 (⟨((iA s.cs).getD k ag).fr,((iA s.cs).getD k ag).id,((iA s.cs).getD k ag).am,((iA s.cs).getD k ag).pt,((iA s.cs).getD k ag).ex⟩) a7 d5 (by first|omega|decide|(simp only[List.length_append,List.length_cons,List.length_nil];omega)) (by first|(show 1<=100;decide)|(show 2<=100;decide)|(show 3<=100;decide))) ?_)
   rintro _ hX ⟨gv,rfl,gw,hY,a8⟩
   refine⟨_,rfl,?_⟩
   have gx:=((((((((d0.trans F).trans Y).tb aa aT U).tb ac aT X).tb ad aT X).tb ae dY dZ).trans aq).trans aB).jP a8 (fun i hi=>Nat.le_trans aS.size (a7.old hi))
   have _:=a3.lt
   have d6:R≠H:=by omega
   have cu:V≠H:=by omega
   have _:=a4.lt
   have d7:R≠I:=by omega
   have cv:V≠I:=by omega
   have _:=aJ.lt
   have d9:R≠D:=by omega
   have cw:V≠D:=by omega
   have ea:=(((((((((ap.le (e.trans (d.trans zt))).cb y (ap.rn (by omega))).cb m (ap.rn (by omega))).le (t.trans (F.trans Y))).cb aa (ap.rn (by omega))).cb ac (ap.rn (by omega))).cb ad (ap.rn (by omega))).cb ae (ap.rn (by omega))).le (aq.trans aB))
   have gy:=(((((((((a3.le (e.trans (d.trans zt))).cn y d6).cn m cu).le (t.trans (F.trans Y))).cn aa d6).cn ac cu).cn ad cu).cn ae (by omega)).le (aq.trans aB)).ji a8 (show¬F3 H from(fun hF=>by have:=a7.old hF;omega))
   have gz:=(((((((((a4.le (e.trans (d.trans zt))).cn y d7).cn m cv).le (t.trans (F.trans Y))).cn aa d7).cn ac cv).cn ad cv).cn ae (by omega)).le (aq.trans aB)).ji a8 (show¬F3 I from(fun hF=>by have:=a7.old hF;omega))
   have gA:=(((((((((aJ.le (e.trans (d.trans zt))).cn y d9).cn m cw).le (t.trans (F.trans Y))).cn aa d9).cn ac cw).cn ad cw).cn ae (by omega)).le (aq.trans aB)).ji a8 (show¬F3 D from(fun hF=>by have:=a7.old hF;omega))
   have gB:=gq.O7 a8 a7 (by decide) (by decide) (by decide) (by decide)
   have gC:=ea.ji a8 (show∀g,rowOf bG bH=some g->¬F3 g from(a7.xX ea (by decide) (by decide)))
   have gD:=d5.O7 a8 a7 (by decide) (by decide) (by decide) (by decide)
   have gE:=kW.app gB (kW.one (⟨((iA s.cs).getD k ag).am,(some ⟨bw,0,none⟩),3,3,5,⟨((iA s.cs).getD k ag).fr,((iA s.cs).getD k ag).id,((iA s.cs).getD k ag).am,((iA s.cs).getD k ag).pt,((iA s.cs).getD k ag).ex⟩,([⟨[xW (ch.b (1-own) 4) per],0,0,0⟩,⟨[qI (ch.b (1-own) 3) per],0,0,((iA s.cs).getD k ag).pt⟩,⟨[qI (ch.b own 3) per],((iA s.cs).getD k ag).ex,(5+(((1-own):Nat):Int)),0⟩]),[(⟨(some ⟨a6,0,none⟩),1,1,0,0,0⟩:qZ),{(⟨none,0,0,0,0,((iA s.cs).getD k ag).pt⟩:qZ)with kA:=(some ⟨a5,0,none⟩),kN:=1,kC:=1},{{(⟨none,0,0,((iA s.cs).getD k ag).ex,0,0⟩:qZ)with kA:=(some ⟨aV,0,none⟩),kN:=1,kC:=1}with dl:=(5+(((1-own):Nat):Int))}]⟩:vP) (gD.mono (by omega)) Z)
   refine W.nil (Lp 1 Z Z ?_)
   refine E.again (k+1,gv,(j++[(⟨((iA s.cs).getD k ag).am,(some ⟨bw,0,none⟩),3,3,5,⟨((iA s.cs).getD k ag).fr,((iA s.cs).getD k ag).id,((iA s.cs).getD k ag).am,((iA s.cs).getD k ag).pt,((iA s.cs).getD k ag).ex⟩,([⟨[xW (ch.b (1-own) 4) per],0,0,0⟩,⟨[qI (ch.b (1-own) 3) per],0,0,((iA s.cs).getD k ag).pt⟩,⟨[qI (ch.b own 3) per],((iA s.cs).getD k ag).ex,(5+(((1-own):Nat):Int)),0⟩]),[(⟨(some ⟨a6,0,none⟩),1,1,0,0,0⟩:qZ),{(⟨none,0,0,0,0,((iA s.cs).getD k ag).pt⟩:qZ)with kA:=(some ⟨a5,0,none⟩),kN:=1,kC:=1},{{(⟨none,0,0,((iA s.cs).getD k ag).ex,0,0⟩:qZ)with kA:=(some ⟨aV,0,none⟩),kN:=1,kC:=1}with dl:=(5+(((1-own):Nat):Int))}]⟩:vP)])) (.of Z) ?_ ?_
   ·exact⟨by omega,by rw[xU (z:=ag) (by omega),List.map_append,List.map_append,bI,List.append_assoc];congr 2;unfold YN;simp only[List.map_cons,List.map_nil];rw[if_pos c5];rfl,gx,by have:=dV;have:=aB.size;have:=a8.size;omega,gy,gz,gA,gw,gC,gE⟩
   first|omega|(simp only[];omega)
  refine Cn Z (dF c5) (Rg (Yn 1 Z (W.ef Z Z Z (Ef.iw (len:=1) [_] underlying187 wy Z (by simp[Value.cells]) Z (by decide) (by decide) ?_))))
  intro aW cx gF cy L
  have cy:ik cx aW 60 (([qI (ch.b own 3) per]).map su).flatten.toArray:=cy
  have bN:iy cx b8.heap.size 60 su 1 (some ⟨aW,0,none⟩) 1 1 ([qI (ch.b own 3) per]):=cy.j4 gF iT Z Z (by decide)
  refine Yn 1 Z (W.ef Z Z Z (Ef.iw (len:=1) [_] underlying187 wy Z (by simp[Value.cells]) Z (by decide) (by decide) ?_))
  intro a9 eb gG cz af
  have cz:ik eb a9 60 (([qI (ch.b (1-own) 3) per]).map su).flatten.toArray:=cz
  have bO:iy eb cx.heap.size 60 su 1 (some ⟨a9,0,none⟩) 1 1 ([qI (ch.b (1-own) 3) per]):=cz.j4 gG iT Z Z (by decide)
  refine Yn 2 Z (W.jR Z Z (Ef.store NR Z Z ((ax.ch m (fun h=>(Ne.symm aU) (oI h))).le (t.trans (L.trans af))) (by first|decide|(simp;done)|simp[kH.len]) Z ?_))
  intro gH cA ah
  have cA:ik gH R 189 (xn ({(⟨none,0,0,0,0,((iA s.cs).getD k ag).pt⟩:qZ)with kA:=(some ⟨aW,0,none⟩),kN:=1,kC:=1})).toArray:=cA
  refine Yn 1 Z (W.jR Z Z (Ef.store NR Z Z ((ay.le (t.trans (L.trans af))).ch ah (fun h=>aU (oI h))) (by first|decide|(simp;done)|simp[kH.len]) Z ?_))
  intro gI cB ai
  have cB:ik gI V 189 (xn ({(⟨none,0,0,((iA s.cs).getD k ag).ex,0,0⟩:qZ)with kA:=(some ⟨a9,0,none⟩),kN:=1,kC:=1})).toArray:=cB
  refine Yn 1 Z (W.jR Z Z (Ef.store nC Z Z (cA.ch ai (fun h=>(Ne.symm aU) (oI h))) (by first|decide|(simp;done)|simp[kH.len]) Z ?_))
  intro ec cC aj
  have cC:ik ec R 189 (xn ({{(⟨none,0,0,0,0,((iA s.cs).getD k ag).pt⟩:qZ)with kA:=(some ⟨aW,0,none⟩),kN:=1,kC:=1}with dl:=(5+(((1-own):Nat):Int))})).toArray:=cC
  refine Nx (Rg (Yn 2 Z (Yk (J (((iA s.cs).getD k ag).am)) Z ((((b9.le (L.trans af)).cn ah bJ).cn ai bK).cn aj bJ) Z (Yn 1 Z (W.ef Z Z Z (Ef.iw (len:=1) [_] underlying187 wy Z (by simp[Value.cells]) Z (by decide) (by decide) ?_))))))
  intro ba cD gJ cE ar
  have cE:ik cD ba 60 (([xW (ch.b (1-own) 4) per]).map su).flatten.toArray:=cE
  have gK:iy cD ec.heap.size 60 su 1 (some ⟨ba,0,none⟩) 1 1 ([xW (ch.b (1-own) 4) per]):=cE.j4 gJ iT Z Z (by decide)
  refine Wa (.iF (xn (⟨(some ⟨ba,0,none⟩),1,1,0,0,0⟩:qZ)) Cv DV Z Z) Z (Yh Z (cC.le ar) (Yh Z ((cB.ch aj (fun h=>aU (oI h))).le ar) (W.ef Z Z Z (Ef.iw (len:=3) [_,_,_] underlying171 H9 Z (by simp[Value.cells,kH.len]) Z (by decide) (by decide) ?_))))
  intro bx cF gL cG aC
  have cG:ik cF bx 189 (([(⟨(some ⟨ba,0,none⟩),1,1,0,0,0⟩:qZ),{{(⟨none,0,0,0,0,((iA s.cs).getD k ag).pt⟩:qZ)with kA:=(some ⟨aW,0,none⟩),kN:=1,kC:=1}with dl:=(5+(((1-own):Nat):Int))},{(⟨none,0,0,((iA s.cs).getD k ag).ex,0,0⟩:qZ)with kA:=(some ⟨a9,0,none⟩),kN:=1,kC:=1}]).map xn).flatten.toArray:=cG
  have gM:iy cF cD.heap.size 189 xn 4 (some ⟨bx,0,none⟩) 3 3 ([(⟨(some ⟨ba,0,none⟩),1,1,0,0,0⟩:qZ),{{(⟨none,0,0,0,0,((iA s.cs).getD k ag).pt⟩:qZ)with kA:=(some ⟨aW,0,none⟩),kN:=1,kC:=1}with dl:=(5+(((1-own):Nat):Int))},{(⟨none,0,0,((iA s.cs).getD k ag).ex,0,0⟩:qZ)with kA:=(some ⟨a9,0,none⟩),kN:=1,kC:=1}]):=cG.j4 gL kH Z Z (by decide)
  refine Wa (.iF [.slice (some ⟨bx,0,none⟩) 3 3] NV z173 Z Z) Z ?_
  have _:=ax.lt
  have _:=m.size
  have ed:R≠bL:=by omega
  have _:=ay.lt
  refine Yh Z (((((bM.le (L.trans af)).cn ah ed).cn ai (by omega)).cn aj ed).le (ar.trans aC)) ?_
  have _:=e.size
  have _:=d.size
  have gN:=((((((((aw.le (e.trans (d.trans zt))).yu aw y (fun q hq=>by cases hq;have:=U;omega)).yu aw m (fun q hq=>by cases hq;have:=X;omega)).le (t.trans (L.trans af))).yu aw ah (fun q hq=>by cases hq;have:=U;omega)).yu aw ai (fun q hq=>by cases hq;have:=X;omega)).yu aw aj (fun q hq=>by cases hq;have:=U;omega)).le (ar.trans aC))
  have gO:=(gK.le aC)
  have _:=t.size
  have gP:=(((((bN.le af).cb ah (bN.rl (by omega))).cb ai (bN.rl (by omega))).cb aj (bN.rl (by omega))).le (ar.trans aC))
  have _:=L.size
  have gQ:=((((bO.cb ah (bO.rl (by omega))).cb ai (bO.rl (by omega))).cb aj (bO.rl (by omega))).le (ar.trans aC))
  have hpt:=(hr.fine _ (List.mem_filter.1 (r9 (l:=iA s.cs) (z:=ag) (k:=k) (by omega))).1).2.2.2.2
  have hpl:=OG hpt.1
  have _:=zt.size
  have _:=y.size
  have _:=af.size
  have _:=ah.size
  have _:=ai.size
  have _:=aj.size
  have _:=ar.size
  have ee:kW cF K.heap.size [lk0 (some ⟨bx,0,none⟩) 3 3 [⟨[xW (ch.b (1-own) 4) per],0,0,0⟩,⟨[qI (ch.b own 3) per],0,(5+(((1-own):Nat):Int)),((iA s.cs).getD k ag).pt⟩,⟨[qI (ch.b (1-own) 3) per],((iA s.cs).getD k ag).ex,0,0⟩] [(⟨(some ⟨ba,0,none⟩),1,1,0,0,0⟩:qZ),{{(⟨none,0,0,0,0,((iA s.cs).getD k ag).pt⟩:qZ)with kA:=(some ⟨aW,0,none⟩),kN:=1,kC:=1}with dl:=(5+(((1-own):Nat):Int))},{(⟨none,0,0,((iA s.cs).getD k ag).ex,0,0⟩:qZ)with kA:=(some ⟨a9,0,none⟩),kN:=1,kC:=1}]] ():=fun x hx=>by rw[List.mem_singleton.1 hx];exact⟨gM.mono (by have:=aK;omega),lI.push (lI.push (lI.push (lI.nil _ _) ⟨rfl,rfl,rfl,(by first|assumption|(show(0:Nat)<_;decide)),gO.mono (by have:=aK;omega),fun k hk=>by rw[List.mem_singleton.1 hk];first|assumption|exact tO _ _⟩) ⟨rfl,rfl,rfl,(by first|assumption|(show(0:Nat)<_;decide)),gP.mono (by have:=aK;omega),fun k hk=>by rw[List.mem_singleton.1 hk];first|assumption|exact tO _ _⟩) ⟨rfl,rfl,rfl,(by first|assumption|(show(0:Nat)<_;decide)),gQ.mono (by have:=aK;omega),fun k hk=>by rw[List.mem_singleton.1 hk];first|assumption|exact tO _ _⟩⟩
  have bb:=((((((((ao.le (e.trans (d.trans zt))).ch y (fun q hqq hF=>by cases hqq;have:=ao.lt hF;have:=U;omega)).ch m (fun q hqq hF=>by cases hqq;have:=ao.lt hF;have:=X;omega)).le (t.trans (L.trans af))).ch ah (fun q hqq hF=>by cases hqq;have:=ao.lt hF;have:=U;omega)).ch ai (fun q hqq hF=>by cases hqq;have:=ao.lt hF;have:=X;omega)).ch aj (fun q hqq hF=>by cases hqq;have:=ao.lt hF;have:=U;omega)).le (ar.trans aC))
  refine W.ef Z Z Z (Ef.yV TW Z Z Z (zZ (((iA s.cs).getD k ag).am) 6 (⟨((iA s.cs).getD k ag).fr,((iA s.cs).getD k ag).id,((iA s.cs).getD k ag).am,((iA s.cs).getD k ag).pt,((iA s.cs).getD k ag).ex⟩) bb ee (by first|omega|decide|(simp only[List.length_append,List.length_cons,List.length_nil];omega)) (by first|(show 1<=100;decide)|(show 2<=100;decide)|(show 3<=100;decide))) ?_)
  rintro _ hZ ⟨gR,rfl,gS,h3,bc⟩
  refine⟨_,rfl,?_⟩
  have gT:=(((((((d0.trans L).trans af).tb ah aT U).tb ai aT X).tb aj aT U).trans ar).trans aC).jP bc (fun i hi=>Nat.le_trans aS.size (bb.old hi))
  have _:=a3.lt
  have cH:R≠H:=by omega
  have eg:V≠H:=by omega
  have _:=a4.lt
  have cI:R≠I:=by omega
  have eh:V≠I:=by omega
  have _:=aJ.lt
  have cJ:R≠D:=by omega
  have ei:V≠D:=by omega
  have ej:=((((((((ap.le (e.trans (d.trans zt))).cb y (ap.rn (by omega))).cb m (ap.rn (by omega))).le (t.trans (L.trans af))).cb ah (ap.rn (by omega))).cb ai (ap.rn (by omega))).cb aj (ap.rn (by omega))).le (ar.trans aC))
  have gU:=((((((((a3.le (e.trans (d.trans zt))).cn y cH).cn m eg).le (t.trans (L.trans af))).cn ah cH).cn ai eg).cn aj cH).le (ar.trans aC)).ji bc (show¬F3 H from(fun hF=>by have:=bb.old hF;omega))
  have gV:=((((((((a4.le (e.trans (d.trans zt))).cn y cI).cn m eh).le (t.trans (L.trans af))).cn ah cI).cn ai eh).cn aj cI).le (ar.trans aC)).ji bc (show¬F3 I from(fun hF=>by have:=bb.old hF;omega))
  have gW:=((((((((aJ.le (e.trans (d.trans zt))).cn y cJ).cn m ei).le (t.trans (L.trans af))).cn ah cJ).cn ai ei).cn aj cJ).le (ar.trans aC)).ji bc (show¬F3 D from(fun hF=>by have:=bb.old hF;omega))
  have gX:=gN.O7 bc bb (by decide) (by decide) (by decide) (by decide)
  have gY:=ej.ji bc (show∀g,rowOf bG bH=some g->¬F3 g from(bb.xX ej (by decide) (by decide)))
  have gZ:=ee.O7 bc bb (by decide) (by decide) (by decide) (by decide)
  have g0:=kW.app gX (kW.one (⟨((iA s.cs).getD k ag).am,(some ⟨bx,0,none⟩),3,3,6,⟨((iA s.cs).getD k ag).fr,((iA s.cs).getD k ag).id,((iA s.cs).getD k ag).am,((iA s.cs).getD k ag).pt,((iA s.cs).getD k ag).ex⟩,([⟨[xW (ch.b (1-own) 4) per],0,0,0⟩,⟨[qI (ch.b own 3) per],0,(5+(((1-own):Nat):Int)),((iA s.cs).getD k ag).pt⟩,⟨[qI (ch.b (1-own) 3) per],((iA s.cs).getD k ag).ex,0,0⟩]),[(⟨(some ⟨ba,0,none⟩),1,1,0,0,0⟩:qZ),{{(⟨none,0,0,0,0,((iA s.cs).getD k ag).pt⟩:qZ)with kA:=(some ⟨aW,0,none⟩),kN:=1,kC:=1}with dl:=(5+(((1-own):Nat):Int))},{(⟨none,0,0,((iA s.cs).getD k ag).ex,0,0⟩:qZ)with kA:=(some ⟨a9,0,none⟩),kN:=1,kC:=1}]⟩:vP) (gZ.mono (by omega)) Z)
  refine W.nil (Lp 1 Z Z ?_)
  refine E.again (k+1,gR,(j++[(⟨((iA s.cs).getD k ag).am,(some ⟨bx,0,none⟩),3,3,6,⟨((iA s.cs).getD k ag).fr,((iA s.cs).getD k ag).id,((iA s.cs).getD k ag).am,((iA s.cs).getD k ag).pt,((iA s.cs).getD k ag).ex⟩,([⟨[xW (ch.b (1-own) 4) per],0,0,0⟩,⟨[qI (ch.b own 3) per],0,(5+(((1-own):Nat):Int)),((iA s.cs).getD k ag).pt⟩,⟨[qI (ch.b (1-own) 3) per],((iA s.cs).getD k ag).ex,0,0⟩]),[(⟨(some ⟨ba,0,none⟩),1,1,0,0,0⟩:qZ),{{(⟨none,0,0,0,0,((iA s.cs).getD k ag).pt⟩:qZ)with kA:=(some ⟨aW,0,none⟩),kN:=1,kC:=1}with dl:=(5+(((1-own):Nat):Int))},{(⟨none,0,0,((iA s.cs).getD k ag).ex,0,0⟩:qZ)with kA:=(some ⟨a9,0,none⟩),kN:=1,kC:=1}]⟩:vP)])) (.of Z) ?_ ?_
  ·exact⟨by omega,by rw[xU (z:=ag) (by omega),List.map_append,List.map_append,bI,List.append_assoc];congr 2;unfold YN;simp only[List.map_cons,List.map_nil];rw[if_neg c5];rfl,gT,by have:=dV;have:=aC.size;have:=bc.size;omega,gU,gV,gW,gS,gY,g0⟩
  first|omega|(simp only[];omega)
 refine Cn Z (dF c4) (Ex (Sr ?_))
 obtain⟨Aq,cq,bq,oq,hFq,hgq⟩:=ao
 have hyA:j.map gh=Ma ch s own per:=by rw[bI,List.take_of_length_le (by omega)];rfl
 have h4:j.length<20:=by rw[<-List.length_map (f:=gh),hyA];have:=abu ch s own per;omega
 refine Yk (.slice Aq j.length cq) Z bq Z (Yd Z (YH aA oq (by omega)) ?_)
 rintro _ cK ⟨rfl,cL,aL⟩
 have ek:=dU.ja aL (fun q hq=>Nat.le_trans aS.size (oq.row hq).1)
 refine Nx (Rr 1 Z (Yb (O6 jh) Z (a3.ch aL (oq.rl (by omega))) Z (Wa (.iF (Qp iP) agq z198 Z Z) Z (W.ef Z Z Z (Ef.iw (len:=1) [_] underlying110 WM Z (by simp[Value.cells,vN.len]) Z (by decide) (by decide) ?_)))))
 intro aM el g1 cM aD
 have cN:=ek.trans aD
 have cM:ik el aM 198 (([iP]).map Qp).flatten.toArray:=cM
 have cO:iy el cK.heap.size 198 Qp 36 (some ⟨aM,0,none⟩) 1 1 ([iP]):=cM.j4 g1 vN Z Z (by decide)
 refine Yn 1 Z (Yk (J s.no) Z ((a4.ch aL (oq.rl (by omega))).le aD) Z (Yp Z (Yn 1 Z (Yp Z (Wa (.iF [.slice (some ⟨aM,0,none⟩) 1 1,.slice none 0 0,J ((2*s.no)+(own:Int))] agj ahT Z Z) Z (Wa (.iF [.slice (some ⟨aM,0,none⟩) 1 1,.slice none 0 0,J ((2*s.no)+(own:Int)),.slice none 0 0] agk z116 Z Z) Z (W.ab Z z116 H8 (wN Z) ?_)))))))
 intro bz aN em aX aY
 have bP:=cN.trans aY
 have aX:ik aN bz 116 #[.slice (some ⟨aM,0,none⟩) 1 1,.slice none 0 0,J ((2*s.no)+(own:Int)),.slice none 0 0]:=aX
 refine Nx (Sq (Sr (Yk (.slice Aq j.length cq) Z ((bq.ch aL (iy.kV oq bq (by decide))).le (aD.trans aY)) Z (Yx 2 Z (Bk ?_)))))
 have bQ:=((aJ.ch aL (oq.rl (by omega))).le (aD.trans aY))
 have cP:=(cO.le aY)
 have cQ:=(cL.le (aD.trans aY))
 refine WC.loop (ι:=Nat×(Option Addr)×Nat×(Option Addr)×Nat) (fun⟨q,Ao,co,Ar,cr⟩=>[(8,.pointer (some ⟨D,0,none⟩)),(24,.pointer (some ⟨bz,0,none⟩)),(200,.slice Aq j.length cq),(201,J (j.length:Int)),(202,J (q:Int))]) (fun⟨q,Ao,co,Ar,cr⟩ ak=>(q<=j.length)/\Le w ak/\aN.heap.size<=ak.heap.size/\ik ak D 116 #[.slice none 0 0,.slice none 0 0,J 0,.slice none 0 0]/\ik ak bz 116 #[.slice (some ⟨aM,0,none⟩) 1 1,.slice Ao q co,J ((2*s.no)+(own:Int)),.slice Ar q cr]/\iy ak cK.heap.size 198 Qp 36 (some ⟨aM,0,none⟩) 1 1 ([iP])/\iy ak aN.heap.size 177 OE 2 Ao q co ((kK Ec jS 0 j.length j).take q)/\iy ak aN.heap.size 175 rlV 6 Ar q cr ((kK Ec jS 0 j.length j).take q)/\iy ak K.heap.size 180 Fp 40 Aq j.length cq (kK Ec jS 0 j.length j)/\kW ak K.heap.size j ()) (fun⟨q,Ao,co,Ar,cr⟩=>j.length-q) (0,none,0,none,0) ?_ ?_ ?_
 ·exact .of Z
 ·exact⟨Nat.zero_le _,bP,Nat.le_refl _,bQ,aX,cP,(iy.nil aN aN.heap.size 177 OE 2 none),(iy.nil aN aN.heap.size 175 rlV 6 none),cQ,((aw.chO aL oq (by decide) (by decide)).le (aD.trans aY))⟩
 rintro⟨q,Ao,co,Ar,cr⟩ ak ⟨hq,en,g2,cR,cS,cT,bA,bE,eo,ep⟩
 have _:=aD.size
 have _:=aY.size
 have h5:cK.heap.size<=ak.heap.size:=by omega
 have h6:aN.heap.size<=ak.heap.size:=by omega
 have er:aN.heap.size<=ak.heap.size:=by omega
 have _:=aL.size
 have h7:K.heap.size<=ak.heap.size:=Nat.le_trans aK (by omega)
 have h9:K.heap.size<=ak.heap.size:=Nat.le_trans aK (by omega)
 have hyl:=Qv (lt:=Ec) jS 0 j.length j
 refine Rn 1 Z (Sq ?_)
 by_cases c6:(q:Int)<(j.length:Int)
 ·refine Cy Z (dT c6) (Nb (Sr (Ys q Z (oq.vec.isSome mW (by omega)) (Wr (.lX NQ Z eo.vec mW (jN (kK Ec jS 0 j.length j) jS (by first|omega|(simp only[List.length_cons,List.length_nil];omega)))) Z (W.ab Z afP RD (mW.one ((kK Ec jS 0 j.length j).getD q jS)) fun g3 es ia (et:ik es g3 180 (Fp ((kK Ec jS 0 j.length j).getD q jS)).toArray) aE=>Nx (Rr 2 Z ?_))))))
  have eu:=(cS.le aE)
  refine Yk (.slice Ao q co) Z eu Z (Yn 1 Z (Yb (OE ((kK Ec jS 0 j.length j).getD q jS)) Z et Z (W.ef Z Z Z (Ef.iw (len:=1) [_] underlying111 Rz Z (by simp[Value.cells,IM.len]) Z (by decide) (by decide) ?_))))
  intro ew ey g4 bR az
  have bR:ik ey ew 177 (([((kK Ec jS 0 j.length j).getD q jS)]).map OE).flatten.toArray:=bR
  have ib:iy ey es.heap.size 177 OE 2 (some ⟨ew,0,none⟩) 1 1 ([((kK Ec jS 0 j.length j).getD q jS)]):=bR.j4 g4 IM Z Z (by decide)
  have bp:=(bA.le (aE.trans az))
  have _:=aE.size
  have _:=az.size
  refine W.ef Z Z Z (Ef.vJ (a:=((kK Ec jS 0 j.length j).getD q jS)) underlying111 Rz underlying111 IM Z bp Z bR (by omega) (by unfold maxLen;omega) (by have:=er;omega) ?_)
  intro cU cV ic cW aO g5
  refine Yn 2 Z ?_
  have _:=aX.lt
  have ez:=((eu.le az).ch aO (bp.rl (by omega)))
  refine W.jR Z Z (Ef.store ack Z Z ez (by first|decide|(simp;done)) Z ?_)
  intro eA bS aP
  have bS:ik eA bz 116 #[.slice (some ⟨aM,0,none⟩) 1 1,.slice cU (q+1) cV,J ((2*s.no)+(own:Int)),.slice Ar q cr]:=bS
  refine Nx (Rg (Yn 1 Z (Yk (.slice Ar q cr) Z bS Z (Yn 1 Z (Yb (rlV ((kK Ec jS 0 j.length j).getD q jS)) Z (((et.le az).ch aO (bA.rn (by omega))).cn aP (by have:=cS.lt;omega)) Z (W.ef Z Z Z (Ef.iw (len:=1) [_] underlying114 Rx Z (by simp[Value.cells,Mc.len]) Z (by decide) (by decide) ?_)))))))
  intro eB eC g6 bT aQ
  have bT:ik eC eB 175 (([((kK Ec jS 0 j.length j).getD q jS)]).map rlV).flatten.toArray:=bT
  have ie:iy eC eA.heap.size 175 rlV 6 (some ⟨eB,0,none⟩) 1 1 ([((kK Ec jS 0 j.length j).getD q jS)]):=bT.j4 g6 Mc Z Z (by decide)
  have bs:=((((bE.le (aE.trans az)).ch aO (bA.u7 bE (by decide))).cb aP (bE.rl (by omega))).le aQ)
  have _:=aP.size
  have _:=aQ.size
  refine W.ef Z Z Z (Ef.vJ (a:=((kK Ec jS 0 j.length j).getD q jS)) underlying114 Rx underlying114 Mc Z bs Z bT (by omega) (by unfold maxLen;omega) (by have:=er;have:=aO.size;omega) ?_)
  intro eD eE ig eF bd ii
  refine Yn 1 Z ?_
  have eG:=((bS.le aQ).ch bd (bs.rl (by omega)))
  refine W.jR Z Z (Ef.store aco Z Z eG (by first|decide|(simp;done)) Z ?_)
  intro g7 cX be
  have cX:ik g7 bz 116 #[.slice (some ⟨aM,0,none⟩) 1 1,.slice cU (q+1) cV,J ((2*s.no)+(own:Int)),.slice eD (q+1) eE]:=cX
  refine W.nil (Lp 1 Z Z ?_)
  have eH:bz≠D:=by have:=aJ.lt;omega
  have _:=bQ.lt
  have g8:=((((((cR.le (aE.trans az)).ch aO (bp.rl (by omega))).cn aP eH).le aQ).ch bd (bs.rl (by omega))).cn be eH)
  have g9:=((((((cT.le (aE.trans az)).ch aO (Apart.symm (fun q h1 S=>by have:=(cP.row h1).2;have:=(bp.row S).1;omega))).cb aP (cO.rn (by omega))).le aQ).ch bd (Apart.symm (fun q h1 S=>by have:=(cP.row h1).2;have:=(bs.row S).1;omega))).cb be (cO.rn (by omega)))
  have hc:=((((cW.cb aP (cW.rl (by omega))).le aQ).ch bd (Apart.symm (Apart.step (bA.u7 bE (by decide)) g5 (fun q hq=>by have:=(bE.row hq).2;omega)))).cb be (cW.rl (by omega)))
  have hd:=(eF.cb be (eF.rl (by omega)))
  have he:=((((((eo.le (aE.trans az)).ch aO (Apart.symm (fun q h1 S=>by have:=(cQ.row h1).2;have:=(bp.row S).1;omega))).cb aP (cL.rn (by omega))).le aQ).ch bd (Apart.symm (fun q h1 S=>by have:=(cQ.row h1).2;have:=(bs.row S).1;omega))).cb be (cL.rn (by omega)))
  have hf:=((((((ep.le (aE.trans az)).chO aO bp (by decide) (by decide)).AP aP ez (by decide) (by decide)).le aQ).chO bd bs (by decide) (by decide)).AP be eG (by decide) (by decide))
  refine E.again (q+1,cU,cV,eD,eE) (.of Z) ?_ ?_
  ·exact⟨by omega,(((((((en.trans aE).trans az).ja aO (fun q hq=>Nat.le_trans bP.size (bp.row hq).1)).tb aP cN em).trans aQ).ja bd (fun q hq=>Nat.le_trans bP.size (bs.row hq).1)).tb be cN em),by have:=g2;have:=aE.size;have:=az.size;have:=aO.size;have:=bd.size;have:=be.size;omega,g8,cX,g9,(hc.cast Z (xU (z:=jS) (by omega)).symm),(hd.cast Z (xU (z:=jS) (by omega)).symm),he,hf⟩
  first|omega|(simp only[];omega)
 refine Cn Z (dF c6) (Ex (Sr (Yh Z cS (Yw Z cR (wN Z) ?_))))
 intro hh cY bU
 have cY:ik hh D 116 #[.slice (some ⟨aM,0,none⟩) 1 1,.slice Ao q co,J ((2*s.no)+(own:Int)),.slice Ar q cr]:=cY
 refine Yx 1 Z (Rt ?_)
 have hj:=(ep.AP bU cR (by decide) (by decide))
 refine E.lD Z (lV Z cY afF (by rfl)) Z ?_
 have hqe:(kK Ec jS 0 j.length j).take q=(kK Ec jS 0 j.length j):=List.take_of_length_le (by omega)
 have hqn:q=j.length:=by omega
 have hmf:=abv (ys:=(kK Ec jS 0 j.length j)) (fun x hx=>(hj.mono aS.size) x (IL (Nat.le_refl _) x hx)) (fun x hx=>abw hyA (IL (Nat.le_refl _) x hx))
 refine⟨_,_,_,_,_,_,_,rfl,((cT.cb bU (cT.rl (by have:=aJ.lt;omega))).mono ek.size),⟨_,ad3 (hqe▸((bA.cb bU (bA.rl (by have:=bQ.lt;omega))).mono bP.size)),?_⟩,(en.tb bU L2 eN)⟩
 unfold qC
 rw[<-hyA,List.length_map,<-Qu gh agJ,List.map_map]
 exact hmf
end Go.Proofs.YtkpmaajniagncaaGreatDoor
