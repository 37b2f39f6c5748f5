/- SplitTells: for every input the law answers true and leaves its arguments as they were. -/
import Derived.Test.YtkaedikifgpkeaaGreatDoorSplitTellsQ
import Derived.Shelf.Strconv.Itoa3
import Derived.Lib.ItoaLen
import Derived.Lib.AppendIntMem
set_option linter.unusedVariables false
set_option linter.unusedSimpArgs false
set_option maxRecDepth 20000
namespace Go.Proofs
open Go.Shelf
def Tryz.Gt:Go.Shelf.Ren:=⟨fun|171=>123|243=>183|246=>211|283=>219|284=>220|285=>221|286=>222|129=>227|317=>226|318=>228|319=>229|320=>230|337=>231|338=>232|n=>n,fun|3=>3|9=>9|2=>2|4=>4|171=>242|0=>0|53=>24|37=>97|5=>5|173=>245|212=>252|51=>143|20=>20|213=>253|46=>154|232=>26|233=>256|n=>n,fun|17=>2|18=>4|19=>5|n=>n⟩
theorem Tryz.RP:Go.Proofs.LaysM.n171 prog Tryz.Gt:={
  mixed:=by kernel_rfl
  f129:=func227.trans (congrArg some (by kernel_rfl))
  f171:=func123.trans (congrArg some (by kernel_rfl))
  f243:=func183.trans (congrArg some (by kernel_rfl))
  f246:=func211.trans (congrArg some (by kernel_rfl))
  f283:=func219.trans (congrArg some (by kernel_rfl))
  f284:=func220.trans (congrArg some (by kernel_rfl))
  f285:=func221.trans (congrArg some (by kernel_rfl))
  f286:=func222.trans (congrArg some (by kernel_rfl))
  f317:=func226.trans (congrArg some (by kernel_rfl))
  f318:=func228.trans (congrArg some (by kernel_rfl))
  f319:=func229.trans (congrArg some (by kernel_rfl))
  f320:=func230.trans (congrArg some (by kernel_rfl))
  f337:=func231.trans (congrArg some (by kernel_rfl))
  f338:=func232.trans (congrArg some (by kernel_rfl))
  t0:=underlying0
  a0:=Tryz.isAgg0
  z0:=Tryz.sizeOf0
  v0:=Tryz.zeroValue0
  t2:=underlying2
  a2:=Tryz.isAgg2
  z2:=Tryz.sizeOf2
  v2:=Tryz.zeroValue2
  t3:=underlying3
  a3:=Tryz.isAgg3
  z3:=Tryz.sizeOf3
  v3:=Tryz.zeroValue3
  t4:=underlying4
  a4:=Tryz.isAgg4
  z4:=Tryz.sizeOf4
  v4:=Tryz.zeroValue4
  t5:=underlying5
  a5:=Tryz.isAgg5
  z5:=Tryz.sizeOf5
  v5:=Tryz.zeroValue5
  t9:=underlying9
  a9:=Tryz.isAgg9
  z9:=Tryz.sizeOf9
  v9:=Tryz.zeroValue9
  t20:=underlying20
  a20:=Tryz.isAgg20
  z20:=Tryz.sizeOf20
  v20:=Tryz.zeroValue20
  t37:=underlying97
  a37:=Tryz.isAgg97
  z37:=Tryz.sizeOf97
  v37:=Tryz.zeroValue97
  t46:=underlying154
  a46:=Tryz.isAgg154
  z46:=Tryz.sizeOf154
  v46:=Tryz.zeroValue154
  t51:=underlying143
  a51:=Tryz.isAgg143
  z51:=Tryz.sizeOf143
  v51:=Tryz.zeroValue143
  t53:=underlying24
  a53:=Tryz.isAgg24
  z53:=Tryz.sizeOf24
  v53:=Tryz.zeroValue24
  t171:=underlying242
  a171:=Tryz.isAgg242
  z171:=Tryz.sizeOf242
  v171:=Tryz.zeroValue242
  t173:=underlying245
  a173:=Tryz.isAgg245
  z173:=Tryz.sizeOf245
  v173:=Tryz.zeroValue245
  t212:=underlying252
  a212:=Tryz.isAgg252
  z212:=Tryz.sizeOf252
  v212:=Tryz.zeroValue252
  t213:=underlying253
  a213:=Tryz.isAgg253
  z213:=Tryz.sizeOf253
  t232:=underlying26
  a232:=Tryz.isAgg26
  z232:=Tryz.sizeOf26
  v232:=Tryz.zeroValue26
  t233:=underlying256
  a233:=Tryz.isAgg256
  z233:=Tryz.sizeOf256
  v233:=Tryz.zeroValue256
  g17:=by kernel_rfl
  g18:=by kernel_rfl
  g19:=by kernel_rfl
  i0:=by kernel_rfl
  i2:=by kernel_rfl
  i3:=by kernel_rfl
  i4:=by kernel_rfl
  i5:=by kernel_rfl
  i9:=by kernel_rfl
  i20:=by kernel_rfl
  i37:=by kernel_rfl
  i46:=by kernel_rfl
  i51:=by kernel_rfl
  i53:=by kernel_rfl
  i171:=by kernel_rfl
  i173:=by kernel_rfl
  i212:=by kernel_rfl
  i232:=by kernel_rfl
  i233:=by kernel_rfl
  m17:=by kernel_rfl
  m18:=by kernel_rfl
  m19:=by kernel_rfl}
end Go.Proofs
namespace Go.Proofs.YtkaedikifgpkeaaGreatDoor
open Tryz
open Go Go.Sx Go.oF
def Sa (w:World):Prop:=Lib.TabIs prog w "internal/strconv.uint64pow10" .u64 Lib.pow10Tab
theorem Sa.le {w w':World}(h:Sa w)(hl:Le w w'):Sa w':=Lib.tabBelow_of_tabIs h w' hl
theorem xZ {p:Nat}(h:p<1000000000):(Lib.itoa ((p:Nat):Int)).length<=21:=Lib.itoa_length_le _ (by omega) (by omega)
theorem UM (p:Nat)(w:World)(hT:Sa w)(h0:0<=p)(h1:p<1000000000):Calls prog 123 #[.int .i64 ((p:Nat):Int)] w fun r w'=>r= .returned (.string ⟨(Lib.itoa ((p:Nat):Int)).toArray⟩)/\Le w w':=
  (Any.strconv_Itoa Tryz.RP ((p:Nat):Int) (by omega) (by omega) w hT).mono (by
    rintro _ w' ⟨rfl,k,os,rfl⟩
    exact⟨rfl,Lib.below_grow _ w (Nat.le_refl _) k os⟩)
def x9 (p q:Nat):List UInt8:=if q=1 then Lib.itoa ((p:Nat):Int)else Lib.itoa ((p:Nat):Int)++([47]:List UInt8)++Lib.itoa ((q:Nat):Int)
theorem OB:eP 1000000000=[1000000000]:=by rw[jP (by decide),show 1000000000/B=0 from rfl,eT];rfl
theorem Dl {A:Option Addr}{n c p:Nat}(w:World)(hT:Sa w)(hV:Vec w dv 1 A n (eP p))(hn:n<=10000)(hp1:p<1000000000):Calls prog 59 #[.slice A n c] w fun r w'=>r= .returned (.string ⟨(Lib.itoa ((p:Nat):Int)).toArray⟩)/\Le w w':=by
 have hl:=hV.1
 refine enter func59 rfl rfl ?_
 have h:=Le.refl w
 refine Sr (Wn 1 rfl (Nx (Sr (Wn 1 rfl (W.cl sV rfl rfl (kr w (hV.le h) (by omega)) ?_)))))
 rintro _ m ⟨rfl,o⟩
 refine Wn 1 rfl (Nx (Sr (Wn 1 rfl (Nx (WC.block (WC.loop (ι:=Nat) (fun k=>[(0,.slice A n c),(3,.string ⟨([]:List UInt8).toArray⟩)]) (fun k d=>Le w d/\m.heap.size<=d.heap.size) (fun k=>k) 0 ?_ ?_ ?_))))))
 ·exact .of rfl
 ·exact⟨(h.trans o),Nat.le_refl _⟩
 rintro k d ⟨s,J⟩
 refine WC.block (Sr (Wn 1 rfl (W.ef rfl rfl rfl (Ef.gq (len:=1) [_] underlying35 jH rfl (by simp[Value.cells]) rfl (by decide) (by decide) ?_))))
 intro i e t f u
 have j:=s.trans u
 have f:fA e i 143 (([1000000000]).map dv).flatten.toArray:=f
 have x:eU e d.heap.size 143 dv 1 (some ⟨i,0,none⟩) 1 1 ([1000000000]):=f.kL t fF rfl rfl (by decide)
 have y:=x.cast (m':=1) (ys:=(eP 1000000000)) rfl OB.symm
 refine W.cl Qb rfl rfl (wD e (hV.le j) y.vec (by omega) (by omega) (by omega)) ?_
 rintro _ z ⟨K,L,N,O,rfl,P,C,D⟩
 refine Wn 7 rfl (Nx (Sr (Wn 1 rfl (W.cl YP rfl rfl (Um z C.vec (by omega)) ?_))))
 rintro _ F ⟨rfl,H⟩
 have l:=(j.trans D).trans H
 refine Wn 5 rfl (Nx (Sr (Wn 1 rfl (W.cl YQ rfl rfl (UM (p%1000000000) F (hT.le l) (by omega) (by omega)) ?_))))
 rintro _ Q ⟨rfl,I⟩
 refine Wn 1 rfl (Nx (Sq (Sr (Wn 1 rfl (Wr (.len underlying35 rfl) rfl (Wn 1 rfl (Nx (Cy rfl (dT (by rw[Nat.div_eq_of_lt hp1,eT];rfl)) ?_))))))))
 refine Sr (Wn 2 rfl (Wa (.Ka (a:=Lib.itoa (((p%1000000000):Nat):Int)) (b:=([]:List UInt8)) rfl rfl (Nat.le_trans (xZ (by omega)) (by decide)) (by decide)) rfl (Wn 1 rfl (Nx (Rt (E.eX (E.gT (E.eX (E.gT (E.fu rfl rfl ?_))))))))))
 exact⟨congrArg (fun v=>Ending.returned (Value.string ⟨List.toArray v⟩)) (by simp[show p%1000000000=p from Nat.mod_eq_of_lt hp1]),(l.trans I)⟩

theorem JD {An Ad:Option Addr}{nn cn nd cd p q:Nat}(w:World)(hT:Sa w)(hn:Vec w dv 1 An nn (eP p))(hd:Vec w dv 1 Ad nd (eP q))(bn:nn<=10000)(bd:nd<=10000)(hok:okB p q=true)(hp1:p<1000000000)(hq1:q<1000000000):Calls prog 23 #[.agg #[.slice An nn cn,.slice Ad nd cd]] w fun r w'=>r= .returned (.string ⟨(x9 p q).toArray⟩)/\Le w w':=by
 have hln:=hn.1;have hld:=hd.1
 have T:=gJ (d:=1) (by decide)
 refine enter func23 rfl rfl ?_
 have n:=Le.refl w
 refine Sr (W.ef rfl rfl rfl (Ef.iM rfl fun o s H (t:fA s o 37 #[.slice An nn cn,.slice Ad nd cd]) I=>?_))
 have i:=n.trans I
 refine Wn 1 rfl (Nx (Sr (Wr (.fB gQ (by rfl) rfl t) rfl ?_)))
 refine W.cl PZ rfl rfl (Cm s (hn.le i) (hd.le i) (by omega) (by omega) hok) ?_
 rintro _ U ⟨rfl,u⟩
 refine W.sA gV rfl rfl (t.le u) ?_
 intro J j K
 have j:fA J o 37 #[.slice An nn cn,.slice Ad nd cd]:=j
 refine Nx (Sq (Sq (WC.draw [0,1,2,3,4] mixed (by kernel_rfl) fun L x=>(Ga rfl (.eZ kN rfl) ?_))))
 have k:=(j.le x)
 refine Gd rfl (.fe (v:= .slice Ad nd cd) jl rfl k rfl) (G.ef rfl rfl rfl rfl rfl (Ef.call WJ rfl rfl (F8 L) ?_))
 rintro _ N ⟨V,X,rfl,O,c⟩
 refine⟨_,rfl,?_⟩
 refine⟨fun _=>c,?_⟩
 have y:=(((i.trans u).tb K n H).trans x).trans c
 refine G.ef rfl rfl rfl rfl rfl (Ef.call NF rfl rfl (uX N (hd.le y) O.vec (by omega) (by omega)) ?_)
 rintro _ P ⟨rfl,e⟩
 refine⟨_,rfl,?_⟩
 refine⟨fun _=>e,?_⟩
 have f:=y.trans e
 refine Gn 1 rfl (G.nil (E.eY ?_))
 by_cases z:(lH q 1)=0
 ·refine Cy rfl (dT z) (Sr (Wa (.eZ lW rfl) rfl (Wr (.fe (v:= .slice An nn cn) jl rfl (k.le (c.trans e)) rfl) rfl (W.cl WK rfl rfl (Dl P (hT.le f) (hn.le f) (by omega) (by omega)) ?_))))
  rintro _ Y ⟨rfl,Q⟩
  refine Wn 1 rfl (Nx (Rt (E.eX (E.fu rfl rfl ?_))))
  exact⟨congrArg (fun v=>Ending.returned (Value.string ⟨List.toArray v⟩)) (by unfold x9;first|rw[if_pos (qN.1 (by assumption))]|rw[if_neg (fun h=>absurd (qN.2 h) (by assumption))]),(f.trans Q)⟩
 refine Cn rfl (dF z) (Sn (Sq (WC.draw [0,1,4,5,2,3,6,7,8] mixed (by kernel_rfl) fun R A=>?_)))
 have l:=f.trans A
 refine Ga rfl (.eZ lW rfl) ?_
 have C:=(k.le (c.trans (e.trans A)))
 refine Gd rfl (.fe (v:= .slice An nn cn) jl rfl C rfl) (Ga rfl (.eZ kN rfl) (Gd rfl (.fe (v:= .slice Ad nd cd) jl rfl C rfl) (G.ef rfl rfl rfl rfl rfl (Ef.call WK rfl rfl (Dl R (hT.le l) (hn.le l) (by omega) (by omega)) ?_))))
 rintro _ S ⟨rfl,D⟩
 refine⟨_,rfl,?_⟩
 refine⟨fun _=>D,?_⟩
 have m:=l.trans D
 refine Ga rfl (.Ka (a:=Lib.itoa ((p:Nat):Int)) (b:=([47]:List UInt8)) rfl rfl (Nat.le_trans (xZ (by omega)) (by decide)) (by decide)) (G.ef rfl rfl rfl rfl rfl (Ef.call WK rfl rfl (Dl S (hT.le m) (hd.le m) (by omega) (by omega)) ?_))
 rintro _ Z ⟨rfl,F⟩
 refine⟨_,rfl,?_⟩
 refine⟨fun _=>F,?_⟩
 refine Ga rfl (.Ka (a:=(Lib.itoa ((p:Nat):Int))++([47]:List UInt8)) (b:=Lib.itoa ((q:Nat):Int)) rfl rfl (by have:=xZ (p:=p) (by omega);simp only[List.length_append,List.length_cons,List.length_nil];omega) (Nat.le_trans (xZ (by omega)) (by decide))) ?_
 refine Gn 1 rfl (G.nil (E.eY (Rt (E.fu rfl rfl ?_))))
 exact⟨congrArg (fun v=>Ending.returned (Value.string ⟨List.toArray v⟩)) (by unfold x9;first|rw[if_pos (qN.1 (by assumption))]|rw[if_neg (fun h=>absurd (qN.2 h) (by assumption))]),(m.trans F)⟩
end Go.Proofs.YtkaedikifgpkeaaGreatDoor

namespace Go.Proofs.YtkaedikifgpkeaaGreatDoor
open Tryz
open Go Go.Sx Go.wK Go.Num Go.wM Go.fO Go.oF Go.uI Go.tH
set_option maxRecDepth 20000
def sE (c f t r m:Int):fO.Edge:=⟨f,t,c,r,⟨0,0,5,1,m⟩⟩
def sG:List fO.Edge:=[sE 0 0 1 99 60,sE 1 0 1 49 49]
def ZN:MF:=fun _=>none
structure Sm1 (b:List tK×Fr×Int):Prop where
  len:b.1.length=2
  vX:(b.1.getD 0 jr).vX=40
  w0:(b.1.getD 0 jr).way=[sE 0 0 1 99 60]
  w1:(b.1.getD 1 jr).way=[sE 0 0 1 99 60]
  on:b.2.1.n=1
  od:b.2.1.d=5
  e:b.2.2=0
  t:wJ b.1=80
  ok:b.1.length<=8/\∀p∈b.1,∀s∈p.sent,0<=s/\s<=1125899906842624
theorem sp1:Sm1 (gK sG ZN 0 1 80 50 2):=⟨by decide+kernel,by decide+kernel,by decide+kernel,by decide+kernel,by decide+kernel,by decide+kernel,by decide+kernel,by decide+kernel,by decide+kernel⟩
theorem sp2:(gK sG ZN 0 1 80 50 1).2.2=19:=by decide+kernel
theorem sp3:(gK sG ZN 0 1 80 50 0).2.2=1:=by decide+kernel
theorem sp4:(gK sG ZN 0 0 80 50 2).2.2=1:=by decide+kernel
structure Sm5 (b:List tK×Fr×Int):Prop where
  len:b.1.length=1
  w0:(b.1.getD 0 jr).way=[sE 0 0 1 99 60]
  on:b.2.1.n=7
  od:b.2.1.d=10
  e:b.2.2=0
theorem sp5:Sm5 (jk sG ZN 0 1 30 50 1):=⟨by decide+kernel,by decide+kernel,by decide+kernel,by decide+kernel,by decide+kernel⟩
theorem abz:x9 1 5=[49,47,53]:=by simp[x9,Lib.itoa,Lib.decDigits]
theorem abA:x9 7 10=[55,47,49,48]:=by simp[x9,Lib.itoa,Lib.decDigits]
theorem K7 (s:Nat)(seed:List Byte):lQ s seed []=[]:=by
  unfold lQ
  split<;>rfl
set_option maxHeartbeats 4000000 in
theorem K8 (w:World) (hT:Sa w):Calls prog 4 #[] w fun r w'=>r= .returned (.bool true)/\Le w w':=by
 have cC:=gJ (d:=1) (by decide);have cD:=gJ (d:=5) (by decide);have cE:=gJ (d:=7) (by decide);have cF:=gJ (d:=10) (by decide)
 refine enter func4 rfl rfl (Sr (Wn 1 rfl (Nx (Sr (W.cl Yi rfl rfl (EW 0 0 1 99 60 w) ?_)))))
 rintro _ bo ⟨rfl,bp⟩
 refine W.cl Yi rfl rfl (EW 1 0 1 49 49 bo) ?_
 rintro _ bq ⟨rfl,bs⟩
 refine W.ef rfl rfl rfl (Ef.gq (len:=2) [_,_] underlying22 zw rfl (by simp[Value.cells,eQ.len]) rfl (by decide) (by decide) ?_)
 intro aH ap bt aq bu
 have aq:fA ap aH 66 (([(sE 0 0 1 99 60),(sE 1 0 1 49 49)]).map fD).flatten.toArray:=aq
 have aI:eU ap bq.heap.size 66 fD 9 (some ⟨aH,0,none⟩) 2 2 ([(sE 0 0 1 99 60),(sE 1 0 1 49 49)]):=aq.kL bt eQ rfl rfl (by decide)
 have o4:=aI.cast (m':=2) (ys:=sG) rfl rfl
 refine Wn 1 rfl (Nx (Sr (W.cl Yj rfl rfl (IY ap) ?_)))
 rintro _ bv ⟨cG,cH,rfl,ar,aJ⟩
 refine Wn 1 rfl (Nx (Sq (Sr (Wn 1 rfl (Wa (.dec (.PL (by kernel_rfl) rfl) rfl) rfl (Nx (WC.iD rfl (Sn (Sr (Wn 2 rfl ?_))))))))))
 have f6:=(o4.le aJ)
 obtain⟨C,af⟩:∃z,z=(gK sG (fun _=>none:MF) 0 1 80 50 2):=⟨_,rfl⟩
 have aK:=ou (g:=sG) (m:=(fun _=>none:MF)) (fr:=0) (to:=1) (a:=80) (x:=50) (n:=2) (show ic (fun _=>none)from pU)
 rw[<-af]at aK;unfold kP at aK
 refine W.cl PX rfl rfl (by have k:=rQ (c:=2) 0 1 80 50 2 bv ar f6.vec (by omega) (by decide);rw[<-af]at k;exact k) ?_
 rintro _ cI ⟨bw,aL,y,aM,aO,aP,aQ,rfl,D,aR,V,X,cJ,ad⟩
 have L7:=(((((Le.refl w).trans bp).trans bs).trans bu).trans aJ).trans ad
 have cK:=aR.1
 have F:Sm1 C:=af▸sp1
 have F:Sm1 C:=af▸sp1
 refine Wn 1 rfl (Wa (.extract (v:= .slice bw C.1.length aL) rfl rfl) rfl (Wa (.extract (v:= .agg #[.slice aM ((eP C.2.1.n).length) aO,.slice aP ((eP C.2.1.d).length) aQ]) rfl rfl) rfl (Wa (.extract (v:= .int .i64 C.2.2) rfl rfl) rfl (W.ef rfl rfl rfl (Ef.fI z37 ?_)))))
 intro aS bx aT ah s
 have ah:fA bx aS 37 #[.slice none 0 0,.slice none 0 0]:=ah
 refine Wn 1 rfl (W.sA gV rfl rfl ah ?_)
 intro aU U u
 have U:fA aU aS 37 #[.slice aM ((eP C.2.1.n).length) aO,.slice aP ((eP C.2.1.d).length) aQ]:=U
 refine Wn 1 rfl (Nx (Sr (Wn 2 rfl ?_)))
 have au:=((ar.le (ad.trans s)).ch u (fun q hqq hF=>by cases hqq;have:=ar.lt hF;have:=ad.size;have:=aT;omega))
 have av:=((f6.le (ad.trans s)).cb u (f6.rn (by have:=ad.size;omega)))
 obtain⟨Y,ai⟩:∃z,z=(gK sG (fun _=>none:MF) 0 1 80 50 1):=⟨_,rfl⟩
 have aV:=ou (g:=sG) (m:=(fun _=>none:MF)) (fr:=0) (to:=1) (a:=80) (x:=50) (n:=1) (show ic (fun _=>none)from pU)
 rw[<-ai]at aV;unfold kP at aV
 refine W.cl PX rfl rfl (by have k:=rQ (c:=2) 0 1 80 50 1 aU au av.vec (by omega) (by decide);rw[<-ai]at k;exact k) ?_
 rintro _ cL ⟨bz,bA,cM,bB,bC,bD,bE,rfl,cN,bF,cO,cP,cQ,f⟩
 have aW:=((L7.trans s).tb u L7 aT).trans f
 have cR:=bF.1
 have aX:Y.2.2=19:=ai▸sp2
 have aX:Y.2.2=19:=ai▸sp2
 refine Wn 1 rfl (Wa (.extract (v:= .slice bz Y.1.length bA) rfl rfl) rfl (Wa (.extract (v:= .agg #[.slice bB ((eP Y.2.1.n).length) bC,.slice bD ((eP Y.2.1.d).length) bE]) rfl rfl) rfl (Wa (.extract (v:= .int .i64 Y.2.2) rfl rfl) rfl (W.ef rfl rfl rfl (Ef.fI z37 ?_)))))
 intro bG bH aY aj i
 have aj:fA bH bG 37 #[.slice none 0 0,.slice none 0 0]:=aj
 refine Wn 1 rfl (W.sA gV rfl rfl aj ?_)
 intro bI cS l
 refine Wn 1 rfl (Nx (Sr (Wn 2 rfl ?_)))
 have aw:=((au.le (f.trans i)).ch l (fun q hqq hF=>by cases hqq;have:=au.lt hF;have:=f.size;have:=aY;omega))
 have ax:=((av.le (f.trans i)).cb l (av.rn (by have:=f.size;omega)))
 obtain⟨Z,ak⟩:∃z,z=(gK sG (fun _=>none:MF) 0 1 80 50 0):=⟨_,rfl⟩
 have aZ:=ou (g:=sG) (m:=(fun _=>none:MF)) (fr:=0) (to:=1) (a:=80) (x:=50) (n:=0) (show ic (fun _=>none)from pU)
 rw[<-ak]at aZ;unfold kP at aZ
 refine W.cl PX rfl rfl (by have k:=rQ (c:=2) 0 1 80 50 0 bI aw ax.vec (by omega) (by decide);rw[<-ak]at k;exact k) ?_
 rintro _ cT ⟨bJ,bK,cU,bL,bM,bN,bO,rfl,cV,bP,cW,cX,cY,h⟩
 have a0:=((aW.trans i).tb l aW aY).trans h
 have cZ:=bP.1
 have a1:Z.2.2=1:=ak▸sp3
 have a1:Z.2.2=1:=ak▸sp3
 refine Wn 1 rfl (Wa (.extract (v:= .slice bJ Z.1.length bK) rfl rfl) rfl (Wa (.extract (v:= .agg #[.slice bL ((eP Z.2.1.n).length) bM,.slice bN ((eP Z.2.1.d).length) bO]) rfl rfl) rfl (Wa (.extract (v:= .int .i64 Z.2.2) rfl rfl) rfl (W.ef rfl rfl rfl (Ef.fI z37 ?_)))))
 intro bQ bR a2 al H
 have al:fA bR bQ 37 #[.slice none 0 0,.slice none 0 0]:=al
 refine Wn 1 rfl (W.sA gV rfl rfl al ?_)
 intro bS c0 I
 refine Wn 1 rfl (Nx (Sr (Wn 2 rfl ?_)))
 have ay:=((aw.le (h.trans H)).ch I (fun q hqq hF=>by cases hqq;have:=aw.lt hF;have:=h.size;have:=a2;omega))
 have az:=((ax.le (h.trans H)).cb I (ax.rn (by have:=h.size;omega)))
 obtain⟨b4,am⟩:∃z,z=(gK sG (fun _=>none:MF) 0 0 80 50 2):=⟨_,rfl⟩
 have a3:=ou (g:=sG) (m:=(fun _=>none:MF)) (fr:=0) (to:=0) (a:=80) (x:=50) (n:=2) (show ic (fun _=>none)from pU)
 rw[<-am]at a3;unfold kP at a3
 refine W.cl PX rfl rfl (by have k:=rQ (c:=2) 0 0 80 50 2 bS ay az.vec (by omega) (by decide);rw[<-am]at k;exact k) ?_
 rintro _ c1 ⟨bT,bU,c2,bV,bW,bX,bY,rfl,c3,bZ,c4,c5,c6,A⟩
 have a4:=((a0.trans H).tb I a0 a2).trans A
 have c7:=bZ.1
 have a5:b4.2.2=1:=am▸sp4
 have a5:b4.2.2=1:=am▸sp4
 refine Wn 1 rfl (Wa (.extract (v:= .slice bT b4.1.length bU) rfl rfl) rfl (Wa (.extract (v:= .agg #[.slice bV ((eP b4.2.1.n).length) bW,.slice bX ((eP b4.2.1.d).length) bY]) rfl rfl) rfl (Wa (.extract (v:= .int .i64 b4.2.2) rfl rfl) rfl (W.ef rfl rfl rfl (Ef.fI z37 ?_)))))
 intro b0 b6 a6 an L
 have an:fA b6 b0 37 #[.slice none 0 0,.slice none 0 0]:=an
 refine Wn 1 rfl (W.sA gV rfl rfl an ?_)
 intro b7 c8 N
 refine Wn 1 rfl (Nx (Sr (Wn 2 rfl ?_)))
 have aA:=((ay.le (A.trans L)).ch N (fun q hqq hF=>by cases hqq;have:=ay.lt hF;have:=A.size;have:=a6;omega))
 have aB:=((az.le (A.trans L)).cb N (az.rn (by have:=A.size;omega)))
 obtain⟨K,ao⟩:∃z,z=(jk sG (fun _=>none:MF) 0 1 30 50 1):=⟨_,rfl⟩
 have a7:=uy (g:=sG) (m:=(fun _=>none:MF)) (fr:=0) (to:=1) (a:=30) (x:=50) (n:=1) (show ic (fun _=>none)from pU)
 rw[<-ao]at a7;unfold kP at a7
 refine W.cl go8 rfl rfl (by have k:=Dc (c:=2) 0 1 30 50 1 b7 aA aB.vec (by omega) (by decide);rw[<-ao]at k;exact k) ?_
 rintro _ c9 ⟨b8,b9,S,a8,a9,ba,bb,rfl,aa,bc,bd,be,da,J⟩
 have bf:=((a4.trans L).tb N a4 a6).trans J
 have db:=bc.1
 have Q:Sm5 K:=ao▸sp5
 have Q:Sm5 K:=ao▸sp5
 refine Wn 1 rfl (Wa (.extract (v:= .slice b8 K.1.length b9) rfl rfl) rfl (Wa (.extract (v:= .agg #[.slice a8 ((eP K.2.1.n).length) a9,.slice ba ((eP K.2.1.d).length) bb]) rfl rfl) rfl (Wa (.extract (v:= .int .i64 K.2.2) rfl rfl) rfl (W.ef rfl rfl rfl (Ef.fI z37 ?_)))))
 intro bg ca bh ae O
 have ae:fA ca bg 37 #[.slice none 0 0,.slice none 0 0]:=ae
 refine Wn 1 rfl (W.sA gV rfl rfl ae ?_)
 intro bi aC P
 have aC:fA bi bg 37 #[.slice a8 ((eP K.2.1.n).length) a9,.slice ba ((eP K.2.1.d).length) bb]:=aC
 have bj:=(bf.trans O).tb P bf bh
 refine Wn 1 rfl (Nx (Sq (Sr ?_)))
 have l1:=F.len;have l5:=Q.len
 have aE:=((((((((((aR.le s).qy u ah (by decide) (by decide)).le (f.trans i)).qy l aj (by decide) (by decide)).le (h.trans H)).qy I al (by decide) (by decide)).le (A.trans L)).qy N an (by decide) (by decide)).le (J.trans O)).qy P ae (by decide) (by decide))
 have pa:=aE.2 0 (by omega)
 have paa:=pa.vX;have paw:=pa.way.1;have pas:=pa.sent.1;have pat:=pa.till.1
 have pb:=aE.2 1 (by omega)
 have pba:=pb.vX;have pbw:=pb.way.1;have pbs:=pb.sent.1;have pbt:=pb.till.1
 have cc:=((bc.le O).qy P ae (by decide) (by decide))
 have pc:=cc.2 0 (by omega)
 have pca:=pc.vX;have pcw:=pc.way.1;have pcs:=pc.sent.1;have pct:=pc.till.1
 have dc:(C.1.getD 0 jr).way.length=1:=by rw[F.w0];rfl
 have dd:(C.1.getD 1 jr).way.length=1:=by rw[F.w1];rfl
 have de:(K.1.getD 0 jr).way.length=1:=by rw[Q.w0];rfl
 refine Wn 1 rfl (Wr (.len underlying34 rfl) rfl (Wa (.dec (.neq rfl rfl) (dF (by omega))) rfl (Wn 2 rfl (Wg (Any.rd (.fV 0 underlying34 rE rfl rfl (D.vec.isSome gy (by omega)) rfl (by omega)) _) rfl (Wg (Any.rd (.gH sj (D.vec.isSome gy (by omega)) rfl) _) rfl ?_)))))
 have ab:=((((((((((D.le s).cb u (D.rn (by omega))).le (f.trans i)).cb l (D.rn (by have:=s.size;have:=u.size;have:=f.size;omega))).le (h.trans H)).cb I (D.rn (by have:=s.size;have:=u.size;have:=f.size;have:=i.size;have:=l.size;have:=h.size;omega))).le (A.trans L)).cb N (D.rn (by have:=s.size;have:=u.size;have:=f.size;have:=i.size;have:=l.size;have:=h.size;have:=H.size;have:=I.size;have:=A.size;omega))).le (J.trans O)).cb P (D.rn (by have:=s.size;have:=u.size;have:=f.size;have:=i.size;have:=l.size;have:=h.size;have:=H.size;have:=I.size;have:=A.size;have:=L.size;have:=N.size;have:=J.size;omega)))
 refine Wg (.ik (j:=0) (o:=1) (v:= .slice ((y.getD 0 gu).wA) ((y.getD 0 gu).wN) ((y.getD 0 gu).wC)) ni rfl ab.vec gy (gD y gu (by omega)) rfl) rfl (Wg (.len underlying22 rfl) rfl (Wg (Any.rd (.dec (.neq rfl rfl) (dF (by omega))) _) rfl (Wn 3 rfl (Wg (Any.rd (.fV 1 underlying34 rE rfl rfl (D.vec.isSome gy (by omega)) rfl (by omega)) _) rfl (Wg (Any.rd (.gH sj (D.vec.isSome gy (by omega)) rfl) _) rfl ?_)))))
 refine Wg (.ik (j:=1) (o:=1) (v:= .slice ((y.getD 1 gu).wA) ((y.getD 1 gu).wN) ((y.getD 1 gu).wC)) ni rfl ab.vec gy (gD y gu (by omega)) rfl) rfl (Wg (.len underlying22 rfl) rfl (Wg (Any.rd (.dec (.neq rfl rfl) (dF (by omega))) _) rfl (Wn 3 rfl (Wg (.len underlying34 rfl) rfl (Wg (Any.rd (.dec (.neq rfl rfl) (dF (by omega))) _) rfl ?_)))))
 refine Wn 3 rfl (Wg (Any.rd (.fV 0 underlying34 rE rfl rfl (aa.vec.isSome gy (by omega)) rfl (by omega)) _) rfl (Wg (Any.rd (.gH sj (aa.vec.isSome gy (by omega)) rfl) _) rfl ?_))
 have bk:=((aa.le O).cb P (aa.rn (by omega)))
 refine Wg (.ik (j:=0) (o:=1) (v:= .slice ((S.getD 0 gu).wA) ((S.getD 0 gu).wN) ((S.getD 0 gu).wC)) ni rfl bk.vec gy (gD S gu (by omega)) rfl) rfl (Wg (.len underlying22 rfl) rfl (Wg (Any.rd (.dec (.neq rfl rfl) (dF (by omega))) _) rfl (Wn 1 rfl (Nx (WC.iD rfl (Sn (Sr (Wn 1 rfl (Wa (.fV 0 underlying34 rE rfl rfl (D.vec.isSome gy (by omega)) rfl (by omega)) rfl (Wa (.gH Qk (D.vec.isSome gy (by omega)) rfl) rfl ?_))))))))))
 refine Wr (.ik (j:=0) (o:=0) (v:= .int .i64 ((y.getD 0 gu).vX)) gM rfl ab.vec gy (gD y gu (by omega)) rfl) rfl (Wa (.dec (.eql rfl rfl) (dT (by rw[paa];exact F.vX))) rfl ?_)
 refine Wn 2 rfl (Wg (Any.rd (.fV 0 underlying34 rE rfl rfl (D.vec.isSome gy (by omega)) rfl (by omega)) _) rfl (Wg (Any.rd (.gH sj (D.vec.isSome gy (by omega)) rfl) _) rfl (Wg (.ik (j:=0) (o:=1) (v:= .slice ((y.getD 0 gu).wA) ((y.getD 0 gu).wN) ((y.getD 0 gu).wC)) ni rfl ab.vec gy (gD y gu (by omega)) rfl) rfl (Wg (Any.rd (.fV 0 underlying22 iI rfl rfl (pa.way.vec.isSome eQ (by omega)) rfl (by omega)) _) rfl (Wg (Any.rd (.gH iY (pa.way.vec.isSome eQ (by omega)) rfl) _) rfl ?_)))))
 refine Wg (.ik (j:=0) (o:=2) (v:= .int .i64 ((((C.1.getD 0 jr).way).getD 0 eO).c)) gM rfl pa.way.vec eQ (gD ((C.1.getD 0 jr).way) eO (by first|omega|(simp only[List.length_cons,List.length_nil];omega))) rfl) rfl ?_
 refine Wg (Any.rd (.dec (.eql rfl rfl) (dT (by rw[F.w0];rfl))) _) rfl ?_
 refine Wn 3 rfl (Wg (Any.rd (.fV 1 underlying34 rE rfl rfl (D.vec.isSome gy (by omega)) rfl (by omega)) _) rfl (Wg (Any.rd (.gH sj (D.vec.isSome gy (by omega)) rfl) _) rfl (Wg (.ik (j:=1) (o:=1) (v:= .slice ((y.getD 1 gu).wA) ((y.getD 1 gu).wN) ((y.getD 1 gu).wC)) ni rfl ab.vec gy (gD y gu (by omega)) rfl) rfl (Wg (Any.rd (.fV 0 underlying22 iI rfl rfl (pb.way.vec.isSome eQ (by omega)) rfl (by omega)) _) rfl (Wg (Any.rd (.gH iY (pb.way.vec.isSome eQ (by omega)) rfl) _) rfl ?_)))))
 refine Wg (.ik (j:=0) (o:=2) (v:= .int .i64 ((((C.1.getD 1 jr).way).getD 0 eO).c)) gM rfl pb.way.vec eQ (gD ((C.1.getD 1 jr).way) eO (by first|omega|(simp only[List.length_cons,List.length_nil];omega))) rfl) rfl ?_
 refine Wg (Any.rd (.dec (.eql rfl rfl) (dT (by rw[F.w1];rfl))) _) rfl ?_
 refine Wn 2 rfl ?_
 have cd:=((((((((U.le (f.trans i)).cn l (by have:=U.lt;have:=f.size;omega)).le (h.trans H)).cn I (by have:=U.lt;have:=f.size;have:=i.size;have:=l.size;have:=h.size;omega)).le (A.trans L)).cn N (by have:=U.lt;have:=f.size;have:=i.size;have:=l.size;have:=h.size;have:=H.size;have:=I.size;have:=A.size;omega)).le (J.trans O)).cn P (by have:=U.lt;have:=f.size;have:=i.size;have:=l.size;have:=h.size;have:=H.size;have:=I.size;have:=A.size;have:=L.size;have:=N.size;have:=J.size;omega))
 refine Wg (.fB gQ (by rfl) rfl cd) rfl ?_
 have ce:=((((((((((V.le s).cb u (V.rn (by omega))).le (f.trans i)).cb l (V.rn (by have:=s.size;have:=u.size;have:=f.size;omega))).le (h.trans H)).cb I (V.rn (by have:=s.size;have:=u.size;have:=f.size;have:=i.size;have:=l.size;have:=h.size;omega))).le (A.trans L)).cb N (V.rn (by have:=s.size;have:=u.size;have:=f.size;have:=i.size;have:=l.size;have:=h.size;have:=H.size;have:=I.size;have:=A.size;omega))).le (J.trans O)).cb P (V.rn (by have:=s.size;have:=u.size;have:=f.size;have:=i.size;have:=l.size;have:=h.size;have:=H.size;have:=I.size;have:=A.size;have:=L.size;have:=N.size;have:=J.size;omega)))
 have cf:=((((((((((X.le s).cb u (X.rn (by omega))).le (f.trans i)).cb l (X.rn (by have:=s.size;have:=u.size;have:=f.size;omega))).le (h.trans H)).cb I (X.rn (by have:=s.size;have:=u.size;have:=f.size;have:=i.size;have:=l.size;have:=h.size;omega))).le (A.trans L)).cb N (X.rn (by have:=s.size;have:=u.size;have:=f.size;have:=i.size;have:=l.size;have:=h.size;have:=H.size;have:=I.size;have:=A.size;omega))).le (J.trans O)).cb P (X.rn (by have:=s.size;have:=u.size;have:=f.size;have:=i.size;have:=l.size;have:=h.size;have:=H.size;have:=I.size;have:=A.size;have:=L.size;have:=N.size;have:=J.size;omega)))
 refine W.mW rfl rfl rfl rfl rfl rfl (Ef.call Yk rfl rfl (JD bi (hT.le bj) ce.vec cf.vec (by omega) (by omega) (by rw[F.on,F.od];decide+kernel) (by rw[F.on];decide) (by rw[F.od];decide)) ?_)
 rintro _ cg ⟨rfl,R⟩
 refine⟨_,rfl,?_⟩
 refine Wg (Any.rd (.PN (a:=x9 C.2.1.n C.2.1.d) (b:=([49,47,53]:List UInt8)) rfl rfl (by rw[F.on,F.od];exact abz)) _) rfl ?_
 refine Wn 3 rfl (W.mW rfl rfl rfl rfl rfl rfl (Ef.call aaP rfl rfl (KU (c:=aL) cg (ab.le R).vec (aE.le R) (by omega) F.ok) ?_))
 rintro _ dg ⟨rfl,T⟩
 refine⟨_,rfl,?_⟩
 refine Wg (Any.rd (.dec (.eql rfl rfl) (dT F.t)) _) rfl (Wn 2 rfl (Nx (Sr (Wn 2 rfl (Wa (.fV 0 underlying22 iI rfl rfl (aI.vec.isSome eQ (by omega)) rfl (by omega)) rfl (Wr (.j5 iJ rfl (((aB.le (J.trans O)).cb P (aB.rn (by have:=J.size;omega))).le (R.trans T)).vec eQ (gD sG eO (show 0<sG.length by decide))) rfl ?_))))))
 have ci:=(((aA.le (J.trans O)).ch P (fun q hqq hF=>by cases hqq;have:=aA.lt hF;have:=J.size;have:=bh;omega)).le (R.trans T))
 refine W.cl Yl rfl rfl (Q7 (sG.getD 0 eO) ci) ?_
 rintro _ cj ⟨rfl,ac⟩
 have bl:=((bj.trans R).trans T).trans ac
 refine Wn 1 rfl (Wa (.extract (v:= .int .i64 ((mK (fun _=>none:MF) (sG.getD 0 eO)).1)) rfl rfl) rfl (Wa (.extract (v:= .int .i64 ((mK (fun _=>none:MF) (sG.getD 0 eO)).2)) rfl rfl) rfl (Wn 2 rfl (Nx (Sr (Wn 1 rfl (Wa (.dec (.eql rfl rfl) (dT F.e)) rfl (Wn 2 rfl ?_))))))))
 refine Wg (Any.rd (.dec (.eql rfl rfl) (dT aX)) _) rfl (Wn 3 rfl (Wg (Any.rd (.dec (.eql rfl rfl) (dT a1)) _) rfl (Wn 3 rfl (Wg (Any.rd (.dec (.eql rfl rfl) (dT a5)) _) rfl (Wn 3 rfl ?_)))))
 refine Wg (Any.rd (.dec (.eql rfl rfl) (dT Q.e)) _) rfl (Wn 6 rfl (Wg (Any.rd (.fV 0 underlying34 rE rfl rfl (aa.vec.isSome gy (by omega)) rfl (by omega)) _) rfl (Wg (Any.rd (.gH sj (aa.vec.isSome gy (by omega)) rfl) _) rfl (Wg (.ik (j:=0) (o:=1) (v:= .slice ((S.getD 0 gu).wA) ((S.getD 0 gu).wN) ((S.getD 0 gu).wC)) ni rfl (bk.le (R.trans (T.trans ac))).vec gy (gD S gu (by omega)) rfl) rfl (Wg (Any.rd (.fV 0 underlying22 iI rfl rfl (pc.way.vec.isSome eQ (by omega)) rfl (by omega)) _) rfl ?_)))))
 refine Wg (Any.rd (.gH iY (pc.way.vec.isSome eQ (by omega)) rfl) _) rfl (Wg (.ik (j:=0) (o:=2) (v:= .int .i64 ((((K.1.getD 0 jr).way).getD 0 eO).c)) gM rfl (pc.way.le (R.trans (T.trans ac))).vec eQ (gD ((K.1.getD 0 jr).way) eO (by first|omega|(simp only[List.length_cons,List.length_nil];omega))) rfl) rfl ?_)
 refine Wg (Any.rd (.dec (.eql rfl rfl) (dT (by rw[Q.w0];rfl))) _) rfl ?_
 refine Wn 2 rfl (Wg (.fB gQ (by rfl) rfl (aC.le (R.trans (T.trans ac)))) rfl ?_)
 refine W.mW rfl rfl rfl rfl rfl rfl (Ef.call Yk rfl rfl (JD cj (hT.le bl) (((bd.le O).cb P (bd.rn (by omega))).le (R.trans (T.trans ac))).vec (((be.le O).cb P (be.rn (by omega))).le (R.trans (T.trans ac))).vec (by omega) (by omega) (by rw[Q.on,Q.od];decide+kernel) (by rw[Q.on];decide) (by rw[Q.od];decide)) ?_)
 rintro _ ck ⟨rfl,cm⟩
 refine⟨_,rfl,?_⟩
 refine Wg (Any.rd (.PN (a:=x9 K.2.1.n K.2.1.d) (b:=([55,47,49,48]:List UInt8)) rfl rfl (by rw[Q.on,Q.od];exact abA)) _) rfl ?_
 refine Wn 2 rfl (W.mW rfl rfl rfl rfl rfl rfl (Ef.call PY rfl rfl (rP 10 4 ck (by omega)) ?_))
 rintro _ co ⟨dh,cp,rfl,cq,di,cr⟩
 refine⟨_,rfl,?_⟩
 refine W.mW rfl rfl rfl rfl rfl rfl (Ef.gq (len:=4) [_,_,_,_] underlying47 Gx rfl (by simp[Value.cells]) rfl (by decide) (by decide) ?_)
 intro bm aF cs aG bn
 have aG:fA aF bm 3 (([3,3,2,2]).map iv).flatten.toArray:=aG
 have ct:eU aF co.heap.size 3 iv 1 (some ⟨bm,0,none⟩) 4 4 ([3,3,2,2]):=aG.kL cs fT rfl rfl (by decide)
 refine W.mW rfl rfl rfl rfl rfl rfl (Ef.call Tu rfl rfl (by have q:=AP (c:=cp) (d:=4) aF (cq.le bn).vec ct.vec (by decide);rw[dT (show fw 10 4=[3,3,2,2] by decide)]at q;exact q) ?_)
 rintro _ cu ⟨rfl,cv⟩
 refine⟨_,rfl,?_⟩
 refine Wn 2 rfl (W.mW rfl rfl rfl rfl rfl rfl (Ef.call PY rfl rfl (rP 3 4 cu (by omega)) ?_))
 rintro _ cw ⟨dj,dk,rfl,dl,dm,cx⟩
 refine⟨_,rfl,?_⟩
 refine Wg (.len underlying47 rfl) rfl (Wg (Any.rd (.dec (.eql rfl rfl) (dT (by decide))) _) rfl (Wn 2 rfl (W.mW rfl rfl rfl rfl rfl rfl (Ef.call PY rfl rfl (rP 3 0 cw (by omega)) ?_))))
 rintro _ cy ⟨dn,dp,rfl,dq,dr,cz⟩
 refine⟨_,rfl,?_⟩
 refine Wg (.len underlying47 rfl) rfl (Wg (Any.rd (.dec (.eql rfl rfl) (dT (by decide))) _) rfl (Wn 3 rfl (Wg (Any.rd (.dec (.eql rfl rfl) (dT (by decide))) _) rfl (Wn 3 rfl (Wg (Any.rd (.dec (.eql rfl rfl) (dT (by decide))) _) rfl ?_)))))
 refine Wn 2 rfl (Wg (Any.rd (.Fs (cells:=((List.replicate 32 0#8).map jM).toArray) underlying27 xE z27 rfl rfl) _) rfl (W.mW rfl rfl rfl rfl rfl rfl (Ef.call Yh rfl rfl (Jz (c:=0) 1 (show(List.replicate 32 0#8).length=32 from rfl) cy (Vec.nil _ _ _ _) (by omega)) ?_)))
 rintro _ ds ⟨du,dw,dx,rfl,dy,cA,cB⟩
 refine⟨_,rfl,?_⟩
 have dz:=cA.1
 refine Wg (.len underlying51 rfl) rfl (Wg (Any.rd (.dec (.eql rfl rfl) (dT (by rw[show(([]:List yU).map (·.wN))=[]from rfl,K7];rfl))) _) rfl ?_)
 refine Wn 2 rfl (Nx (Rt (E.fu rfl rfl ?_)))
 exact⟨rfl,(((((((bl.trans cm).trans cr).trans bn).trans cv).trans cx).trans cz).trans cB)⟩
end Go.Proofs.YtkaedikifgpkeaaGreatDoor

namespace Go.Proofs.YtkaedikifgpkeaaGreatDoor
open Go Go.Sx Go.wK Go.Num Go.wM Go.fO Go.oF Go.uI Go.tH
set_option maxRecDepth 20000
def JE (kn:Nat)(w:World)(base gp:Nat)(F:Nat->Prop)(m:MF):Prop:=iN w base gp F m/\∃gm la ca,fA w gp 102 #[.map (some gm)]/\kM w zh IX gm la ca/\la.length=kn/\F gp/\F gm
section
variable {w w':World}{base gp kn:Nat}{F:Nat->Prop}{m:MF}
theorem JE.iQ {F':Nat->Prop}(h:JE kn w base gp F m)(hc:jU w w' F')(hne:∀k,F k->¬F' k):JE kn w' base gp F m:=by
  obtain⟨d,gm,la,ca,e,f,i,b,c⟩:=h
  exact⟨d.iQ hc hne,gm,la,ca,e.iQ hc (hne _ b),f.iQ hc (hne _ c),i,b,c⟩
theorem JE.ch {r:Option Nat}(h:JE kn w base gp F m)(hc:Ch w w' r)(hne:∀k,r=some k->¬F k):JE kn w' base gp F m:=h.iQ (hc.iQ (F:=fun k=>r=some k) (fun i hi=>hi)) (fun k hk hr=>hne k hr hk)
theorem JE.le (h:JE kn w base gp F m)(hl:Le w w'):JE kn w' base gp F m:=h.iQ (hl.iQ (fun _=>False)) (fun _ _ hf=>hf)
theorem JE.lt (h:JE kn w base gp F m){k:Nat}(hk:F k):k<w.heap.size:=h.1.lt hk
theorem JE.good (h:JE kn w base gp F m):ic m:=h.1.good
theorem JE.old (h:JE kn w base gp F m){k:Nat}(hk:F k):base<=k:=h.1.old hk
theorem JE.size (h:JE kn w base gp F m):base<=w.heap.size:=h.1.size
end
section
variable {g:List fO.Edge}{m:MF}{fr to a x:Int}
theorem UN (hm:ic m){n:Int}(h:(gK g m fr to a x n).2.2≠0):(gK g m fr to a x n).1.length=0/\((gK g m fr to a x n).2.2=1\/(gK g m fr to a x n).2.2=19):=by
  rcases zn (g:=g) (fr:=fr) (to:=to) (a:=a) (x:=x) hm (n:=n)with⟨e,_⟩|⟨e,_⟩|⟨s,k,e,_⟩
  · rw[e];exact⟨rfl,.inl rfl⟩
  · rw[e];exact⟨rfl,.inr rfl⟩
  · rw[e]at h;exact absurd rfl h
theorem Dm {p:tK}(h:MR g fr to x p):p.sent.length=p.way.length/\p.way.length<=8/\1<=p.way.length/\p.till.length=p.way.length:=by
  have cs:=Bf (w:=p.way) (a:=p.vX) (x:=x) (by rw[h.cost])
  have b:=cs.aae
  have c:=cs.aaf
  have d:=cs.len
  rw[h.cost]at b c
  exact⟨b,d.2,d.1,c⟩
theorem UO {p:tK}(h:MR g fr to x p){i:Nat}(hi:i<p.way.length):0<=p.sent.getD i 0/\p.sent.getD i 0<=1125899906842624:=by
  have hc:(fq p.way p.vX x).2.2=0:=by rw[h.cost]
  have k:=mU.some hc hi
  rw[h.cost]at k
  obtain⟨b,c,d⟩:=l9 k
  obtain⟨_,_,_,_,e,f⟩:=lv b
  simp only at c d
  omega
structure ZO (g:List fO.Edge)(fr to a x n:Int)(b:List tK×Fr×Int):Prop where
  parts:∀i,i<b.1.length->MR g fr to x (b.1.getD i jr)
  okf:okF b.2.1
  pos:0<b.2.1.n
  le1:b.2.1.n<=b.2.1.d
  net:∀e∈g,yO e b.1<=e.r
  sum:yP (b.1.map (·.vX))=a
  vX:∀s∈b.1.map (·.vX),0<=s
  ab:a<=1125899906842624
  len:(b.1.length:Int)<=n/\b.1.length<=8
  tot:RA b.1
theorem UQ (hm:ic m){n:Int}(h:(gK g m fr to a x n).2.2=0):ZO g fr to a x n (gK g m fr to a x n):=by
  have c:=(ou (g:=g) (fr:=fr) (to:=to) (a:=a) (x:=x) hm (n:=n)).2
  rcases zn (g:=g) (fr:=fr) (to:=to) (a:=a) (x:=x) hm (n:=n)with⟨e,_⟩|⟨e,_⟩|⟨s,k,e,b,d,f,v,A,j,l⟩
  · rw[e]at h;cases h
  · rw[e]at h;cases h
  · rw[e]at c ⊢
    have hb:mR g fr to a x=false:=by
      cases hb:mR g fr to a x
      · rfl
      · exact absurd (by rw[iT hb]) l
    have hbT:=zm hb
    obtain⟨o,t,u,C⟩:=qx (a:=a) (n:=k) f (by omega) j
    have hln:=congrArg List.length d
    rw[List.length_map,o]at hln
    refine⟨fun i hi=>b.parts _ (qp (z:=jr) hi),b.fQ.1,b.fQ.2.1,b.fQ.2.2,fun e he=>?_,by simp only;rw[d,t],fun y hy=>?_,hbT.2.2.2.2.1.2,⟨by simp only;omega,c⟩,c,fun p hp y hy=>?_⟩
    · have k1:=b.net e he
      obtain⟨i,hi,rfl⟩:=List.mem_iff_getElem.1 he
      have:=MS b.good (e:=g[i]) (by have:=(uw hbT.1).1 i hi;rwa [show g.getD i eO=g[i] by simp[List.getD,hi]]at this)
      show yO g[i] s.out<=g[i].r
      omega
    · simp only at hy
      rw[d]at hy
      obtain⟨i,hi,rfl⟩:=List.mem_iff_getElem.1 hy
      have k1:=u i (by omega)
      have k2:=(Ri f j i).1
      rw[show(fw a k)[i]=(fw a k).getD i 0 by simp[List.getD,hi],k1]
      omega
    · have hpo:=b.parts p hp
      have hl:=Dm hpo
      obtain⟨i,hi,rfl⟩:=List.mem_iff_getElem.1 hy
      have:=UO hpo (i:=i) (by omega)
      rwa [show p.sent.getD i 0=p.sent[i] by simp[List.getD,hi]]at this
end





end Go.Proofs.YtkaedikifgpkeaaGreatDoor

namespace Go.Proofs.YtkaedikifgpkeaaGreatDoor
open Tryz
open Go Go.Sx Go.wK Go.Num Go.wM Go.fO Go.oF Go.uI Go.tH
set_option maxRecDepth 20000
theorem il.wn {w:World}{b:Nat}{rs:List yU}{ps:List tK}(h:il w b rs ps){i:Nat}(hi:i<ps.length):(rs.getD i gu).wN=(ps.getD i jr).way.length:=(h.2 i hi).way.1.symm
theorem vD {l k:List Nat}(hl:l.length=k.length)(h:∀j,j<l.length->l.getD j 0=k.getD j 0):l=k:=by
  apply List.ext_getElem hl
  intro i b c
  have:=h i b
  simpa[List.getD,b,c]using this
theorem K9 {A B:Option Addr}{n c m d:Nat}{xs ys:List Nat}(w:World)(hV:Vec w rT 1 A n xs)(hY:Vec w rT 1 B m ys)(hn:n<=1000000):Calls prog 19 #[.slice A n c,.slice B m d] w fun r w'=>r= .returned (.bool (decide (xs=ys)))/\Le w w':=by
 have hl:=hV.1;have u:=hY.1
 refine enter func19 rfl rfl ?_
 have f:=Le.refl w
 refine Sr (Wn 1 rfl (Nx (Sq (Sr (Wn 1 rfl (Wr (.len underlying56 rfl) rfl (Wn 1 rfl (Wr (.len underlying56 rfl) rfl (Wn 1 rfl (Nx ?_))))))))))
 by_cases h:((n:Nat):Int)≠((m:Nat):Int)
 ·refine Cy rfl (dT h) (Sr (Wn 1 rfl (Nx (Rt (E.eX (E.fu rfl rfl ?_))))))
  exact⟨rB (by first|exact(dT (vD (by omega) (fun j hj=>hall j (by omega)))).symm|exact(dF (fun hh=>by subst hh;omega)).symm),f⟩
 refine Cn rfl (dF h) (Sn (Sq (Sr (Wn 1 rfl (Nx (WC.block (WC.loop (ι:=Nat) (fun k=>[(0,.slice A n c),(1,.slice B m d),(5,.int .i64 ((k:Nat):Int))]) (fun k e=>(k<=n)/\(∀j,j<k->xs.getD j 0=ys.getD j 0)/\Le w e/\w.heap.size<=e.heap.size) (fun k=>n-k) 0 ?_ ?_ ?_)))))))
 ·exact .of rfl
 ·exact⟨Nat.zero_le _,fun j hj=>absurd hj (Nat.not_lt_zero _),f,Nat.le_refl _⟩
 rintro k e ⟨hk,hall,i,t⟩
 refine Sq (Sr (Wn 2 rfl (Wr (.len underlying56 rfl) rfl (Wn 1 rfl (Nx ?_)))))
 by_cases l:((k:Nat):Int)<((n:Nat):Int)
 ·refine Cy rfl (dT l) (Sn (Sq (WC.block (Sq (WC.draw [0,1,2,3,4,5,6,7,8] mixed (by kernel_rfl) fun x o=>?_)))))
  have b:=i.trans o
  refine Gn 2 rfl (Ga rfl (.fV k underlying56 Ic rfl rfl (hV.isSome iH (by omega)) rfl (by omega)) (Gd rfl (.jB (v:= .int .u64 (((xs.getD k 0):Nat):Int)) Tq rfl (hV.le b) iH (gD xs 0 (by omega)) rfl) (Gn 2 rfl (Ga rfl (.fV k underlying56 Ic rfl rfl (hY.isSome iH (by omega)) rfl (by omega)) (Gd rfl (.jB (v:= .int .u64 (((ys.getD k 0):Nat):Int)) Tq rfl (hY.le b) iH (gD ys 0 (by omega)) rfl) ?_)))))
  refine Gn 1 rfl (G.nil (E.eY ?_))
  by_cases s:(((xs.getD k 0):Nat):Int)≠(((ys.getD k 0):Nat):Int)
  ·refine Cy rfl (dT s) (Sr (Wn 1 rfl (Nx (Rt (E.gT (E.eX (E.eX (E.gT (E.eX (E.fu rfl rfl ?_))))))))))
   exact⟨rB (by first|exact(dT (vD (by omega) (fun j hj=>hall j (by omega)))).symm|exact(dF (fun hh=>by subst hh;omega)).symm),b⟩
  refine Cn rfl (dF s) (WC.skip (E.gI (E.eY (WC.region (Wn 1 rfl (Wa (.add rfl rfl (by omega)) rfl (Wn 1 rfl (W.nil (E.again (k+1) (.of rfl) ?_ ?_)))))))))
  ·exact⟨by omega,fun j hj=>(Nat.lt_succ_iff_lt_or_eq.1 hj).elim (hall j) (fun hh=>by subst hh;omega),b,by have:=t;have:=o.size;omega⟩
  first|omega|(simp only[];omega)
 refine Cn rfl (dF l) (WC.exit (E.fC (E.fC (E.gW (E.eY (Sr (Wn 1 rfl (Nx (Rt (E.fu rfl rfl ?_))))))))))
 exact⟨rB (by first|exact(dT (vD (by omega) (fun j hj=>hall j (by omega)))).symm|exact(dF (fun hh=>by subst hh;omega)).symm),i⟩


end Go.Proofs.YtkaedikifgpkeaaGreatDoor

namespace Go.Sx
end Go.Sx
namespace Go.Proofs.YtkaedikifgpkeaaGreatDoor
open Tryz
open Go Go.Sx Go.wK Go.Num Go.wM Go.fO Go.oF Go.uI Go.tH
set_option maxRecDepth 20000
def zo (ps:List tK):Prop:=∀p∈ps,p.way.length<=8/\p.sent.length<=8/\p.till.length<=8
theorem JF {g:List fO.Edge}{m:MF}{fr to a x:Int}(hm:ic m){n:Int}:zo (gK g m fr to a x n).1:=by
  by_cases h:(gK g m fr to a x n).2.2=0
  · intro p hp
    obtain⟨i,hi,rfl⟩:=List.mem_iff_getElem.1 hp
    have:=Dm ((UQ hm h).parts i hi)
    rw[show(gK g m fr to a x n).1.getD i jr=(gK g m fr to a x n).1[i] by simp[List.getD,hi]]at this
    omega
  · intro p hp
    have:=(UN hm h).1
    rw[List.length_eq_zero_iff.1 this]at hp
    cases hp
theorem JG {g:List fO.Edge}{m:MF}{fr to a x:Int}(hm:ic m){n:Int}:zo (jk g m fr to a x n).1:=by
  rcases yQ (g:=g) (fr:=fr) (to:=to) (a:=a) (x:=x) hm (n:=n)with⟨e,_⟩|⟨e,_⟩|⟨s,e,b,_⟩
  · rw[e];intro p hp;cases hp
  · rw[e];intro p hp;cases hp
  · rw[e];intro p hp;have:=Dm (b.parts p hp);omega
def Gu (rs:List yU)(k:Nat):List Int:=(rs.take k).map fun q=>((q.wN:Nat):Int)
theorem OC {rs:List yU}{k:Nat}(h:k<rs.length):Gu rs (k+1)=Gu rs k++[(((rs.getD k gu).wN:Nat):Int)]:=by
  unfold Gu
  rw[List.take_add_one,List.map_append]
  simp[List.getD,h]
theorem RQ {rs:List yU}:(Gu rs rs.length).map Int.toNat=rs.map (·.wN):=by
  unfold Gu
  rw[List.take_length,List.map_map]
  rfl
theorem UR {w:World}{b:Nat}{rs:List yU}{ps:List tK}(h:il w b rs ps)(hw:zo ps):∀e∈Gu rs rs.length,0<=e/\e<=1000000:=fun e he=>by
  unfold Gu at he
  rw[List.take_length]at he
  obtain⟨q,hq,rfl⟩:=List.mem_map.1 he
  obtain⟨i,hi,rfl⟩:=List.mem_iff_getElem.1 hq
  have c:=h.wn (i:=i) (by rw[<-h.1];exact hi)
  have d:=hw (ps.getD i jr) (qp (z:=jr) (by rw[<-h.1];exact hi))
  rw[show rs.getD i gu=rs[i] by simp[List.getD,hi]]at c
  exact⟨by omega,by omega⟩
theorem JH {s:Nat}{seed:List Byte}{ns:List Nat}{k:Nat}(hk:k<(lQ s seed ns).length):((lQ s seed ns).getD k q9).pts.length<=8/\((lQ s seed ns).getD k q9).bl.length<=8:=by
  by_cases h:mJ s ns
  · rw[og h,uG]at hk
    rw[og h,O7 s seed ns hk]
    have:=h k hk
    have b:=D9 ((jg s ns.length).getD k 0) (Ls seed k) this.2.1
    unfold tQ
    have:=this.2.2
    omega
  · rw[yn h]at hk;cases hk
theorem RS (a n:Int):(fw a n).length<=8:=by
  unfold fw
  split
  · exact Nat.zero_le _
  · simp;omega
theorem JI {A B:Option Addr}{n c m d:Nat}{xs ys:List Nat}(w:World)(hV:Vec w rT 1 A n xs)(hY:Vec w rT 1 B m ys)(hn:n<=1000000):Calls prog 20 #[.slice A n c,.slice B m d] w fun r w'=>r= .returned (.bool (decide (xs=ys)))/\Le w w':=by
 have hl:=hV.1;have u:=hY.1
 refine enter func20 rfl rfl ?_
 have f:=Le.refl w
 refine Sr (Wn 1 rfl (Nx (Sq (Sr (Wn 1 rfl (Wr (.len underlying57 rfl) rfl (Wn 1 rfl (Wr (.len underlying57 rfl) rfl (Wn 1 rfl (Nx ?_))))))))))
 by_cases h:((n:Nat):Int)≠((m:Nat):Int)
 ·refine Cy rfl (dT h) (Sr (Wn 1 rfl (Nx (Rt (E.eX (E.fu rfl rfl ?_))))))
  exact⟨rB (by first|exact(dT (vD (by omega) (fun j hj=>hall j (by omega)))).symm|exact(dF (fun hh=>by subst hh;omega)).symm),f⟩
 refine Cn rfl (dF h) (Sn (Sq (Sr (Wn 1 rfl (Nx (WC.block (WC.loop (ι:=Nat) (fun k=>[(0,.slice A n c),(1,.slice B m d),(5,.int .i64 ((k:Nat):Int))]) (fun k e=>(k<=n)/\(∀j,j<k->xs.getD j 0=ys.getD j 0)/\Le w e/\w.heap.size<=e.heap.size) (fun k=>n-k) 0 ?_ ?_ ?_)))))))
 ·exact .of rfl
 ·exact⟨Nat.zero_le _,fun j hj=>absurd hj (Nat.not_lt_zero _),f,Nat.le_refl _⟩
 rintro k e ⟨hk,hall,i,t⟩
 refine Sq (Sr (Wn 2 rfl (Wr (.len underlying57 rfl) rfl (Wn 1 rfl (Nx ?_)))))
 by_cases l:((k:Nat):Int)<((n:Nat):Int)
 ·refine Cy rfl (dT l) (Sn (Sq (WC.block (Sq (WC.draw [0,1,2,3,4,5,6,7,8] mixed (by kernel_rfl) fun x o=>?_)))))
  have b:=i.trans o
  refine Gn 2 rfl (Ga rfl (.fV k underlying57 H9 rfl rfl (hV.isSome iH (by omega)) rfl (by omega)) (Gd rfl (.jB (v:= .int .u64 (((xs.getD k 0):Nat):Int)) Ia rfl (hV.le b) iH (gD xs 0 (by omega)) rfl) (Gn 2 rfl (Ga rfl (.fV k underlying57 H9 rfl rfl (hY.isSome iH (by omega)) rfl (by omega)) (Gd rfl (.jB (v:= .int .u64 (((ys.getD k 0):Nat):Int)) Ia rfl (hY.le b) iH (gD ys 0 (by omega)) rfl) ?_)))))
  refine Gn 1 rfl (G.nil (E.eY ?_))
  by_cases s:(((xs.getD k 0):Nat):Int)≠(((ys.getD k 0):Nat):Int)
  ·refine Cy rfl (dT s) (Sr (Wn 1 rfl (Nx (Rt (E.gT (E.eX (E.eX (E.gT (E.eX (E.fu rfl rfl ?_))))))))))
   exact⟨rB (by first|exact(dT (vD (by omega) (fun j hj=>hall j (by omega)))).symm|exact(dF (fun hh=>by subst hh;omega)).symm),b⟩
  refine Cn rfl (dF s) (WC.skip (E.gI (E.eY (WC.region (Wn 1 rfl (Wa (.add rfl rfl (by omega)) rfl (Wn 1 rfl (W.nil (E.again (k+1) (.of rfl) ?_ ?_)))))))))
  ·exact⟨by omega,fun j hj=>(Nat.lt_succ_iff_lt_or_eq.1 hj).elim (hall j) (fun hh=>by subst hh;omega),b,by have:=t;have:=o.size;omega⟩
  first|omega|(simp only[];omega)
 refine Cn rfl (dF l) (WC.exit (E.fC (E.fC (E.gW (E.eY (Sr (Wn 1 rfl (Nx (Rt (E.fu rfl rfl ?_))))))))))
 exact⟨rB (by first|exact(dT (vD (by omega) (fun j hj=>hall j (by omega)))).symm|exact(dF (fun hh=>by subst hh;omega)).symm),i⟩

theorem OD {A A2:Option Addr}{n c n2 c2:Nat}{g:List fO.Edge}{l:List Kn}(w:World)(hV:Vec w fD 9 A n g)(hL:Vec w Xo 3 A2 n2 l)(hgl:∀q∈l,Ju q.d)(hn:n<=9223372036854775807)(hn2:n2<=20):Calls prog 7 #[.slice A n c,.slice A2 n2 c2] w fun r w'=>∃gp F,r= .returned (.pointer (some ⟨gp,0,none⟩))/\ib w' w.heap.size gp F (xO g l,n2)/\Le w w':=by
 have hl:=hV.1;have O:=hL.1
 refine enter func7 rfl rfl ?_
 have u:=Le.refl w
 refine Sr (Wn 1 rfl (Nx (Sr (W.cl aaR rfl rfl (Xl w) ?_))))
 rintro _ P ⟨C,Q,rfl,R,S⟩
 refine Wn 1 rfl (Nx (Sq (Sr (Wn 1 rfl (Nx (WC.block (WC.loop (ι:=Nat×(Nat->Prop)) (fun⟨k,F⟩=>[(0,.slice A n c),(1,.slice A2 n2 c2),(5,.pointer (some ⟨C,0,none⟩)),(6,.int .i64 ((k:Nat):Int))]) (fun⟨k,F⟩ f=>(k<=n2)/\Le w f/\P.heap.size<=f.heap.size/\ib f w.heap.size C F (((l.take k).foldl (kV g) (fun _=>none)),k)) (fun⟨k,F⟩=>n2-k) (0,Q) ?_ ?_ ?_)))))))
 ·exact .of rfl
 ·exact⟨Nat.zero_le _,(u.trans S),Nat.le_refl _,R⟩
 rintro⟨k,F⟩ f ⟨hk,b,m,e⟩
 have hnx:k<n2->((l.take (k+1)).foldl (kV g) (fun _=>none))=kV g ((l.take k).foldl (kV g) (fun _=>none)) (l.getD k jI):=fun hh=>vv (g:=g) (l:=l) (k:=k) (by omega)
 refine Sq (Sr (Wn 2 rfl (Wr (.len underlying23 rfl) rfl (Wn 1 rfl (Nx ?_)))))
 by_cases D:((k:Nat):Int)<((n2:Nat):Int)
 ·refine Cy rfl (dT D) (Sn (Sq (WC.block (Sq (Sr (Wn 2 rfl (Wa (.fV k underlying23 xF rfl rfl (hL.isSome ig (by omega)) rfl (by omega)) rfl (Wa (.gH uf (hL.isSome ig (by omega)) rfl) rfl (Wr (.ik (j:=k) (o:=0) (v:= .int .i64 ((l.getD k jI).p)) gM rfl (hL.le b) ig (gD l jI (by omega)) rfl) rfl (Wn 1 rfl ?_))))))))))
  by_cases H:((l.getD k jI).p)<0
  ·refine Dt H rfl rfl (Wn 9 rfl (Nx (WC.gL rfl ?_)))
   have hnx:=hnx (by omega)
   refine WC.exit (E.fC (E.gW (E.eY (WC.region (Wn 1 rfl (Wa (.add rfl rfl (by omega)) rfl (Wn 1 rfl (W.nil (E.again (k+1,F) (.of rfl) ?_ ?_)))))))))
   ·exact⟨by omega,b,by have:=m;omega,(e.up (by rw[hnx];unfold kV;first|(rw[if_pos (by omega)])|(rw[if_neg (by omega),if_pos (by omega)])|(rw[if_neg (by omega),if_neg (by omega)])) (by first|exact Nat.le_refl _|exact Nat.le_succ _))⟩
   first|omega|(simp only[];omega)
  refine Df H rfl rfl (Wn 2 rfl (Wg (Any.rd (.fV k underlying23 xF rfl rfl (hL.isSome ig (by omega)) rfl (by omega)) _) rfl (Wg (Any.rd (.gH uf (hL.isSome ig (by omega)) rfl) _) rfl (Wg (.ik (j:=k) (o:=0) (v:= .int .i64 ((l.getD k jI).p)) gM rfl (hL.le b) ig (gD l jI (by omega)) rfl) rfl (Wn 1 rfl (Wg (.len underlying22 rfl) rfl ?_))))))
  refine Wn 2 rfl (Nx ?_)
  by_cases I:((n:Nat):Int)<=((l.getD k jI).p)
  ·refine Cy rfl (dT I) ?_
   have hnx:=hnx (by omega)
   refine WC.exit (E.fC (E.gW (E.eY (WC.region (Wn 1 rfl (Wa (.add rfl rfl (by omega)) rfl (Wn 1 rfl (W.nil (E.again (k+1,F) (.of rfl) ?_ ?_)))))))))
   ·exact⟨by omega,b,by have:=m;omega,(e.up (by rw[hnx];unfold kV;first|(rw[if_pos (by omega)])|(rw[if_neg (by omega),if_pos (by omega)])|(rw[if_neg (by omega),if_neg (by omega)])) (by first|exact Nat.le_refl _|exact Nat.le_succ _))⟩
   first|omega|(simp only[];omega)
  refine Cn rfl (dF I) ?_
  have T:=hgl (l.getD k jI) (getD_in (z:=jI) (by omega))
  unfold Ju at T
  have hnx:=hnx (by omega)
  refine Sn (Sr (Wn 2 rfl (Wa (.fV k underlying23 xF rfl rfl (hL.isSome ig (by omega)) rfl (by omega)) rfl (Wa (.gH Qo (hL.isSome ig (by omega)) rfl) rfl (Wr (.ik (j:=k) (o:=1) (v:= .int .i64 ((l.getD k jI).d)) gM rfl (hL.le b) ig (gD l jI (by omega)) rfl) rfl (Wa (.and1 rfl rfl (by omega)) rfl (Wn 1 rfl (Nx ?_))))))))
  by_cases c2:(((l.getD k jI).d)%2)=0
  ·refine Cy rfl (dT c2) (WC.draw [0,1,2,3,4,5,6,7,8,9,10,11,12,13,14] mixed (by kernel_rfl) fun U x=>?_)
   have s:=b.trans x
   refine Gn 4 rfl (Ga rfl (.fV k underlying23 xF rfl rfl (hL.isSome ig (by omega)) rfl (by omega)) (Ga rfl (.gH uf (hL.isSome ig (by omega)) rfl) (Gd rfl (.ik (j:=k) (o:=0) (v:= .int .i64 ((l.getD k jI).p)) gM rfl (hL.le s) ig (gD l jI (by omega)) rfl) (Ga rfl (.fV (((l.getD k jI).p).toNat) underlying22 iI rfl rfl (hV.isSome eQ (by omega)) (by omega) (by omega)) (Gd rfl (.j5 iJ rfl (hV.le s) eQ (gD g eO (by omega))) ?_)))))
   refine Gn 2 rfl (Ga rfl (.fV k underlying23 xF rfl rfl (hL.isSome ig (by omega)) rfl (by omega)) (Ga rfl (.gH FR (hL.isSome ig (by omega)) rfl) (Gd rfl (.ik (j:=k) (o:=2) (v:= .int .i64 ((l.getD k jI).a)) gM rfl (hL.le s) ig (gD l jI (by omega)) rfl) ?_)))
   have J:=(e.le x)
   refine G.ef rfl rfl rfl rfl rfl (Ef.call aaS rfl rfl (Rq (g.getD (((l.getD k jI).p).toNat) eO) ((l.getD k jI).a) U J (by omega)) ?_)
   rintro _ ab ⟨rfl,V,X,ac,K⟩
   refine⟨_,rfl,?_⟩
   refine noT (by kernel_rfl) (G.nil (E.gI (E.eY (WC.region (Wn 1 rfl (Wa (.add rfl rfl (by omega)) rfl (Wn 1 rfl (W.nil (E.again (k+1,V) (.of rfl) ?_ ?_)))))))))
   ·exact⟨by omega,(s.nP K (fun i hi=>Nat.le_trans u.size (J.old hi))),by have:=m;have:=x.size;have:=K.size;omega,(X.up (by rw[hnx];unfold kV;first|(rw[if_pos (by omega)])|(rw[if_neg (by omega),if_pos (by omega)])|(rw[if_neg (by omega),if_neg (by omega)])) (by first|exact Nat.le_refl _|exact Nat.le_succ _))⟩
   first|omega|(simp only[];omega)
  refine Cn rfl (dF c2) (WC.draw [0,1,2,3,4,5,6,7,8,9,10,11,12,13,14] mixed (by kernel_rfl) fun Y y=>?_)
  have t:=b.trans y
  refine Gn 4 rfl (Ga rfl (.fV k underlying23 xF rfl rfl (hL.isSome ig (by omega)) rfl (by omega)) (Ga rfl (.gH uf (hL.isSome ig (by omega)) rfl) (Gd rfl (.ik (j:=k) (o:=0) (v:= .int .i64 ((l.getD k jI).p)) gM rfl (hL.le t) ig (gD l jI (by omega)) rfl) (Ga rfl (.fV (((l.getD k jI).p).toNat) underlying22 iI rfl rfl (hV.isSome eQ (by omega)) (by omega) (by omega)) (Gd rfl (.j5 iJ rfl (hV.le t) eQ (gD g eO (by omega))) ?_)))))
  refine Gn 2 rfl (Ga rfl (.fV k underlying23 xF rfl rfl (hL.isSome ig (by omega)) rfl (by omega)) (Ga rfl (.gH FR (hL.isSome ig (by omega)) rfl) (Gd rfl (.ik (j:=k) (o:=2) (v:= .int .i64 ((l.getD k jI).a)) gM rfl (hL.le t) ig (gD l jI (by omega)) rfl) ?_)))
  have L:=(e.le y)
  refine G.ef rfl rfl rfl rfl rfl (Ef.call Yn rfl rfl (Jj (g.getD (((l.getD k jI).p).toNat) eO) ((l.getD k jI).a) Y L (by omega)) ?_)
  rintro _ ad ⟨rfl,Z,aa,ae,N⟩
  refine⟨_,rfl,?_⟩
  refine noT (by kernel_rfl) (G.nil (E.gI (E.eY (WC.region (Wn 1 rfl (Wa (.add rfl rfl (by omega)) rfl (Wn 1 rfl (W.nil (E.again (k+1,Z) (.of rfl) ?_ ?_)))))))))
  ·exact⟨by omega,(t.nP N (fun i hi=>Nat.le_trans u.size (L.old hi))),by have:=m;have:=y.size;have:=N.size;omega,(aa.up (by rw[hnx];unfold kV;first|(rw[if_pos (by omega)])|(rw[if_neg (by omega),if_pos (by omega)])|(rw[if_neg (by omega),if_neg (by omega)])) (by first|exact Nat.le_refl _|exact Nat.le_succ _))⟩
  first|omega|(simp only[];omega)
 refine Cn rfl (dF D) (WC.exit (E.fC (E.fC (E.gW (E.eY (Sr (Wn 2 rfl (Nx (Rt (E.fu rfl rfl ?_))))))))))
 have hke:k=n2:=(by omega)
 subst hke
 exact⟨_,_,rfl,(by have h:=e;rw[show l.take k=l by rw[<-O,List.take_length]]at h;exact h),b⟩

theorem JJ {A B:Option Addr}{n c m d b1 b2:Nat}{rs qs:List yU}{ps:List tK}(w:World)(hV:Vec w sM 4 A n rs)(hY:Vec w sM 4 B m qs)(hp:il w b1 rs ps)(hq:il w b2 qs ps)(hn:n<=1000000)(hw:zo ps):Calls prog 12 #[.slice A n c,.slice B m d] w fun r w'=>r= .returned (.bool true)/\Le w w':=by
 have hl:=hV.1;have I:=hY.1;have J:=hp.1;have K:=hq.1
 refine enter func12 rfl rfl (Sr (Wn 1 rfl (Nx (Sq (Sr (Wn 1 rfl (Wr (.len underlying34 rfl) rfl (Wn 1 rfl (Wr (.len underlying41 rfl) rfl (Wa (.dec (.neq rfl rfl) (dF (by omega))) rfl ?_))))))))))
 refine Nx (WC.iD rfl (Sn (Sq (Sr (Wn 1 rfl (Nx (WC.block (WC.loop (ι:=Nat) (fun i=>[(0,.slice A n c),(1,.slice B m d),(5,.int .i64 ((i:Nat):Int))]) (fun i k=>(i<=n)/\Le w k/\w.heap.size<=k.heap.size) (fun i=>n-i) 0 ?_ ?_ ?_))))))))
 ·exact .of rfl
 ·exact⟨Nat.zero_le _,(Le.refl w),Nat.le_refl _⟩
 rintro i k ⟨hi,u,C⟩
 refine Sq (Sr (Wn 2 rfl (Wr (.len underlying34 rfl) rfl (Wn 1 rfl (Nx ?_)))))
 by_cases x:((i:Nat):Int)<((n:Nat):Int)
 ·refine Cy rfl (dT x) (Sn (Sq (WC.block (Sq (WC.draw [0,1,2,3,4,5,6,7,8,9,10,11,12,13,14,15,16,17,18,19,20,21,22,23,24,25,26,27,28,29,30,31,32,33,34,35,36,37,38,39,40,41,42,43,44,45,46,47,48,49,50,51,52] mixed (by kernel_rfl) fun D y=>?_)))))
  have b:=u.trans y
  have pu:=(hp.le b).2 i (by omega)
  have pua:=pu.vX;have puw:=pu.way.1;have pus:=pu.sent.1;have put:=pu.till.1
  have pv:=(hq.le b).2 i (by omega)
  have pva:=pv.vX;have pvw:=pv.way.1;have pvs:=pv.sent.1;have pvt:=pv.till.1
  have hwi:=hw (ps.getD i jr) (qp (z:=jr) (by omega))
  refine Gn 2 rfl (Ga rfl (.fV i underlying34 rE rfl rfl (hV.isSome gy (by omega)) rfl (by omega)) (Ga rfl (.gH Qk (hV.isSome gy (by omega)) rfl) (Gd rfl (.ik (j:=i) (o:=0) (v:= .int .i64 ((rs.getD i gu).vX)) gM rfl (hV.le b) gy (gD rs gu (by omega)) rfl) (Gn 2 rfl (Ga rfl (.fV i underlying41 Tp rfl rfl (hY.isSome gy (by omega)) rfl (by omega)) ?_)))))
  refine Ga rfl (.gH WR (hY.isSome gy (by omega)) rfl) (Gd rfl (.ik (j:=i) (o:=0) (v:= .int .i64 ((qs.getD i gu).vX)) gM rfl (hY.le b) gy (gD qs gu (by omega)) rfl) (Ga rfl (.dec (.neq rfl rfl) (dF (fun h=>h (by rw[pua,pva])))) ?_))
  refine Gn 3 rfl (jN rfl (.fV i underlying34 rE rfl rfl (hV.isSome gy (by omega)) rfl (by omega)) (jN rfl (.gH sj (hV.isSome gy (by omega)) rfl) (pz rfl (.ik (j:=i) (o:=1) (v:= .slice ((rs.getD i gu).wA) ((rs.getD i gu).wN) ((rs.getD i gu).wC)) ni rfl (hV.le b) gy (gD rs gu (by omega)) rfl) (Gn 2 rfl (jN rfl (.fV i underlying41 Tp rfl rfl (hY.isSome gy (by omega)) rfl (by omega)) ?_)))))
  refine jN rfl (.gH WS (hY.isSome gy (by omega)) rfl) (pz rfl (.ik (j:=i) (o:=1) (v:= .slice ((qs.getD i gu).wA) ((qs.getD i gu).wN) ((qs.getD i gu).wC)) ni rfl (hY.le b) gy (gD qs gu (by omega)) rfl) (G.mW rfl rfl rfl rfl rfl rfl rfl rfl (Ef.call aaX rfl rfl (by have q:=Ub (n:=((rs.getD i gu).wN)) (m:=((qs.getD i gu).wN)) (c:=((rs.getD i gu).wC)) (d:=((qs.getD i gu).wC)) D pu.way.vec pv.way.vec (by omega);rw[dT (show(ps.getD i jr).way=(ps.getD i jr).way from rfl)]at q;exact q) ?_)))
  rintro _ F ⟨rfl,e⟩
  refine⟨_,rfl,?_⟩
  refine⟨fun _=>e,?_⟩
  have l:=b.trans e
  refine Gn 5 rfl (jN rfl (.fV i underlying34 rE rfl rfl (hV.isSome gy (by omega)) rfl (by omega)) (jN rfl (.gH Ki (hV.isSome gy (by omega)) rfl) (pz rfl (.ik (j:=i) (o:=2) (v:= .slice ((rs.getD i gu).sA) ((rs.getD i gu).sN) ((rs.getD i gu).sC)) NA rfl (hV.le l) gy (gD rs gu (by omega)) rfl) (Gn 2 rfl (jN rfl (.fV i underlying41 Tp rfl rfl (hY.isSome gy (by omega)) rfl (by omega)) ?_)))))
  refine jN rfl (.gH WT (hY.isSome gy (by omega)) rfl) (pz rfl (.ik (j:=i) (o:=2) (v:= .slice ((qs.getD i gu).sA) ((qs.getD i gu).sN) ((qs.getD i gu).sC)) NA rfl (hY.le l) gy (gD qs gu (by omega)) rfl) (G.mW rfl rfl rfl rfl rfl rfl rfl rfl (Ef.call Tu rfl rfl (by have q:=AP (c:=((rs.getD i gu).sC)) (d:=((qs.getD i gu).sC)) F (pu.sent.le e).vec (pv.sent.le e).vec (by omega);rw[dT (show(ps.getD i jr).sent=(ps.getD i jr).sent from rfl)]at q;exact q) ?_)))
  rintro _ H ⟨rfl,f⟩
  refine⟨_,rfl,?_⟩
  refine⟨fun _=>f,?_⟩
  have s:=l.trans f
  refine Gn 5 rfl (jN rfl (.fV i underlying34 rE rfl rfl (hV.isSome gy (by omega)) rfl (by omega)) (jN rfl (.gH WQ (hV.isSome gy (by omega)) rfl) (pz rfl (.ik (j:=i) (o:=3) (v:= .slice ((rs.getD i gu).tA) ((rs.getD i gu).tN) ((rs.getD i gu).tC)) NA rfl (hV.le s) gy (gD rs gu (by omega)) rfl) (Gn 2 rfl (jN rfl (.fV i underlying41 Tp rfl rfl (hY.isSome gy (by omega)) rfl (by omega)) ?_)))))
  refine jN rfl (.gH WU (hY.isSome gy (by omega)) rfl) (pz rfl (.ik (j:=i) (o:=3) (v:= .slice ((qs.getD i gu).tA) ((qs.getD i gu).tN) ((qs.getD i gu).tC)) NA rfl (hY.le s) gy (gD qs gu (by omega)) rfl) (G.mW rfl rfl rfl rfl rfl rfl rfl rfl (Ef.call Tu rfl rfl (by have q:=AP (c:=((rs.getD i gu).tC)) (d:=((qs.getD i gu).tC)) H (pu.till.le (e.trans f)).vec (pv.till.le (e.trans f)).vec (by omega);rw[dT (show(ps.getD i jr).till=(ps.getD i jr).till from rfl)]at q;exact q) ?_)))
  rintro _ L ⟨rfl,t⟩
  refine⟨_,rfl,?_⟩
  refine⟨fun _=>t,?_⟩
  refine Gn 2 rfl (G.nil (E.eY (WC.iD rfl (WC.skip (E.gI (E.eY (WC.region (Wn 1 rfl (Wa (.add rfl rfl (by omega)) rfl (Wn 1 rfl (W.nil (E.again (i+1) (.of rfl) ?_ ?_))))))))))))
  ·exact⟨by omega,(s.trans t),by have:=C;have:=y.size;have:=e.size;have:=f.size;have:=t.size;omega⟩
  first|omega|(simp only[];omega)
 refine Cn rfl (dF x) (WC.exit (E.fC (E.fC (E.gW (E.eY (Sr (Wn 1 rfl (Nx (Rt (E.fu rfl rfl ?_))))))))))
 exact⟨rfl,u⟩

set_option maxHeartbeats 4000000 in
theorem DY (fr to a x n3:Int) (s:Nat) {seed:List Byte} (hse:seed.length=32) {A A2:Option Addr} {n c n2 c2:Nat} {g:List fO.Edge} {l:List Kn} (w:World) (hT:Sa w) (hV:Vec w fD 9 A n g) (hL:Vec w Xo 3 A2 n2 l) (hgl:∀q∈l,Ju q.d) (hnc:n<=c) (hn:n<=9223372036854775807) (hn2:n2<=9223372036854775807) (ha:Ju a) (hnn:Ju n3):Calls prog 3 #[.slice A n c,.slice A2 n2 c2,.int .i64 fr,.int .i64 to,.int .i64 a,.int .i64 x,.int .i64 n3,.int .u64 ((s:Nat):Int),.agg (seed.map jM).toArray] w fun r w'=>r= .returned (.bool true)/\Le w w':=by
 have hl:=hV.1;have dc:=hL.1;have dd:=RS a n3
 have hgm:ic (xO g l):=CO g l _ pU
 unfold Ju at ha hnn
 refine enter func3 rfl rfl (Sr (W.ef rfl rfl rfl (Ef.iM rfl fun ak a8 de (ci:fA a8 ak 27 (seed.map jM).toArray) cj=>?_)))
 have L1:=(Le.refl w).trans cj
 refine Wn 1 rfl (Nx (Sr (W.cl go4 rfl rfl (K8 a8 (hT.le L1)) ?_)))
 rintro _ a9 ⟨rfl,ba⟩
 refine Wn 1 rfl (Nx ?_)
 have f3:=(ci.le ba)
 refine WC.cut (ι:=Unit) (fun u0=>[(0,.slice A n c),(1,.slice A2 n2 c2),(2,.int .i64 fr),(3,.int .i64 to),(4,.int .i64 a),(5,.int .i64 x),(6,.int .i64 n3),(7,.int .u64 ((s:Nat):Int)),(17,.pointer (some ⟨ak,0,none⟩)),(19,.bool true)]) (fun u0 al=>((8<n3\/n3<=3)/\n<=8/\n2<=20)/\Le w al/\a9.heap.size<=al.heap.size/\fA al ak 27 (seed.map jM).toArray) ?_ ?_
 ·refine Sr (Wn 2 rfl (W.cl go5 rfl rfl (Xp a9) ?_))
  rintro _ dg ⟨rfl,am⟩
  have L4:=(L1.trans ba).trans am
  refine Wn 1 rfl ?_
  by_cases aP:(decide (n<=8)&&decide (n2<=20))=true
  ·have hfw:n<=8/\n2<=20:=by simpa using aP
   refine Wa (.dec (.move rfl) (congrArg not aP)) rfl (Wn 2 rfl ?_)
   by_cases bb:3<n3
   ·refine Wg (Any.rd (.dec (.move rfl) (dT bb)) _) rfl (Wn 2 rfl (Wg (Any.rd (.mM rfl rfl rfl) _) rfl (Wn 1 rfl (Nx ?_))))
    by_cases c0:n3<9
    ·refine Cy rfl (dT c0) (Sr (Wn 2 rfl (Nx (Rt (E.eX (E.fu rfl rfl ?_))))))
     exact⟨rfl,L4⟩
    refine Cn rfl (dF c0) (WC.skip (E.meet () (.of rfl) ?_))
    exact⟨⟨by omega,hfw⟩,L4,by have:=am.size;omega,(f3.le am)⟩
   refine Wg (Any.rd (.dec (.move rfl) (dF bb)) _) rfl (Wn 2 rfl (Wg (Any.rd (.mO rfl rfl rfl) _) rfl (Wn 1 rfl (Nx (WC.iD rfl (WC.skip (E.meet () (.of rfl) ?_)))))))
   exact⟨⟨by omega,hfw⟩,L4,by have:=am.size;omega,(f3.le am)⟩
  refine Wa (.dec (.move rfl) (congrArg not (Bool.eq_false_iff.2 aP))) rfl (Wn 3 rfl (W.fZ rfl rfl rfl rfl rfl (W.fZ rfl rfl rfl rfl rfl (Wn 2 rfl (Nx (WC.gL rfl (Sr (Wn 2 rfl (Nx (Rt (E.eX (E.fu rfl rfl ?_))))))))))))
  exact⟨rfl,L4⟩
 rintro u0 al ⟨dh,aQ,di,an⟩
 refine Sr (Wn 2 rfl (W.cl go6 rfl rfl (UF al (hV.le aQ) (hL.le aQ) hgl (by omega) (by omega)) ?_))
 rintro _ ck ⟨dj,dk,rfl,cm,ac⟩
 have L7:=aQ.trans ac
 refine Wn 1 rfl (Nx (Sq (Sr (Wn 1 rfl (Wa (.dec (.PL (by kernel_rfl) rfl) rfl) rfl (Nx (WC.iD rfl (Sn (Sr (Wn 2 rfl (W.cl go7 rfl rfl (OD ck (hV.le L7) (hL.le L7) hgl (by omega) (by omega)) ?_)))))))))))
 rintro _ co ⟨dl,dm,rfl,bc,X⟩
 have L8:=L7.trans X
 refine Wn 1 rfl (Nx (Sr (Wn 7 rfl ?_)))
 have f9:=(cm.le X)
 obtain⟨N,ao⟩:∃z,z=(jk g (xO g l) fr to a x n3):=⟨_,rfl⟩
 have bd:=uy (g:=g) (m:=(xO g l)) (fr:=fr) (to:=to) (a:=a) (x:=x) (n:=n3) hgm
 rw[<-ao]at bd;unfold kP at bd
 refine W.cl go8 rfl rfl (by have k:=Dc (c:=c) fr to a x n3 co f9 (hV.le L8) (by omega) (by omega);rw[<-ao]at k;exact k) ?_
 rintro _ dn ⟨dp,cp,dq,be,aR,bf,aS,rfl,ap,bg,aq,ar,dr,T⟩
 have bh:=L8.trans T
 have ds:=bg.1
 have hwt:zo N.1:=by rw[ao];exact JG hgm
 have hwt:zo N.1:=by rw[ao];exact JG hgm
 refine Wn 2 rfl (Wa (.extract (v:= .agg #[.slice be ((eP N.2.1.n).length) aR,.slice bf ((eP N.2.1.d).length) aS]) rfl rfl) rfl (Wn 1 rfl (W.ef rfl rfl rfl (Ef.fI z37 fun bi cq aT (bj:fA cq bi 37 #[.slice none 0 0,.slice none 0 0]) H=>(Wn 1 rfl (W.sA gV rfl rfl bj ?_))))))
 intro bk ad I
 have ad:fA bk bi 37 #[.slice be ((eP N.2.1.n).length) aR,.slice bf ((eP N.2.1.d).length) aS]:=ad
 have bm:=(bh.trans H).tb I bh aT
 refine Wn 1 rfl (Nx (Sr (Wn 7 rfl ?_)))
 have aG:=((bc.le (T.trans H)).ch I (fun q hqq hF=>by cases hqq;have:=bc.lt hF;have:=T.size;have:=aT;omega))
 have Xu:(jk g (xO g l,n2).1 fr to a x n3)=N:=ao.symm
 refine W.cl go9 rfl rfl (by have k:=E5 (c:=c) fr to a x n3 bk aG (hV.le bm) (by omega) (by omega) (show n2<=90000 by omega);rw[Xu]at k;exact k) ?_
 rintro _ du ⟨dw,cr,dx,bn,aU,bo,aV,rfl,aH,bp,aI,aJ,dy,C⟩
 have bq:=bm.trans C
 have dz:=bp.1
 refine Wn 2 rfl (Wa (.extract (v:= .agg #[.slice bn ((eP N.2.1.n).length) aU,.slice bo ((eP N.2.1.d).length) aV]) rfl rfl) rfl (Wn 1 rfl (W.ef rfl rfl rfl (Ef.fI z37 fun bs cs aW (aX:fA cs bs 37 #[.slice none 0 0,.slice none 0 0]) u=>(Wn 1 rfl (W.sA gV rfl rfl aX ?_))))))
 intro ae au y
 have au:fA ae bs 37 #[.slice bn ((eP N.2.1.n).length) aU,.slice bo ((eP N.2.1.d).length) aV]:=au
 have bt:=(bq.trans u).tb y bq aW
 refine Wn 1 rfl (Nx (Sr (Wn 7 rfl ?_)))
 have ct:=((((f9.le (T.trans H)).ch I (fun q hqq hF=>by cases hqq;have:=f9.lt hF;have:=T.size;have:=aT;omega)).le (C.trans u)).ch y (fun q hqq hF=>by cases hqq;have:=f9.lt hF;have:=T.size;have:=H.size;have:=I.size;have:=C.size;have:=aW;omega))
 obtain⟨K,av⟩:∃z,z=(gK g (xO g l) fr to a x n3):=⟨_,rfl⟩
 have bu:=ou (g:=g) (m:=(xO g l)) (fr:=fr) (to:=to) (a:=a) (x:=x) (n:=n3) hgm
 rw[<-av]at bu;unfold kP at bu
 refine W.cl PX rfl rfl (by have k:=rQ (c:=c) fr to a x n3 ae ct (hV.le bt) (by omega) (by omega);rw[<-av]at k;exact k) ?_
 rintro _ dA ⟨bv,aK,O,bw,aY,bx,aZ,rfl,aw,a0,a1,a2,dB,b⟩
 have bz:=bt.trans b
 have dC:=a0.1
 have hwb:zo K.1:=by rw[av];exact JF hgm
 have hwb:zo K.1:=by rw[av];exact JF hgm
 refine Wn 2 rfl (Wa (.extract (v:= .agg #[.slice bw ((eP K.2.1.n).length) aY,.slice bx ((eP K.2.1.d).length) aZ]) rfl rfl) rfl (Wn 1 rfl (W.ef rfl rfl rfl (Ef.fI z37 fun bB cu bD (aL:fA cu bB 37 #[.slice none 0 0,.slice none 0 0]) f=>(Wn 1 rfl (W.sA gV rfl rfl aL ?_))))))
 intro bE aM t
 have aM:fA bE bB 37 #[.slice bw ((eP K.2.1.n).length) aY,.slice bx ((eP K.2.1.d).length) aZ]:=aM
 have bF:=(bz.trans f).tb t bz bD
 refine Wn 1 rfl (Nx (Sr (Wn 7 rfl ?_)))
 have cv:=((((aG.le (C.trans u)).ch y (fun q hqq hF=>by cases hqq;have:=aG.lt hF;have:=C.size;have:=aW;omega)).le (b.trans f)).ch t (fun q hqq hF=>by cases hqq;have:=aG.lt hF;have:=C.size;have:=u.size;have:=y.size;have:=b.size;have:=bD;omega))
 have UT:(gK g (xO g l,n2).1 fr to a x n3)=K:=av.symm
 refine W.cl aaL rfl rfl (by have k:=K6 (c:=c) fr to a x n3 bE cv (hV.le bF) (by omega) (by omega) (show n2<=90000 by omega);rw[UT]at k;exact k) ?_
 rintro _ dD ⟨dE,cw,dG,bG,a3,bH,a4,rfl,bI,bJ,bK,bL,dH,e⟩
 have bM:=bF.trans e
 have dI:=bJ.1
 refine Wn 2 rfl (Wa (.extract (v:= .agg #[.slice bG ((eP K.2.1.n).length) a3,.slice bH ((eP K.2.1.d).length) a4]) rfl rfl) rfl (Wn 1 rfl (W.ef rfl rfl rfl (Ef.fI z37 fun bO cx cy (ax:fA cx bO 37 #[.slice none 0 0,.slice none 0 0]) D=>(Wn 1 rfl (W.sA gV rfl rfl ax ?_))))))
 intro bP a5 F
 have a5:fA bP bO 37 #[.slice bG ((eP K.2.1.n).length) a3,.slice bH ((eP K.2.1.d).length) a4]:=a5
 refine Wn 1 rfl (Nx (Sq (Sr (Wn 2 rfl ?_))))
 have cz:=((((((((ap.le H).cb I (ap.rn (by omega))).le (C.trans u)).cb y (ap.rn (by have:=H.size;have:=I.size;have:=C.size;omega))).le (b.trans f)).cb t (ap.rn (by have:=H.size;have:=I.size;have:=C.size;have:=u.size;have:=y.size;have:=b.size;omega))).le (e.trans D)).cb F (ap.rn (by have:=H.size;have:=I.size;have:=C.size;have:=u.size;have:=y.size;have:=b.size;have:=f.size;have:=t.size;have:=e.size;omega)))
 have cA:=((((((aH.le u).cb y (aH.rn (by omega))).le (b.trans f)).cb t (aH.rn (by have:=u.size;have:=y.size;have:=b.size;omega))).le (e.trans D)).cb F (aH.rn (by have:=u.size;have:=y.size;have:=b.size;have:=f.size;have:=t.size;have:=e.size;omega)))
 refine W.cl Ye rfl rfl (JJ (c:=cp) (d:=cr) bP cz.vec cA.vec ((((((((bg.le H).qy I bj (by decide) (by decide)).le (C.trans u)).qy y aX (by decide) (by decide)).le (b.trans f)).qy t aL (by decide) (by decide)).le (e.trans D)).qy F ax (by decide) (by decide)) ((((((bp.le u).qy y aX (by decide) (by decide)).le (b.trans f)).qy t aL (by decide) (by decide)).le (e.trans D)).qy F ax (by decide) (by decide)) (by omega) hwt) ?_
 rintro _ cB ⟨rfl,J⟩
 refine Wn 2 rfl (Wg (.fB gQ (by rfl) rfl (((((((ad.le (C.trans u)).cn y (by have:=ad.lt;have:=C.size;omega)).le (b.trans f)).cn t (by have:=ad.lt;have:=C.size;have:=u.size;have:=y.size;have:=b.size;omega)).le (e.trans D)).cn F (by have:=ad.lt;have:=C.size;have:=u.size;have:=y.size;have:=b.size;have:=f.size;have:=t.size;have:=e.size;omega)).le J)) rfl ?_)
 refine Wg (.fB gQ (by rfl) rfl (((((au.le (b.trans f)).cn t (by have:=au.lt;have:=b.size;omega)).le (e.trans D)).cn F (by have:=au.lt;have:=b.size;have:=f.size;have:=t.size;have:=e.size;omega)).le J)) rfl ?_
 have cC:=(((((((((aq.le H).cb I (aq.rn (by omega))).le (C.trans u)).cb y (aq.rn (by have:=H.size;have:=I.size;have:=C.size;omega))).le (b.trans f)).cb t (aq.rn (by have:=H.size;have:=I.size;have:=C.size;have:=u.size;have:=y.size;have:=b.size;omega))).le (e.trans D)).cb F (aq.rn (by have:=H.size;have:=I.size;have:=C.size;have:=u.size;have:=y.size;have:=b.size;have:=f.size;have:=t.size;have:=e.size;omega))).le J)
 have cD:=(((((((((ar.le H).cb I (ar.rn (by omega))).le (C.trans u)).cb y (ar.rn (by have:=H.size;have:=I.size;have:=C.size;omega))).le (b.trans f)).cb t (ar.rn (by have:=H.size;have:=I.size;have:=C.size;have:=u.size;have:=y.size;have:=b.size;omega))).le (e.trans D)).cb F (ar.rn (by have:=H.size;have:=I.size;have:=C.size;have:=u.size;have:=y.size;have:=b.size;have:=f.size;have:=t.size;have:=e.size;omega))).le J)
 have cE:=(((((((aI.le u).cb y (aI.rn (by omega))).le (b.trans f)).cb t (aI.rn (by have:=u.size;have:=y.size;have:=b.size;omega))).le (e.trans D)).cb F (aI.rn (by have:=u.size;have:=y.size;have:=b.size;have:=f.size;have:=t.size;have:=e.size;omega))).le J)
 have cF:=(((((((aJ.le u).cb y (aJ.rn (by omega))).le (b.trans f)).cb t (aJ.rn (by have:=u.size;have:=y.size;have:=b.size;omega))).le (e.trans D)).cb F (aJ.rn (by have:=u.size;have:=y.size;have:=b.size;have:=f.size;have:=t.size;have:=e.size;omega))).le J)
 refine W.mW rfl rfl rfl rfl rfl rfl (Ef.call Yf rfl rfl (by have q:=Js (cn1:=aR) (cd1:=aS) (cn2:=aU) (cd2:=aV) cB cC.vec cD.vec (by omega) (by omega) cE.vec cF.vec (by omega) (by omega);rw[dT (show(⟨N.2.1.n,N.2.1.d⟩:Fr)=⟨N.2.1.n,N.2.1.d⟩from rfl)]at q;exact q) ?_)
 rintro _ cG ⟨rfl,P⟩
 refine⟨_,rfl,?_⟩
 refine Wn 5 rfl (Wg (Any.rd (.dec (.neq rfl rfl) (dF (fun h=>h rfl))) _) rfl (Wn 4 rfl ?_))
 have bQ:=(((((a0.le f).qy t aL (by decide) (by decide)).le (e.trans D)).qy F ax (by decide) (by decide)).le (J.trans P))
 have bR:=(((((aw.le f).cb t (aw.rn (by omega))).le (e.trans D)).cb F (aw.rn (by have:=f.size;have:=t.size;have:=e.size;omega))).le (J.trans P))
 refine W.mW rfl rfl rfl rfl rfl rfl (Ef.call Ye rfl rfl (JJ (c:=aK) (d:=cw) cG bR.vec (((bI.le D).cb F (bI.rn (by omega))).le (J.trans P)).vec bQ (((bJ.le D).qy F ax (by decide) (by decide)).le (J.trans P)) (by omega) hwb) ?_)
 rintro _ cH ⟨rfl,Q⟩
 refine⟨_,rfl,?_⟩
 refine Wn 3 rfl (Wg (.fB gQ (by rfl) rfl (((aM.le (e.trans D)).cn F (by have:=aM.lt;have:=e.size;omega)).le (J.trans (P.trans Q)))) rfl ?_)
 refine Wg (.fB gQ (by rfl) rfl (a5.le (J.trans (P.trans Q)))) rfl ?_
 have cI:=(((((a2.le f).cb t (a2.rn (by omega))).le (e.trans D)).cb F (a2.rn (by have:=f.size;have:=t.size;have:=e.size;omega))).le (J.trans (P.trans Q)))
 have cJ:=(((bL.le D).cb F (bL.rn (by omega))).le (J.trans (P.trans Q)))
 refine W.mW rfl rfl rfl rfl rfl rfl (Ef.call Yf rfl rfl (by have q:=Js (cn1:=aY) (cd1:=aZ) (cn2:=a3) (cd2:=a4) cH (((((a1.le f).cb t (a1.rn (by omega))).le (e.trans D)).cb F (a1.rn (by have:=f.size;have:=t.size;have:=e.size;omega))).le (J.trans (P.trans Q))).vec cI.vec (by omega) (by omega) (((bK.le D).cb F (bK.rn (by omega))).le (J.trans (P.trans Q))).vec cJ.vec (by omega) (by omega);rw[dT (show(⟨K.2.1.n,K.2.1.d⟩:Fr)=⟨K.2.1.n,K.2.1.d⟩from rfl)]at q;exact q) ?_)
 rintro _ cK ⟨rfl,af⟩
 refine⟨_,rfl,?_⟩
 refine Wn 5 rfl (Wg (Any.rd (.dec (.neq rfl rfl) (dF (fun h=>h rfl))) _) rfl (Wn 4 rfl (W.mW rfl rfl rfl rfl rfl rfl (Ef.call PY rfl rfl (rP a n3 cK (by omega)) ?_))))
 rintro _ cL ⟨dJ,cM,rfl,cN,dK,ah⟩
 refine⟨_,rfl,?_⟩
 refine Wn 2 rfl (W.mW rfl rfl rfl rfl rfl rfl (Ef.call Yg rfl rfl (xY a n3 cL (by omega)) ?_))
 rintro _ cO ⟨dL,cP,rfl,cQ,Y⟩
 refine⟨_,rfl,?_⟩
 refine W.mW rfl rfl rfl rfl rfl rfl (Ef.call Tu rfl rfl (by have q:=AP (c:=cM) (d:=cP) cO (cN.le Y).vec cQ.vec (by omega);rw[dT (show fw a n3=fw a n3 from rfl)]at q;exact q) ?_)
 rintro _ ay ⟨rfl,ai⟩
 refine⟨_,rfl,?_⟩
 have bS:=((((((((bM.trans D).tb F bM cy).trans J).trans P).trans Q).trans af).trans ah).trans Y).trans ai
 refine Wn 2 rfl (Nx (WC.iD rfl (Sn (Sr (Wn 1 rfl (Nx (Sq (Sr (Wn 1 rfl (Nx (WC.block ?_)))))))))))
 have bT:=(((((((((an.le (ac.trans (X.trans (T.trans H)))).cn I (by have:=an.lt;have:=ac.size;have:=X.size;have:=T.size;omega)).le (C.trans u)).cn y (by have:=an.lt;have:=ac.size;have:=X.size;have:=T.size;have:=H.size;have:=I.size;have:=C.size;omega)).le (b.trans f)).cn t (by have:=an.lt;have:=ac.size;have:=X.size;have:=T.size;have:=H.size;have:=I.size;have:=C.size;have:=u.size;have:=y.size;have:=b.size;omega)).le (e.trans D)).cn F (by have:=an.lt;have:=ac.size;have:=X.size;have:=T.size;have:=H.size;have:=I.size;have:=C.size;have:=u.size;have:=y.size;have:=b.size;have:=f.size;have:=t.size;have:=e.size;omega)).le (J.trans (P.trans (Q.trans (af.trans (ah.trans (Y.trans ai)))))))
 have bU:=(bR.le (Q.trans (af.trans (ah.trans (Y.trans ai)))))
 have bV:=(bQ.le (Q.trans (af.trans (ah.trans (Y.trans ai)))))
 refine WC.loop (ι:=Nat×(Option Addr)×Nat) (fun⟨i,Ae,ce⟩=>[(7,.int .u64 ((s:Nat):Int)),(17,.pointer (some ⟨ak,0,none⟩)),(19,.bool true),(28,.slice bv K.1.length aK),(34,.slice Ae i ce),(35,.int .i64 ((i:Nat):Int))]) (fun⟨i,Ae,ce⟩ L=>(i<=O.length)/\Le w L/\ay.heap.size<=L.heap.size/\fA L ak 27 (seed.map jM).toArray/\eU L ae.heap.size 50 sM 4 bv K.1.length aK O/\il L ae.heap.size O K.1/\eU L ay.heap.size 3 iv 1 Ae i ce (Gu O i)) (fun⟨i,Ae,ce⟩=>O.length-i) (0,none,0) ?_ ?_ ?_
 ·exact .of rfl
 ·exact⟨Nat.zero_le _,bS,Nat.le_refl _,bT,bU,bV,(eU.nil ay ay.heap.size 3 iv 1 none)⟩
 rintro⟨i,Ae,ce⟩ L ⟨hi,bW,cR,a6,a7,bX,bY⟩
 have dM:ae.heap.size<=L.heap.size:=by have:=b.size;have:=f.size;have:=t.size;have:=e.size;have:=D.size;have:=F.size;have:=J.size;have:=P.size;have:=Q.size;have:=af.size;have:=ah.size;have:=Y.size;have:=ai.size;omega
 have dN:ae.heap.size<=L.heap.size:=by have:=b.size;have:=f.size;have:=t.size;have:=e.size;have:=D.size;have:=F.size;have:=J.size;have:=P.size;have:=Q.size;have:=af.size;have:=ah.size;have:=Y.size;have:=ai.size;omega
 have cS:ay.heap.size<=L.heap.size:=by omega
 refine Sq (Sr (Wn 2 rfl (Wr (.len underlying34 rfl) rfl (Wn 1 rfl (Nx ?_)))))
 by_cases c3:((i:Nat):Int)<((K.1.length:Nat):Int)
 ·refine Cy rfl (dT c3) (Sn (Sq (WC.block (WC.region ?_))))
  have pe:=bX.2 i (by omega)
  have pea:=pe.vX;have pew:=pe.way.1;have pes:=pe.sent.1;have pet:=pe.till.1
  refine Wn 3 rfl (Wa (.fV i underlying34 rE rfl rfl (aw.vec.isSome gy (by omega)) rfl (by omega)) rfl (Wa (.gH sj (aw.vec.isSome gy (by omega)) rfl) rfl (Wr (.ik (j:=i) (o:=1) (v:= .slice ((O.getD i gu).wA) ((O.getD i gu).wN) ((O.getD i gu).wC)) ni rfl a7.vec gy (gD O gu (by omega)) rfl) rfl (Wr (.len underlying22 rfl) rfl (W.ef rfl rfl rfl ?_)))))
  refine Ef.gq (len:=1) [_] underlying47 Gx rfl (by simp[Value.cells]) rfl (by decide) (by decide) ?_
  intro bZ b0 cT aO Z
  have aO:fA b0 bZ 3 (([(((O.getD i gu).wN:Nat):Int)]).map iv).flatten.toArray:=aO
  have dO:eU b0 L.heap.size 3 iv 1 (some ⟨bZ,0,none⟩) 1 1 ([(((O.getD i gu).wN:Nat):Int)]):=aO.kL cT fT rfl rfl (by decide)
  have az:=(bY.le Z)
  refine W.ef rfl rfl rfl (Ef.mP (a:=(((O.getD i gu).wN:Nat):Int)) underlying47 Gx underlying47 fT rfl az rfl aO (by omega) (by unfold maxLen;omega) (by have:=cS;have:=Z.size;omega) ?_)
  intro cU cV dP cW aA dQ
  refine Wn 1 rfl (W.nil (E.gI (E.eY (WC.region (Wn 1 rfl (Wa (.add rfl rfl (by omega)) rfl (Wn 1 rfl (W.nil ?_))))))))
  have cX:=((a6.le Z).ch aA (az.rl (by have:=bT.lt;omega)))
  have cY:=((a7.le Z).ch aA (Apart.symm (fun q h1 h2=>by have:=(bU.row h1).2;have:=(az.row h2).1;omega)))
  have cZ:=((bX.le Z).EY bV aA (fun q hq=>by have:=(az.row hq).1;omega))
  refine E.again (i+1,cU,cV) (.of rfl) ?_ ?_
  ·exact⟨by omega,((bW.trans Z).gG aA (fun q hq=>Nat.le_trans bS.size (az.row hq).1)),by have:=cR;have:=Z.size;have:=aA.size;omega,cX,cY,cZ,(cW.cast rfl (OC (by omega)).symm)⟩
  first|omega|(simp only[];omega)
 refine Cn rfl (dF c3) (WC.exit (E.fC (E.fC (E.gW (E.eY (Sr (Wn 2 rfl (Wr (.fB FJ (by simp[hse]) rfl a6) rfl ?_))))))))
 obtain⟨pl,UU⟩:∃z,z=(lQ s seed (O.map (·.wN))):=⟨_,rfl⟩
 refine W.cl Yh rfl rfl (by have k:=Jz (c:=aK) s hse L a7.vec (by omega);rw[<-UU]at k;exact k) ?_
 rintro _ aB ⟨b2,b3,R,rfl,aC,b4,aE⟩
 have dR:=b4.1
 refine Wn 1 rfl (Nx (Sr ?_))
 have hie:i=O.length:=by omega
 refine Wn 2 rfl (Wr (.fB FJ (by simp[hse]) rfl (a6.le aE)) rfl ?_)
 refine W.cl aaM rfl rfl (by have k:=JC (c:=ce) s hse aB (bY.le aE).vec (by omega) (by rw[hie];exact UR a0 hwb);rw[show(lQ s seed ((Gu O i).map Int.toNat))=pl from(by rw[UU,hie,RQ])]at k;exact k) ?_
 rintro _ c1 ⟨b5,b6,S,rfl,aF,b7,aa⟩
 have dS:=b7.1
 refine Wn 1 rfl (Nx (Sq (Sr (Wn 1 rfl (Wr (.len underlying51 rfl) rfl ?_)))))
 have dU:pl.length<=8:=by rw[UU];exact JV
 refine Wn 1 rfl (Wr (.len underlying53 rfl) rfl (Wa (.dec (.neq rfl rfl) (dF (fun h=>h rfl))) rfl (Nx (WC.iD rfl (Sn (Sq (Sr (Wn 1 rfl (Nx (WC.block (WC.loop (ι:=Nat) (fun k=>[(19,.bool true),(36,.slice b2 pl.length b3),(37,.slice b5 pl.length b6),(38,.int .i64 ((k:Nat):Int))]) (fun k U=>(k<=pl.length)/\Le w U/\c1.heap.size<=U.heap.size/\eU U L.heap.size 59 oM 2 b2 pl.length b3 R/\iG U L.heap.size R pl/\eU U aB.heap.size 60 oM 2 b5 pl.length b6 S/\iG U aB.heap.size S pl) (fun k=>pl.length-k) 0 ?_ ?_ ?_)))))))))))
 ·exact .of rfl
 ·exact⟨Nat.zero_le _,((bW.trans aE).trans aa),Nat.le_refl _,(aC.le aa),(b4.le aa),aF,b7⟩
 rintro k U ⟨hk,b8,c4,c6,c7,c8,c9⟩
 have dV:L.heap.size<=U.heap.size:=by have:=aE.size;have:=aa.size;omega
 have dW:L.heap.size<=U.heap.size:=by have:=aE.size;have:=aa.size;omega
 have dX:aB.heap.size<=U.heap.size:=by have:=aa.size;omega
 have dY:aB.heap.size<=U.heap.size:=by have:=aa.size;omega
 refine Sq (Sr (Wn 2 rfl (Wr (.len underlying51 rfl) rfl (Wn 1 rfl (Nx ?_)))))
 by_cases c5:((k:Nat):Int)<((pl.length:Nat):Int)
 ·refine Cy rfl (dT c5) (Sn (Sq (WC.block (Sq (WC.draw [0,1,2,3,4,5,6,7,8,9,10,11,12,13,14,15,16,17,18,19,20,21,22,23,24,25] mixed (by kernel_rfl) fun da aj=>?_)))))
  have dZ:(pl.getD k q9).pts.length<=8/\(pl.getD k q9).bl.length<=8:=by rw[UU]at*;exact JH (by omega)
  have b9:=(c7.le aj)
  have pu:=b9.2 k (by omega)
  have pup:=pu.pts.1;have pub:=pu.bl.1
  have ca:=(c9.le aj)
  have pv:=ca.2 k (by omega)
  have pvp:=pv.pts.1;have pvb:=pv.bl.1
  refine Gn 2 rfl (Ga rfl (.fV k underlying51 FL rfl rfl (aC.vec.isSome iq (by omega)) rfl (by omega)) (Ga rfl (.gH Ql (aC.vec.isSome iq (by omega)) rfl) ?_))
  have cc:=(c6.le aj)
  refine Gd rfl (.ik (j:=k) (o:=0) (v:= .slice ((R.getD k iE).pA) ((R.getD k iE).pN) ((R.getD k iE).pC)) XZ rfl cc.vec iq (gD R iE (by omega)) rfl) (Gn 2 rfl (Ga rfl (.fV k underlying53 FM rfl rfl (aF.vec.isSome iq (by omega)) rfl (by omega)) (Ga rfl (.gH Qm (aF.vec.isSome iq (by omega)) rfl) ?_)))
  have cd:=(c8.le aj)
  refine Gd rfl (.ik (j:=k) (o:=0) (v:= .slice ((S.getD k iE).pA) ((S.getD k iE).pN) ((S.getD k iE).pC)) XZ rfl cd.vec iq (gD S iE (by omega)) rfl) (G.ef rfl rfl rfl rfl rfl (Ef.call aaN rfl rfl (by have q:=K9 (c:=((R.getD k iE).pC)) (d:=((S.getD k iE).pC)) da pu.pts.vec pv.pts.vec (by omega);rw[dT (show(pl.getD k q9).pts=(pl.getD k q9).pts from rfl)]at q;exact q) ?_))
  rintro _ db ⟨rfl,V⟩
  refine⟨_,rfl,?_⟩
  refine⟨fun _=>V,?_⟩
  refine Gn 4 rfl (jN rfl (.fV k underlying51 FL rfl rfl (aC.vec.isSome iq (by omega)) rfl (by omega)) (jN rfl (.gH FN (aC.vec.isSome iq (by omega)) rfl) ?_))
  have cf:=(cc.le V)
  refine pz rfl (.ik (j:=k) (o:=1) (v:= .slice ((R.getD k iE).bA) ((R.getD k iE).bN) ((R.getD k iE).bC)) ND rfl cf.vec iq (gD R iE (by omega)) rfl) (Gn 2 rfl (jN rfl (.fV k underlying53 FM rfl rfl (aF.vec.isSome iq (by omega)) rfl (by omega)) (jN rfl (.gH FO (aF.vec.isSome iq (by omega)) rfl) ?_)))
  have cg:=(cd.le V)
  refine pz rfl (.ik (j:=k) (o:=1) (v:= .slice ((S.getD k iE).bA) ((S.getD k iE).bN) ((S.getD k iE).bC)) ND rfl cg.vec iq (gD S iE (by omega)) rfl) (G.mW rfl rfl rfl rfl rfl rfl rfl rfl (Ef.call aaO rfl rfl (by have q:=JI (c:=((R.getD k iE).bC)) (d:=((S.getD k iE).bC)) db (pu.bl.le V).vec (pv.bl.le V).vec (by omega);rw[dT (show(pl.getD k q9).bl=(pl.getD k q9).bl from rfl)]at q;exact q) ?_))
  rintro _ d0 ⟨rfl,ab⟩
  refine⟨_,rfl,?_⟩
  refine⟨fun _=>ab,?_⟩
  refine Gn 2 rfl (G.nil (E.eY (WC.iD rfl (WC.skip (E.gI (E.eY (WC.region (Wn 1 rfl (Wa (.add rfl rfl (by omega)) rfl (Wn 1 rfl (W.nil (E.again (k+1) (.of rfl) ?_ ?_))))))))))))
  ·exact⟨by omega,(((b8.trans aj).trans V).trans ab),by have:=c4;have:=aj.size;have:=V.size;have:=ab.size;omega,(cf.le ab),(b9.le (V.trans ab)),(cg.le ab),(ca.le (V.trans ab))⟩
  first|omega|(simp only[];omega)
 refine Cn rfl (dF c5) (WC.exit (E.fC (E.fC (E.gW (E.eY (Sr (Wn 2 rfl (Nx (Rt (E.fu rfl rfl ?_))))))))))
 exact⟨rfl,b8⟩
end Go.Proofs.YtkaedikifgpkeaaGreatDoor

