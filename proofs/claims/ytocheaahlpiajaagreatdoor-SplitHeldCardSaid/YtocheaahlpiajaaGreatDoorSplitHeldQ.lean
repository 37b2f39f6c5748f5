/- SplitHeld: for every input the law answers true and leaves its arguments as they were. -/
import Derived.Test.YtocheaahlpiajaaGreatDoorSplitHeldP
import Derived.Shelf.Strconv.Itoa3
import Derived.Lib.ItoaLen
import Derived.Lib.AppendIntMem
set_option linter.unusedVariables false
set_option linter.unusedSimpArgs false
set_option maxRecDepth 20000
namespace Go.Proofs
open Go.Shelf
def Tryz.laysM171_ren:Go.Shelf.Ren:=⟨fun|171=>241|243=>294|246=>329|283=>350|284=>351|285=>352|286=>353|129=>326|317=>360|318=>361|319=>362|320=>363|337=>365|338=>366|n=>n,fun|3=>3|9=>9|2=>2|4=>4|171=>398|0=>0|53=>27|37=>26|5=>5|173=>400|212=>410|51=>273|20=>20|213=>411|46=>287|232=>29|233=>413|n=>n,fun|17=>2|18=>4|19=>5|n=>n⟩
theorem Tryz.laysM171:Go.Proofs.LaysM.n171 prog Tryz.laysM171_ren:={
  mixed:=by kernel_rfl
  f129:=func326.trans (congrArg some (by kernel_rfl))
  f171:=func241.trans (congrArg some (by kernel_rfl))
  f243:=func294.trans (congrArg some (by kernel_rfl))
  f246:=func329.trans (congrArg some (by kernel_rfl))
  f283:=func350.trans (congrArg some (by kernel_rfl))
  f284:=func351.trans (congrArg some (by kernel_rfl))
  f285:=func352.trans (congrArg some (by kernel_rfl))
  f286:=func353.trans (congrArg some (by kernel_rfl))
  f317:=func360.trans (congrArg some (by kernel_rfl))
  f318:=func361.trans (congrArg some (by kernel_rfl))
  f319:=func362.trans (congrArg some (by kernel_rfl))
  f320:=func363.trans (congrArg some (by kernel_rfl))
  f337:=func365.trans (congrArg some (by kernel_rfl))
  f338:=func366.trans (congrArg some (by kernel_rfl))
  t0:=underlying0
  a0:=Tryz.isAgg0
  z0:=Tryz.sizeOf0
  v0:=Tryz.zeroValue0
  t2:=underlying2
  a2:=Tryz.isAgg2
  z2:=Tryz.sizeOf2
  v2:=Tryz.zeroValue2
  t3:=underlying3
  a3:=Tryz.isAgg3
  z3:=Tryz.sizeOf3
  v3:=Tryz.zeroValue3
  t4:=underlying4
  a4:=Tryz.isAgg4
  z4:=Tryz.sizeOf4
  v4:=Tryz.zeroValue4
  t5:=underlying5
  a5:=Tryz.isAgg5
  z5:=Tryz.sizeOf5
  v5:=Tryz.zeroValue5
  t9:=underlying9
  a9:=Tryz.isAgg9
  z9:=Tryz.sizeOf9
  v9:=Tryz.zeroValue9
  t20:=underlying20
  a20:=Tryz.isAgg20
  z20:=Tryz.sizeOf20
  v20:=Tryz.zeroValue20
  t37:=underlying26
  a37:=Tryz.isAgg26
  z37:=Tryz.sizeOf26
  v37:=Tryz.zeroValue26
  t46:=underlying287
  a46:=Tryz.isAgg287
  z46:=Tryz.sizeOf287
  v46:=Tryz.zeroValue287
  t51:=underlying273
  a51:=Tryz.isAgg273
  z51:=Tryz.sizeOf273
  v51:=Tryz.zeroValue273
  t53:=underlying27
  a53:=Tryz.isAgg27
  z53:=Tryz.sizeOf27
  v53:=Tryz.zeroValue27
  t171:=underlying398
  a171:=Tryz.isAgg398
  z171:=Tryz.sizeOf398
  v171:=Tryz.zeroValue398
  t173:=underlying400
  a173:=Tryz.isAgg400
  z173:=Tryz.sizeOf400
  v173:=Tryz.zeroValue400
  t212:=underlying410
  a212:=Tryz.isAgg410
  z212:=Tryz.sizeOf410
  v212:=Tryz.zeroValue410
  t213:=underlying411
  a213:=Tryz.isAgg411
  z213:=Tryz.sizeOf411
  t232:=underlying29
  a232:=Tryz.isAgg29
  z232:=Tryz.sizeOf29
  v232:=Tryz.zeroValue29
  t233:=underlying413
  a233:=Tryz.isAgg413
  z233:=Tryz.sizeOf413
  v233:=Tryz.zeroValue413
  g17:=by kernel_rfl
  g18:=by kernel_rfl
  g19:=by kernel_rfl
  i0:=by kernel_rfl
  i2:=by kernel_rfl
  i3:=by kernel_rfl
  i4:=by kernel_rfl
  i5:=by kernel_rfl
  i9:=by kernel_rfl
  i20:=by kernel_rfl
  i37:=by kernel_rfl
  i46:=by kernel_rfl
  i51:=by kernel_rfl
  i53:=by kernel_rfl
  i171:=by kernel_rfl
  i173:=by kernel_rfl
  i212:=by kernel_rfl
  i232:=by kernel_rfl
  i233:=by kernel_rfl
  m17:=by kernel_rfl
  m18:=by kernel_rfl
  m19:=by kernel_rfl}
end Go.Proofs
namespace Go.Proofs.YtocheaahlpiajaaGreatDoor
open Tryz
open Go Go.Sx Go.Nsp
def Tab (w:World):Prop:=Lib.TabIs prog w "internal/strconv.uint64pow10" .u64 Lib.pow10Tab
theorem Tab.le {w w':World}(h:Tab w)(hl:Le w w'):Tab w':=Lib.tabBelow_of_tabIs h w' hl
theorem itoa_len {p:Nat}(h:p<1000000000):(Lib.itoa ((p:Nat):Int)).length<=21:=Lib.itoa_length_le _ (by omega) (by omega)
theorem itoa_ok (p:Nat)(w:World)(hT:Tab w)(h0:0<=p)(h1:p<1000000000):Calls prog 241 #[.int .i64 ((p:Nat):Int)] w fun r w'=>r= .returned (.string ⟨(Lib.itoa ((p:Nat):Int)).toArray⟩)/\Le w w':=
  (Any.strconv_Itoa Tryz.laysM171 ((p:Nat):Int) (by omega) (by omega) w hT).mono (by
    rintro _ w' ⟨rfl,k,os,rfl⟩
    exact⟨rfl,Lib.below_grow _ w (Nat.le_refl _) k os⟩)
def textF (p q:Nat):List UInt8:=if q=1 then Lib.itoa ((p:Nat):Int)else Lib.itoa ((p:Nat):Int)++([47]:List UInt8)++Lib.itoa ((q:Nat):Int)
theorem digs_lots:digs 1000000000=[1000000000]:=by rw[digs_pos (by decide),show 1000000000/B=0 from rfl,digs_zero];rfl
theorem ntext_ok {A:Option Addr}{n c p:Nat}(w:World)(hT:Tab w)(hV:Vec w dv 1 A n (digs p))(hn:n<=10000)(hp1:p<1000000000):Calls prog 166 #[.slice A n c] w fun r w'=>r= .returned (.string ⟨(Lib.itoa ((p:Nat):Int)).toArray⟩)/\Le w w':=by
 have hl:=hV.1
 refine enter func166 rfl rfl ?_
 have h:=Le.refl w
 refine Sr (Wn 1 rfl (Nx (Sr (Wn 1 rfl (W.cl go211 rfl rfl (ntaken_ok w (hV.le h) (by omega)) ?_)))))
 rintro _ m ⟨rfl,o⟩
 refine Wn 1 rfl (Nx (Sr (Wn 1 rfl (Nx (WC.block (WC.loop (ι:=Nat) (fun k=>[(0,.slice A n c),(3,.string ⟨([]:List UInt8).toArray⟩)]) (fun k d=>Le w d/\m.heap.size<=d.heap.size) (fun k=>k) 0 ?_ ?_ ?_))))))
 ·exact .of rfl
 ·exact⟨(h.trans o),Nat.le_refl _⟩
 rintro k d ⟨s,J⟩
 refine WC.block (Sr (Wn 1 rfl (W.ef rfl rfl rfl (Ef.buildSliceV (len:=1) [_] underlying59 el273 rfl (by simp[Value.cells]) rfl (by decide) (by decide) ?_))))
 intro i e t f u
 have j:=s.trans u
 have f:Blk e i 273 (([1000000000]).map dv).flatten.toArray:=f
 have x:OVec e d.heap.size 273 dv 1 (some ⟨i,0,none⟩) 1 1 ([1000000000]):=f.ovec t dv_row rfl rfl (by decide)
 have y:=x.cast (m':=1) (ys:=(digs 1000000000)) (rfl) (digs_lots.symm)
 refine W.cl go209 rfl rfl (ndivmod_ok e (hV.le j) y.vec (by omega) (by omega) (by omega)) ?_
 rintro _ z ⟨K,L,N,O,rfl,P,C,D⟩
 refine Wn 7 rfl (Nx (Sr (Wn 1 rfl (W.cl go240 rfl rfl (nint_ok z C.vec (by omega)) ?_))))
 rintro _ F ⟨rfl,H⟩
 have l:=(j.trans D).trans H
 refine Wn 5 rfl (Nx (Sr (Wn 1 rfl (W.cl go241 rfl rfl (itoa_ok (p%1000000000) F (hT.le l) (by omega) (by omega)) ?_))))
 rintro _ Q ⟨rfl,I⟩
 refine Wn 1 rfl (Nx (Sq (Sr (Wn 1 rfl (Wr (.len underlying59 rfl) rfl (Wn 1 rfl (Nx (Cy rfl (dT (by rw[Nat.div_eq_of_lt hp1,digs_zero];rfl)) ?_))))))))
 refine Sr (Wn 2 rfl (Wa (.addStr (a:=Lib.itoa (((p%1000000000):Nat):Int)) (b:=([]:List UInt8)) rfl rfl (Nat.le_trans (itoa_len (by omega)) (by decide)) (by decide)) rfl (Wn 1 rfl (Nx (Rt (E.thenR (E.blkR (E.thenR (E.blkR (E.retG1 rfl rfl ?_))))))))))
 exact⟨congrArg (fun v=>Ending.returned (Value.string ⟨List.toArray v⟩)) (by simp[show p%1000000000=p from Nat.mod_eq_of_lt hp1]),(l.trans I)⟩

theorem ftext_ok {An Ad:Option Addr}{nn cn nd cd p q:Nat}(w:World)(hT:Tab w)(hn:Vec w dv 1 An nn (digs p))(hd:Vec w dv 1 Ad nd (digs q))(bn:nn<=10000)(bd:nd<=10000)(hok:okB p q=true)(hp1:p<1000000000)(hq1:q<1000000000):Calls prog 71 #[.agg #[.slice An nn cn,.slice Ad nd cd]] w fun r w'=>r= .returned (.string ⟨(textF p q).toArray⟩)/\Le w w':=by
 have hln:=hn.1;have hld:=hd.1
 have T:=digs_len_one (d:=1) (by decide)
 refine enter func71 rfl rfl ?_
 have n:=Le.refl w
 refine Sr (W.ef rfl rfl rfl (Ef.boxA rfl fun o s H (t:Blk s o 61 #[.slice An nn cn,.slice Ad nd cd]) I=>?_))
 have i:=n.trans I
 refine Wn 1 rfl (Nx (Sr (Wr (.loadAll ag61 (by rfl) rfl t) rfl ?_)))
 refine W.cl go165 rfl rfl (ftaken_yes s (hn.le i) (hd.le i) (by omega) (by omega) hok) ?_
 rintro _ U ⟨rfl,u⟩
 refine W.sA sz61 rfl rfl (t.le u) ?_
 intro J j K
 have j:Blk J o 61 #[.slice An nn cn,.slice Ad nd cd]:=j
 refine Nx (Sq (Sq (WC.draw [0,1,2,3,4] mixed (by kernel_rfl) fun L x=>(Ga rfl (.field0 fa61_1 rfl) ?_))))
 have k:=(j.le x)
 refine Gd rfl (.loadB (v:= .slice Ad nd cd) na59 rfl k rfl) (G.ef rfl rfl rfl rfl rfl (Ef.call go111 rfl rfl (fone_ok L) ?_))
 rintro _ N ⟨V,X,rfl,O,c⟩
 refine⟨_,rfl,?_⟩
 refine⟨fun _=>c,?_⟩
 have y:=(((i.trans u).tb K n H).trans x).trans c
 refine G.ef rfl rfl rfl rfl rfl (Ef.call go109 rfl rfl (ncmp_ok N (hd.le y) O.vec (by omega) (by omega)) ?_)
 rintro _ P ⟨rfl,e⟩
 refine⟨_,rfl,?_⟩
 refine⟨fun _=>e,?_⟩
 have f:=y.trans e
 refine Gn 1 rfl (G.nil (E.thenN ?_))
 by_cases z:(cmpN q 1)=0
 ·refine Cy rfl (dT z) (Sr (Wa (.field0 fa61_0 rfl) rfl (Wr (.loadB (v:= .slice An nn cn) na59 rfl (k.le (c.trans e)) rfl) rfl (W.cl go166 rfl rfl (ntext_ok P (hT.le f) (hn.le f) (by omega) (by omega)) ?_))))
  rintro _ Y ⟨rfl,Q⟩
  refine Wn 1 rfl (Nx (Rt (E.thenR (E.retG1 rfl rfl ?_))))
  exact⟨congrArg (fun v=>Ending.returned (Value.string ⟨List.toArray v⟩)) (by unfold textF;first|rw[if_pos (cmpN_eq.1 (by assumption))]|rw[if_neg (fun h=>absurd (cmpN_eq.2 h) (by assumption))]),(f.trans Q)⟩
 refine Cn rfl (dF z) (Sn (Sq (WC.draw [0,1,4,5,2,3,6,7,8] mixed (by kernel_rfl) fun R A=>?_)))
 have l:=f.trans A
 refine Ga rfl (.field0 fa61_0 rfl) ?_
 have C:=(k.le (c.trans (e.trans A)))
 refine Gd rfl (.loadB (v:= .slice An nn cn) na59 rfl C rfl) (Ga rfl (.field0 fa61_1 rfl) (Gd rfl (.loadB (v:= .slice Ad nd cd) na59 rfl C rfl) (G.ef rfl rfl rfl rfl rfl (Ef.call go166 rfl rfl (ntext_ok R (hT.le l) (hn.le l) (by omega) (by omega)) ?_))))
 rintro _ S ⟨rfl,D⟩
 refine⟨_,rfl,?_⟩
 refine⟨fun _=>D,?_⟩
 have m:=l.trans D
 refine Ga rfl (.addStr (a:=Lib.itoa ((p:Nat):Int)) (b:=([47]:List UInt8)) rfl rfl (Nat.le_trans (itoa_len (by omega)) (by decide)) (by decide)) (G.ef rfl rfl rfl rfl rfl (Ef.call go166 rfl rfl (ntext_ok S (hT.le m) (hd.le m) (by omega) (by omega)) ?_))
 rintro _ Z ⟨rfl,F⟩
 refine⟨_,rfl,?_⟩
 refine⟨fun _=>F,?_⟩
 refine Ga rfl (.addStr (a:=(Lib.itoa ((p:Nat):Int))++([47]:List UInt8)) (b:=Lib.itoa ((q:Nat):Int)) rfl rfl (by have:=itoa_len (p:=p) (by omega);simp only[List.length_append,List.length_cons,List.length_nil];omega) (Nat.le_trans (itoa_len (by omega)) (by decide))) ?_
 refine Gn 1 rfl (G.nil (E.thenN (Rt (E.retG1 rfl rfl ?_))))
 exact⟨congrArg (fun v=>Ending.returned (Value.string ⟨List.toArray v⟩)) (by unfold textF;first|rw[if_pos (cmpN_eq.1 (by assumption))]|rw[if_neg (fun h=>absurd (cmpN_eq.2 h) (by assumption))]),(m.trans F)⟩
end Go.Proofs.YtocheaahlpiajaaGreatDoor

namespace Go.Proofs.YtocheaahlpiajaaGreatDoor
open Tryz
open Go Go.Sx Go.Hsp Go.Num Go.Osp Go.Gsp Go.Nsp Go.Msp Go.Rtp
set_option maxRecDepth 20000
def sE (c f t r m:Int):Gsp.Edge:=⟨f,t,c,r,⟨0,0,5,1,m⟩⟩
def sG:List Gsp.Edge:=[sE 0 0 1 99 60,sE 1 0 1 49 49]
def sM0:MF:=fun _=>none
structure Sm1 (b:List Prt×Fr×Int):Prop where
  len:b.1.length=2
  amt:(b.1.getD 0 noPrt).amt=40
  w0:(b.1.getD 0 noPrt).way=[sE 0 0 1 99 60]
  w1:(b.1.getD 1 noPrt).way=[sE 0 0 1 99 60]
  on:b.2.1.n=1
  od:b.2.1.d=5
  e:b.2.2=0
  t:totP b.1=80
  ok:b.1.length<=8/\∀p∈b.1,∀s∈p.sent,0<=s/\s<=1125899906842624
theorem sp1:Sm1 (splitG sG sM0 0 1 80 50 2):=⟨by decide+kernel,by decide+kernel,by decide+kernel,by decide+kernel,by decide+kernel,by decide+kernel,by decide+kernel,by decide+kernel,by decide+kernel⟩
theorem sp2:(splitG sG sM0 0 1 80 50 1).2.2=19:=by decide+kernel
theorem sp3:(splitG sG sM0 0 1 80 50 0).2.2=1:=by decide+kernel
theorem sp4:(splitG sG sM0 0 0 80 50 2).2.2=1:=by decide+kernel
structure Sm5 (b:List Prt×Fr×Int):Prop where
  len:b.1.length=1
  w0:(b.1.getD 0 noPrt).way=[sE 0 0 1 99 60]
  on:b.2.1.n=7
  od:b.2.1.d=10
  e:b.2.2=0
theorem sp5:Sm5 (tryG sG sM0 0 1 30 50 1):=⟨by decide+kernel,by decide+kernel,by decide+kernel,by decide+kernel,by decide+kernel⟩
theorem stx3:textF 1 5=[49,47,53]:=by simp[textF,Lib.itoa,Lib.decDigits]
theorem stx4:textF 7 10=[55,47,49,48]:=by simp[textF,Lib.itoa,Lib.decDigits]
theorem plansL_nil (s:Nat)(seed:List Byte):plansL s seed []=[]:=by
  unfold plansL
  split<;>rfl
set_option maxHeartbeats 4000000 in
theorem small39_ok (w:World) (hT:Tab w):Calls prog 13 #[] w fun r w'=>r= .returned (.bool true)/\Le w w':=by
 have cC:=digs_len_one (d:=1) (by decide);have cD:=digs_len_one (d:=5) (by decide);have cE:=digs_len_one (d:=7) (by decide);have cF:=digs_len_one (d:=10) (by decide)
 refine enter func13 rfl rfl (Sr (Wn 1 rfl (Nx (Sr (W.cl go43 rfl rfl (edge39_ok 0 0 1 99 60 w) ?_)))))
 rintro _ bo ⟨rfl,bp⟩
 refine W.cl go43 rfl rfl (edge39_ok 1 0 1 49 49 bo) ?_
 rintro _ bq ⟨rfl,bs⟩
 refine W.ef rfl rfl rfl (Ef.buildSliceV (len:=2) [_,_] underlying32 el81 rfl (by simp[Value.cells,edgeV_row.len]) rfl (by decide) (by decide) ?_)
 intro aH ap bt aq bu
 have aq:Blk ap aH 81 (([(sE 0 0 1 99 60),(sE 1 0 1 49 49)]).map edgeV).flatten.toArray:=aq
 have aI:OVec ap bq.heap.size 81 edgeV 9 (some ⟨aH,0,none⟩) 2 2 ([(sE 0 0 1 99 60),(sE 1 0 1 49 49)]):=aq.ovec bt edgeV_row rfl rfl (by decide)
 have o4:=aI.cast (m':=2) (ys:=sG) (rfl) (rfl)
 refine Wn 1 rfl (Nx (Sr (W.cl go64 rfl rfl (new_mind ap) ?_)))
 rintro _ bv ⟨cG,cH,rfl,ar,aJ⟩
 refine Wn 1 rfl (Nx (Sq (Sr (Wn 1 rfl (Wa (.dec (.isNilP (by kernel_rfl) rfl) rfl) rfl (Nx (WC.condF rfl (Sn (Sr (Wn 2 rfl ?_))))))))))
 have f6:=(o4.le aJ)
 obtain⟨C,af⟩:∃z,z=(splitG sG (fun _=>none:MF) 0 1 80 50 2):=⟨_,rfl⟩
 have aK:=splitG_len (g:=sG) (m:=(fun _=>none:MF)) (fr:=0) (to:=1) (a:=80) (x:=50) (n:=2) (show GoodM (fun _=>none)from none_good)
 rw[<-af]at aK;unfold LenF at aK
 refine W.cl go30 rfl rfl ((by have k:=spbest_ok (c:=2) 0 1 80 50 2 bv ar f6.vec (by omega) (by decide);rw[<-af]at k;exact k)) ?_
 rintro _ cI ⟨bw,aL,y,aM,aO,aP,aQ,rfl,D,aR,V,X,cJ,ad⟩
 have L7:=(((((Le.refl w).trans bp).trans bs).trans bu).trans aJ).trans ad
 have cK:=aR.1
 have F:Sm1 C:=af▸sp1
 have F:Sm1 C:=af▸sp1
 refine Wn 1 rfl (Wa (.extract (v:= .slice bw C.1.length aL) rfl rfl) rfl (Wa (.extract (v:= .agg #[.slice aM ((digs C.2.1.n).length) aO,.slice aP ((digs C.2.1.d).length) aQ]) rfl rfl) rfl (Wa (.extract (v:= .int .i64 (C.2.2)) rfl rfl) rfl (W.ef rfl rfl rfl (Ef.allocA z61 ?_)))))
 intro aS bx aT ah s
 have ah:Blk bx aS 61 #[.slice none 0 0,.slice none 0 0]:=ah
 refine Wn 1 rfl (W.sA sz61 rfl rfl ah ?_)
 intro aU U u
 have U:Blk aU aS 61 #[.slice aM ((digs C.2.1.n).length) aO,.slice aP ((digs C.2.1.d).length) aQ]:=U
 refine Wn 1 rfl (Nx (Sr (Wn 2 rfl ?_)))
 have au:=((ar.le (ad.trans s)).ch u (fun q hqq hF=>by cases hqq;have:=ar.lt hF;have:=ad.size;have:=aT;omega))
 have av:=((f6.le (ad.trans s)).cb u (f6.rn (by have:=ad.size;omega)))
 obtain⟨Y,ai⟩:∃z,z=(splitG sG (fun _=>none:MF) 0 1 80 50 1):=⟨_,rfl⟩
 have aV:=splitG_len (g:=sG) (m:=(fun _=>none:MF)) (fr:=0) (to:=1) (a:=80) (x:=50) (n:=1) (show GoodM (fun _=>none)from none_good)
 rw[<-ai]at aV;unfold LenF at aV
 refine W.cl go30 rfl rfl ((by have k:=spbest_ok (c:=2) 0 1 80 50 1 aU au av.vec (by omega) (by decide);rw[<-ai]at k;exact k)) ?_
 rintro _ cL ⟨bz,bA,cM,bB,bC,bD,bE,rfl,cN,bF,cO,cP,cQ,f⟩
 have aW:=((L7.trans s).tb u L7 aT).trans f
 have cR:=bF.1
 have aX:Y.2.2=19:=ai▸sp2
 have aX:Y.2.2=19:=ai▸sp2
 refine Wn 1 rfl (Wa (.extract (v:= .slice bz Y.1.length bA) rfl rfl) rfl (Wa (.extract (v:= .agg #[.slice bB ((digs Y.2.1.n).length) bC,.slice bD ((digs Y.2.1.d).length) bE]) rfl rfl) rfl (Wa (.extract (v:= .int .i64 (Y.2.2)) rfl rfl) rfl (W.ef rfl rfl rfl (Ef.allocA z61 ?_)))))
 intro bG bH aY aj i
 have aj:Blk bH bG 61 #[.slice none 0 0,.slice none 0 0]:=aj
 refine Wn 1 rfl (W.sA sz61 rfl rfl aj ?_)
 intro bI cS l
 refine Wn 1 rfl (Nx (Sr (Wn 2 rfl ?_)))
 have aw:=((au.le (f.trans i)).ch l (fun q hqq hF=>by cases hqq;have:=au.lt hF;have:=f.size;have:=aY;omega))
 have ax:=((av.le (f.trans i)).cb l (av.rn (by have:=f.size;omega)))
 obtain⟨Z,ak⟩:∃z,z=(splitG sG (fun _=>none:MF) 0 1 80 50 0):=⟨_,rfl⟩
 have aZ:=splitG_len (g:=sG) (m:=(fun _=>none:MF)) (fr:=0) (to:=1) (a:=80) (x:=50) (n:=0) (show GoodM (fun _=>none)from none_good)
 rw[<-ak]at aZ;unfold LenF at aZ
 refine W.cl go30 rfl rfl ((by have k:=spbest_ok (c:=2) 0 1 80 50 0 bI aw ax.vec (by omega) (by decide);rw[<-ak]at k;exact k)) ?_
 rintro _ cT ⟨bJ,bK,cU,bL,bM,bN,bO,rfl,cV,bP,cW,cX,cY,h⟩
 have a0:=((aW.trans i).tb l aW aY).trans h
 have cZ:=bP.1
 have a1:Z.2.2=1:=ak▸sp3
 have a1:Z.2.2=1:=ak▸sp3
 refine Wn 1 rfl (Wa (.extract (v:= .slice bJ Z.1.length bK) rfl rfl) rfl (Wa (.extract (v:= .agg #[.slice bL ((digs Z.2.1.n).length) bM,.slice bN ((digs Z.2.1.d).length) bO]) rfl rfl) rfl (Wa (.extract (v:= .int .i64 (Z.2.2)) rfl rfl) rfl (W.ef rfl rfl rfl (Ef.allocA z61 ?_)))))
 intro bQ bR a2 al H
 have al:Blk bR bQ 61 #[.slice none 0 0,.slice none 0 0]:=al
 refine Wn 1 rfl (W.sA sz61 rfl rfl al ?_)
 intro bS c0 I
 refine Wn 1 rfl (Nx (Sr (Wn 2 rfl ?_)))
 have ay:=((aw.le (h.trans H)).ch I (fun q hqq hF=>by cases hqq;have:=aw.lt hF;have:=h.size;have:=a2;omega))
 have az:=((ax.le (h.trans H)).cb I (ax.rn (by have:=h.size;omega)))
 obtain⟨b4,am⟩:∃z,z=(splitG sG (fun _=>none:MF) 0 0 80 50 2):=⟨_,rfl⟩
 have a3:=splitG_len (g:=sG) (m:=(fun _=>none:MF)) (fr:=0) (to:=0) (a:=80) (x:=50) (n:=2) (show GoodM (fun _=>none)from none_good)
 rw[<-am]at a3;unfold LenF at a3
 refine W.cl go30 rfl rfl ((by have k:=spbest_ok (c:=2) 0 0 80 50 2 bS ay az.vec (by omega) (by decide);rw[<-am]at k;exact k)) ?_
 rintro _ c1 ⟨bT,bU,c2,bV,bW,bX,bY,rfl,c3,bZ,c4,c5,c6,A⟩
 have a4:=((a0.trans H).tb I a0 a2).trans A
 have c7:=bZ.1
 have a5:b4.2.2=1:=am▸sp4
 have a5:b4.2.2=1:=am▸sp4
 refine Wn 1 rfl (Wa (.extract (v:= .slice bT b4.1.length bU) rfl rfl) rfl (Wa (.extract (v:= .agg #[.slice bV ((digs b4.2.1.n).length) bW,.slice bX ((digs b4.2.1.d).length) bY]) rfl rfl) rfl (Wa (.extract (v:= .int .i64 (b4.2.2)) rfl rfl) rfl (W.ef rfl rfl rfl (Ef.allocA z61 ?_)))))
 intro b0 b6 a6 an L
 have an:Blk b6 b0 61 #[.slice none 0 0,.slice none 0 0]:=an
 refine Wn 1 rfl (W.sA sz61 rfl rfl an ?_)
 intro b7 c8 N
 refine Wn 1 rfl (Nx (Sr (Wn 2 rfl ?_)))
 have aA:=((ay.le (A.trans L)).ch N (fun q hqq hF=>by cases hqq;have:=ay.lt hF;have:=A.size;have:=a6;omega))
 have aB:=((az.le (A.trans L)).cb N (az.rn (by have:=A.size;omega)))
 obtain⟨K,ao⟩:∃z,z=(tryG sG (fun _=>none:MF) 0 1 30 50 1):=⟨_,rfl⟩
 have a7:=tryG_len (g:=sG) (m:=(fun _=>none:MF)) (fr:=0) (to:=1) (a:=30) (x:=50) (n:=1) (show GoodM (fun _=>none)from none_good)
 rw[<-ao]at a7;unfold LenF at a7
 refine W.cl go28 rfl rfl ((by have k:=sptry_ok (c:=2) 0 1 30 50 1 b7 aA aB.vec (by omega) (by decide);rw[<-ao]at k;exact k)) ?_
 rintro _ c9 ⟨b8,b9,S,a8,a9,ba,bb,rfl,aa,bc,bd,be,da,J⟩
 have bf:=((a4.trans L).tb N a4 a6).trans J
 have db:=bc.1
 have Q:Sm5 K:=ao▸sp5
 have Q:Sm5 K:=ao▸sp5
 refine Wn 1 rfl (Wa (.extract (v:= .slice b8 K.1.length b9) rfl rfl) rfl (Wa (.extract (v:= .agg #[.slice a8 ((digs K.2.1.n).length) a9,.slice ba ((digs K.2.1.d).length) bb]) rfl rfl) rfl (Wa (.extract (v:= .int .i64 (K.2.2)) rfl rfl) rfl (W.ef rfl rfl rfl (Ef.allocA z61 ?_)))))
 intro bg ca bh ae O
 have ae:Blk ca bg 61 #[.slice none 0 0,.slice none 0 0]:=ae
 refine Wn 1 rfl (W.sA sz61 rfl rfl ae ?_)
 intro bi aC P
 have aC:Blk bi bg 61 #[.slice a8 ((digs K.2.1.n).length) a9,.slice ba ((digs K.2.1.d).length) bb]:=aC
 have bj:=(bf.trans O).tb P bf bh
 refine Wn 1 rfl (Nx (Sq (Sr ?_)))
 have l1:=F.len;have l5:=Q.len
 have aE:=((((((((((aR.le s).chB u ah (by decide) (by decide)).le (f.trans i)).chB l aj (by decide) (by decide)).le (h.trans H)).chB I al (by decide) (by decide)).le (A.trans L)).chB N an (by decide) (by decide)).le (J.trans O)).chB P ae (by decide) (by decide))
 have pa:=aE.2 0 (by omega)
 have paa:=pa.amt;have paw:=pa.way.1;have pas:=pa.sent.1;have pat:=pa.till.1
 have pb:=aE.2 1 (by omega)
 have pba:=pb.amt;have pbw:=pb.way.1;have pbs:=pb.sent.1;have pbt:=pb.till.1
 have cc:=((bc.le O).chB P ae (by decide) (by decide))
 have pc:=cc.2 0 (by omega)
 have pca:=pc.amt;have pcw:=pc.way.1;have pcs:=pc.sent.1;have pct:=pc.till.1
 have dc:(C.1.getD 0 noPrt).way.length=1:=by rw[F.w0];rfl
 have dd:(C.1.getD 1 noPrt).way.length=1:=by rw[F.w1];rfl
 have de:(K.1.getD 0 noPrt).way.length=1:=by rw[Q.w0];rfl
 refine Wn 1 rfl (Wr (.len underlying31 rfl) rfl (Wa (.dec (.neq rfl rfl) (dF (by omega))) rfl (Wn 2 rfl (Wg (Any.rd (.idxS (0) underlying31 sz34 rfl rfl (D.vec.isSome prV_row (by omega)) (rfl) (by omega)) _) rfl (Wg (Any.rd (.vfield fa34_1 (D.vec.isSome prV_row (by omega)) rfl) _) rfl ?_)))))
 have ab:=((((((((((D.le s).cb u (D.rn (by omega))).le (f.trans i)).cb l (D.rn (by have:=s.size;have:=u.size;have:=f.size;omega))).le (h.trans H)).cb I (D.rn (by have:=s.size;have:=u.size;have:=f.size;have:=i.size;have:=l.size;have:=h.size;omega))).le (A.trans L)).cb N (D.rn (by have:=s.size;have:=u.size;have:=f.size;have:=i.size;have:=l.size;have:=h.size;have:=H.size;have:=I.size;have:=A.size;omega))).le (J.trans O)).cb P (D.rn (by have:=s.size;have:=u.size;have:=f.size;have:=i.size;have:=l.size;have:=h.size;have:=H.size;have:=I.size;have:=A.size;have:=L.size;have:=N.size;have:=J.size;omega)))
 refine Wg (.vcell (j:=0) (o:=1) (v:= .slice ((y.getD 0 noPaR).wA) ((y.getD 0 noPaR).wN) ((y.getD 0 noPaR).wC)) na32 rfl ab.vec prV_row (getS y noPaR (by omega)) rfl) rfl (Wg (.len underlying32 rfl) rfl (Wg (Any.rd (.dec (.neq rfl rfl) (dF (by omega))) _) rfl (Wn 3 rfl (Wg (Any.rd (.idxS (1) underlying31 sz34 rfl rfl (D.vec.isSome prV_row (by omega)) (rfl) (by omega)) _) rfl (Wg (Any.rd (.vfield fa34_1 (D.vec.isSome prV_row (by omega)) rfl) _) rfl ?_)))))
 refine Wg (.vcell (j:=1) (o:=1) (v:= .slice ((y.getD 1 noPaR).wA) ((y.getD 1 noPaR).wN) ((y.getD 1 noPaR).wC)) na32 rfl ab.vec prV_row (getS y noPaR (by omega)) rfl) rfl (Wg (.len underlying32 rfl) rfl (Wg (Any.rd (.dec (.neq rfl rfl) (dF (by omega))) _) rfl (Wn 3 rfl (Wg (.len underlying31 rfl) rfl (Wg (Any.rd (.dec (.neq rfl rfl) (dF (by omega))) _) rfl ?_)))))
 refine Wn 3 rfl (Wg (Any.rd (.idxS (0) underlying31 sz34 rfl rfl (aa.vec.isSome prV_row (by omega)) (rfl) (by omega)) _) rfl (Wg (Any.rd (.vfield fa34_1 (aa.vec.isSome prV_row (by omega)) rfl) _) rfl ?_))
 have bk:=((aa.le O).cb P (aa.rn (by omega)))
 refine Wg (.vcell (j:=0) (o:=1) (v:= .slice ((S.getD 0 noPaR).wA) ((S.getD 0 noPaR).wN) ((S.getD 0 noPaR).wC)) na32 rfl bk.vec prV_row (getS S noPaR (by omega)) rfl) rfl (Wg (.len underlying32 rfl) rfl (Wg (Any.rd (.dec (.neq rfl rfl) (dF (by omega))) _) rfl (Wn 1 rfl (Nx (WC.condF rfl (Sn (Sr (Wn 1 rfl (Wa (.idxS (0) underlying31 sz34 rfl rfl (D.vec.isSome prV_row (by omega)) (rfl) (by omega)) rfl (Wa (.vfield fa34_0 (D.vec.isSome prV_row (by omega)) rfl) rfl ?_))))))))))
 refine Wr (.vcell (j:=0) (o:=0) (v:= .int .i64 ((y.getD 0 noPaR).amt)) na3 rfl ab.vec prV_row (getS y noPaR (by omega)) rfl) rfl (Wa (.dec (.eql rfl rfl) (dT (by rw[paa];exact F.amt))) rfl ?_)
 refine Wn 2 rfl (Wg (Any.rd (.idxS (0) underlying31 sz34 rfl rfl (D.vec.isSome prV_row (by omega)) (rfl) (by omega)) _) rfl (Wg (Any.rd (.vfield fa34_1 (D.vec.isSome prV_row (by omega)) rfl) _) rfl (Wg (.vcell (j:=0) (o:=1) (v:= .slice ((y.getD 0 noPaR).wA) ((y.getD 0 noPaR).wN) ((y.getD 0 noPaR).wC)) na32 rfl ab.vec prV_row (getS y noPaR (by omega)) rfl) rfl (Wg (Any.rd (.idxS (0) underlying32 sz81 rfl rfl (pa.way.vec.isSome edgeV_row (by omega)) (rfl) (by omega)) _) rfl (Wg (Any.rd (.vfield fa81_2 (pa.way.vec.isSome edgeV_row (by omega)) rfl) _) rfl ?_)))))
 refine Wg (.vcell (j:=0) (o:=2) (v:= .int .i64 ((((C.1.getD 0 noPrt).way).getD 0 noEdge).c)) na3 rfl pa.way.vec edgeV_row (getS ((C.1.getD 0 noPrt).way) noEdge (by first|omega|(simp only[List.length_cons,List.length_nil];omega))) rfl) rfl ?_
 refine Wg (Any.rd (.dec (.eql rfl rfl) (dT (by rw[F.w0];rfl))) _) rfl ?_
 refine Wn 3 rfl (Wg (Any.rd (.idxS (1) underlying31 sz34 rfl rfl (D.vec.isSome prV_row (by omega)) (rfl) (by omega)) _) rfl (Wg (Any.rd (.vfield fa34_1 (D.vec.isSome prV_row (by omega)) rfl) _) rfl (Wg (.vcell (j:=1) (o:=1) (v:= .slice ((y.getD 1 noPaR).wA) ((y.getD 1 noPaR).wN) ((y.getD 1 noPaR).wC)) na32 rfl ab.vec prV_row (getS y noPaR (by omega)) rfl) rfl (Wg (Any.rd (.idxS (0) underlying32 sz81 rfl rfl (pb.way.vec.isSome edgeV_row (by omega)) (rfl) (by omega)) _) rfl (Wg (Any.rd (.vfield fa81_2 (pb.way.vec.isSome edgeV_row (by omega)) rfl) _) rfl ?_)))))
 refine Wg (.vcell (j:=0) (o:=2) (v:= .int .i64 ((((C.1.getD 1 noPrt).way).getD 0 noEdge).c)) na3 rfl pb.way.vec edgeV_row (getS ((C.1.getD 1 noPrt).way) noEdge (by first|omega|(simp only[List.length_cons,List.length_nil];omega))) rfl) rfl ?_
 refine Wg (Any.rd (.dec (.eql rfl rfl) (dT (by rw[F.w1];rfl))) _) rfl ?_
 refine Wn 2 rfl ?_
 have cd:=((((((((U.le (f.trans i)).cn l (by have:=U.lt;have:=f.size;omega)).le (h.trans H)).cn I (by have:=U.lt;have:=f.size;have:=i.size;have:=l.size;have:=h.size;omega)).le (A.trans L)).cn N (by have:=U.lt;have:=f.size;have:=i.size;have:=l.size;have:=h.size;have:=H.size;have:=I.size;have:=A.size;omega)).le (J.trans O)).cn P (by have:=U.lt;have:=f.size;have:=i.size;have:=l.size;have:=h.size;have:=H.size;have:=I.size;have:=A.size;have:=L.size;have:=N.size;have:=J.size;omega))
 refine Wg (.loadAll ag61 (by rfl) rfl cd) rfl ?_
 have ce:=((((((((((V.le s).cb u (V.rn (by omega))).le (f.trans i)).cb l (V.rn (by have:=s.size;have:=u.size;have:=f.size;omega))).le (h.trans H)).cb I (V.rn (by have:=s.size;have:=u.size;have:=f.size;have:=i.size;have:=l.size;have:=h.size;omega))).le (A.trans L)).cb N (V.rn (by have:=s.size;have:=u.size;have:=f.size;have:=i.size;have:=l.size;have:=h.size;have:=H.size;have:=I.size;have:=A.size;omega))).le (J.trans O)).cb P (V.rn (by have:=s.size;have:=u.size;have:=f.size;have:=i.size;have:=l.size;have:=h.size;have:=H.size;have:=I.size;have:=A.size;have:=L.size;have:=N.size;have:=J.size;omega)))
 have cf:=((((((((((X.le s).cb u (X.rn (by omega))).le (f.trans i)).cb l (X.rn (by have:=s.size;have:=u.size;have:=f.size;omega))).le (h.trans H)).cb I (X.rn (by have:=s.size;have:=u.size;have:=f.size;have:=i.size;have:=l.size;have:=h.size;omega))).le (A.trans L)).cb N (X.rn (by have:=s.size;have:=u.size;have:=f.size;have:=i.size;have:=l.size;have:=h.size;have:=H.size;have:=I.size;have:=A.size;omega))).le (J.trans O)).cb P (X.rn (by have:=s.size;have:=u.size;have:=f.size;have:=i.size;have:=l.size;have:=h.size;have:=H.size;have:=I.size;have:=A.size;have:=L.size;have:=N.size;have:=J.size;omega)))
 refine W.efg rfl rfl rfl (rfl) rfl rfl (Ef.call go71 rfl rfl (ftext_ok bi (hT.le bj) ce.vec cf.vec (by omega) (by omega) (by rw[F.on,F.od];decide+kernel) (by rw[F.on];decide) (by rw[F.od];decide)) ?_)
 rintro _ cg ⟨rfl,R⟩
 refine⟨_,rfl,?_⟩
 refine Wg (Any.rd (.eqlYes (a:=textF C.2.1.n C.2.1.d) (b:=([49,47,53]:List UInt8)) rfl rfl ((by rw[F.on,F.od];exact stx3))) _) rfl ?_
 refine Wn 3 rfl (W.efg rfl rfl rfl (rfl) rfl rfl (Ef.call go42 rfl rfl (sptotal_ok (c:=aL) cg (ab.le R).vec (aE.le R) (by omega) F.ok) ?_))
 rintro _ dg ⟨rfl,T⟩
 refine⟨_,rfl,?_⟩
 refine Wg (Any.rd (.dec (.eql rfl rfl) (dT (F.t))) _) rfl (Wn 2 rfl (Nx (Sr (Wn 2 rfl (Wa (.idxS (0) underlying32 sz81 rfl rfl (aI.vec.isSome edgeV_row (by omega)) (rfl) (by omega)) rfl (Wr (.vload ag81 rfl (((aB.le (J.trans O)).cb P (aB.rn (by have:=J.size;omega))).le (R.trans T)).vec edgeV_row (getS sG noEdge (show 0<sG.length by decide))) rfl ?_))))))
 have ci:=(((aA.le (J.trans O)).ch P (fun q hqq hF=>by cases hqq;have:=aA.lt hF;have:=J.size;have:=bh;omega)).le (R.trans T))
 refine W.cl go72 rfl rfl (bnd_mind (sG.getD 0 noEdge) ci) ?_
 rintro _ cj ⟨rfl,ac⟩
 have bl:=((bj.trans R).trans T).trans ac
 refine Wn 1 rfl (Wa (.extract (v:= .int .i64 ((bndM (fun _=>none:MF) (sG.getD 0 noEdge)).1)) rfl rfl) rfl (Wa (.extract (v:= .int .i64 ((bndM (fun _=>none:MF) (sG.getD 0 noEdge)).2)) rfl rfl) rfl (Wn 2 rfl (Nx (Sr (Wn 1 rfl (Wa (.dec (.eql rfl rfl) (dT (F.e))) rfl (Wn 2 rfl ?_))))))))
 refine Wg (Any.rd (.dec (.eql rfl rfl) (dT (aX))) _) rfl (Wn 3 rfl (Wg (Any.rd (.dec (.eql rfl rfl) (dT (a1))) _) rfl (Wn 3 rfl (Wg (Any.rd (.dec (.eql rfl rfl) (dT (a5))) _) rfl (Wn 3 rfl ?_)))))
 refine Wg (Any.rd (.dec (.eql rfl rfl) (dT (Q.e))) _) rfl (Wn 6 rfl (Wg (Any.rd (.idxS (0) underlying31 sz34 rfl rfl (aa.vec.isSome prV_row (by omega)) (rfl) (by omega)) _) rfl (Wg (Any.rd (.vfield fa34_1 (aa.vec.isSome prV_row (by omega)) rfl) _) rfl (Wg (.vcell (j:=0) (o:=1) (v:= .slice ((S.getD 0 noPaR).wA) ((S.getD 0 noPaR).wN) ((S.getD 0 noPaR).wC)) na32 rfl (bk.le (R.trans (T.trans ac))).vec prV_row (getS S noPaR (by omega)) rfl) rfl (Wg (Any.rd (.idxS (0) underlying32 sz81 rfl rfl (pc.way.vec.isSome edgeV_row (by omega)) (rfl) (by omega)) _) rfl ?_)))))
 refine Wg (Any.rd (.vfield fa81_2 (pc.way.vec.isSome edgeV_row (by omega)) rfl) _) rfl (Wg (.vcell (j:=0) (o:=2) (v:= .int .i64 ((((K.1.getD 0 noPrt).way).getD 0 noEdge).c)) na3 rfl (pc.way.le (R.trans (T.trans ac))).vec edgeV_row (getS ((K.1.getD 0 noPrt).way) noEdge (by first|omega|(simp only[List.length_cons,List.length_nil];omega))) rfl) rfl ?_)
 refine Wg (Any.rd (.dec (.eql rfl rfl) (dT (by rw[Q.w0];rfl))) _) rfl ?_
 refine Wn 2 rfl (Wg (.loadAll ag61 (by rfl) rfl (aC.le (R.trans (T.trans ac)))) rfl ?_)
 refine W.efg rfl rfl rfl (rfl) rfl rfl (Ef.call go71 rfl rfl (ftext_ok cj (hT.le bl) (((bd.le O).cb P (bd.rn (by omega))).le (R.trans (T.trans ac))).vec (((be.le O).cb P (be.rn (by omega))).le (R.trans (T.trans ac))).vec (by omega) (by omega) (by rw[Q.on,Q.od];decide+kernel) (by rw[Q.on];decide) (by rw[Q.od];decide)) ?_)
 rintro _ ck ⟨rfl,cm⟩
 refine⟨_,rfl,?_⟩
 refine Wg (Any.rd (.eqlYes (a:=textF K.2.1.n K.2.1.d) (b:=([55,47,49,48]:List UInt8)) rfl rfl ((by rw[Q.on,Q.od];exact stx4))) _) rfl ?_
 refine Wn 2 rfl (W.efg rfl rfl rfl (rfl) rfl rfl (Ef.call go14 rfl rfl (shares_ok 10 4 ck (by omega)) ?_))
 rintro _ co ⟨dh,cp,rfl,cq,di,cr⟩
 refine⟨_,rfl,?_⟩
 refine W.efg rfl rfl rfl (rfl) rfl rfl (Ef.buildSliceV (len:=4) [_,_,_,_] underlying23 el3 rfl (by simp[Value.cells]) rfl (by decide) (by decide) ?_)
 intro bm aF cs aG bn
 have aG:Blk aF bm 3 (([3,3,2,2]).map iv).flatten.toArray:=aG
 have ct:OVec aF co.heap.size 3 iv 1 (some ⟨bm,0,none⟩) 4 4 ([3,3,2,2]):=aG.ovec cs iv_row rfl rfl (by decide)
 refine W.efg rfl rfl rfl (rfl) rfl rfl (Ef.call go34 rfl rfl ((by have q:=ints_ok (c:=cp) (d:=4) aF (cq.le bn).vec ct.vec (by decide);rw[dT (show sharesL 10 4=[3,3,2,2] by decide)]at q;exact q)) ?_)
 rintro _ cu ⟨rfl,cv⟩
 refine⟨_,rfl,?_⟩
 refine Wn 2 rfl (W.efg rfl rfl rfl (rfl) rfl rfl (Ef.call go14 rfl rfl (shares_ok 3 4 cu (by omega)) ?_))
 rintro _ cw ⟨dj,dk,rfl,dl,dm,cx⟩
 refine⟨_,rfl,?_⟩
 refine Wg (.len underlying23 rfl) rfl (Wg (Any.rd (.dec (.eql rfl rfl) (dT (by decide))) _) rfl (Wn 2 rfl (W.efg rfl rfl rfl (rfl) rfl rfl (Ef.call go14 rfl rfl (shares_ok 3 0 cw (by omega)) ?_))))
 rintro _ cy ⟨dn,dp,rfl,dq,dr,cz⟩
 refine⟨_,rfl,?_⟩
 refine Wg (.len underlying23 rfl) rfl (Wg (Any.rd (.dec (.eql rfl rfl) (dT (by decide))) _) rfl (Wn 3 rfl (Wg (Any.rd (.dec (.eql rfl rfl) (dT (by decide))) _) rfl (Wn 3 rfl (Wg (Any.rd (.dec (.eql rfl rfl) (dT (by decide))) _) rfl ?_)))))
 refine Wn 2 rfl (Wg (Any.rd (.buildA (cells:=((List.replicate 32 0#8).map u8v).toArray) underlying30 sz5 z30 rfl rfl) _) rfl (W.efg rfl rfl rfl (rfl) rfl rfl (Ef.call go16 rfl rfl (plans_ok (c:=0) 1 (show(List.replicate 32 0#8).length=32 from rfl) cy (Vec.nil _ _ _ _) (by omega)) ?_)))
 rintro _ ds ⟨du,dw,dx,rfl,dy,cA,cB⟩
 refine⟨_,rfl,?_⟩
 have dz:=cA.1
 refine Wg (.len underlying37 rfl) rfl (Wg (Any.rd (.dec (.eql rfl rfl) (dT (by rw[show(([]:List PaR).map (·.wN))=[]from rfl,plansL_nil];rfl))) _) rfl ?_)
 refine Wn 2 rfl (Nx (Rt (E.retG1 rfl rfl ?_)))
 exact⟨rfl,(((((((bl.trans cm).trans cr).trans bn).trans cv).trans cx).trans cz).trans cB)⟩
end Go.Proofs.YtocheaahlpiajaaGreatDoor

namespace Go.Sx
theorem Any.rem8 {P:Program}{env:Env}{n:Nat}{d:Option Nat}{T:TypeId}{p:String}{af:Array Edge}{g:Option (Nat×Bool)}{t ty:TypeId}{x y:Operand}{a b:Int}(hx:ev env x=some (.int .u8 a))(hy:ev env y=some (.int .u8 b))(hb:0<=a/\1<=b):
    Any P env n ⟨d,.binOp .rem t x y ty,T,p,af,g⟩ (.int .u8 (a%b)):= .int hx hy fun w=>by
  have:b≠0:=by omega
  simp[binOp,Op.intDiv,this,IntWalk.rem_in _ b hb.1]
end Go.Sx
namespace Go.Proofs.YtocheaahlpiajaaGreatDoor
open Go Go.Sx Go.Hsp Go.Num Go.Osp Go.Gsp Go.Nsp Go.Msp Go.Rtp
set_option maxRecDepth 20000
end Go.Proofs.YtocheaahlpiajaaGreatDoor

namespace Go.Proofs.YtocheaahlpiajaaGreatDoor
open Go Go.Sx Go.Hsp Go.Num Go.Osp Go.Gsp Go.Nsp Go.Msp Go.Rtp
set_option maxRecDepth 20000
def MPk (kn:Nat)(w:World)(base gp:Nat)(F:Nat->Prop)(m:MF):Prop:=MPool w base gp F m/\∃gm la ca,Blk w gp 188 #[.map (some gm)]/\MapG w wyf ntf gm la ca/\la.length=kn/\F gp/\F gm
section
variable {w w':World}{base gp kn:Nat}{F:Nat->Prop}{m:MF}
theorem MPk.chP {F':Nat->Prop}(h:MPk kn w base gp F m)(hc:ChP w w' F')(hne:∀k,F k->¬F' k):MPk kn w' base gp F m:=by
  obtain⟨d,gm,la,ca,e,f,i,b,c⟩:=h
  exact⟨d.chP hc hne,gm,la,ca,e.chP hc (hne _ b),f.chP hc (hne _ c),i,b,c⟩
theorem MPk.ch {r:Option Nat}(h:MPk kn w base gp F m)(hc:Ch w w' r)(hne:∀k,r=some k->¬F k):MPk kn w' base gp F m:=h.chP (hc.chP (F:=fun k=>r=some k) (fun i hi=>hi)) (fun k hk hr=>hne k hr hk)
theorem MPk.le (h:MPk kn w base gp F m)(hl:Le w w'):MPk kn w' base gp F m:=h.chP (hl.chP (fun _=>False)) (fun _ _ hf=>hf)
theorem MPk.lt (h:MPk kn w base gp F m){k:Nat}(hk:F k):k<w.heap.size:=h.1.lt hk
theorem MPk.good (h:MPk kn w base gp F m):GoodM m:=h.1.good
theorem MPk.old (h:MPk kn w base gp F m){k:Nat}(hk:F k):base<=k:=h.1.old hk
theorem MPk.size (h:MPk kn w base gp F m):base<=w.heap.size:=h.1.size
end
section
variable {g:List Gsp.Edge}{m:MF}{fr to a x:Int}
theorem prt_lens {p:Prt}(h:PrtOk g fr to x p):p.sent.length=p.way.length/\p.way.length<=8/\1<=p.way.length/\p.till.length=p.way.length:=by
  have cs:=costs_of (w:=p.way) (a:=p.amt) (x:=x) (by rw[h.cost])
  have b:=cs.lenS
  have c:=cs.lenT
  have d:=cs.len
  rw[h.cost]at b c
  exact⟨b,d.2,d.1,c⟩
theorem sent_ok {p:Prt}(h:PrtOk g fr to x p){i:Nat}(hi:i<p.way.length):0<=p.sent.getD i 0/\p.sent.getD i 0<=1125899906842624:=by
  have hc:(costG p.way p.amt x).2.2=0:=by rw[h.cost]
  have k:=Cand.some hc hi
  rw[h.cost]at k
  obtain⟨b,c,d⟩:=someM_T k
  obtain⟨_,_,_,_,e,f⟩:=mayM_T b
  simp only at c d
  omega
structure AllOk (g:List Gsp.Edge)(fr to a x n:Int)(b:List Prt×Fr×Int):Prop where
  parts:∀i,i<b.1.length->PrtOk g fr to x (b.1.getD i noPrt)
  okf:okF b.2.1
  pos:0<b.2.1.n
  le1:b.2.1.n<=b.2.1.d
  net:∀e∈g,netP e b.1<=e.r
  sum:sumI (b.1.map (·.amt))=a
  amt:∀s∈b.1.map (·.amt),0<=s
  ab:a<=1125899906842624
  len:(b.1.length:Int)<=n/\b.1.length<=8
  tot:TotOk b.1
theorem spl_all (hm:GoodM m){n:Int}(h:(splitG g m fr to a x n).2.2=0):AllOk g fr to a x n (splitG g m fr to a x n):=by
  have c:=(splitG_len (g:=g) (fr:=fr) (to:=to) (a:=a) (x:=x) hm (n:=n)).2
  rcases splitG_spec (g:=g) (fr:=fr) (to:=to) (a:=a) (x:=x) hm (n:=n)with⟨e,_⟩|⟨e,_⟩|⟨s,k,e,b,d,f,v,A,j,l⟩
  · rw[e]at h;cases h
  · rw[e]at h;cases h
  · rw[e]at c ⊢
    have hb:badR g fr to a x=false:=by
      cases hb:badR g fr to a x
      · rfl
      · exact absurd (by rw[bestR_bad hb]) l
    have hbT:=bad_T hb
    obtain⟨o,t,u,C⟩:=sharesL_ok (a:=a) (n:=k) f (by omega) j
    have hln:=congrArg List.length d
    rw[List.length_map,o]at hln
    refine⟨fun i hi=>b.parts _ (getD_mem (z:=noPrt) hi),b.odds.1,b.odds.2.1,b.odds.2.2,fun e he=>?_,by simp only;rw[d,t],fun y hy=>?_,hbT.2.2.2.2.1.2,⟨by simp only;omega,c⟩,c,fun p hp y hy=>?_⟩
    · have k1:=b.net e he
      obtain⟨i,hi,rfl⟩:=List.mem_iff_getElem.1 he
      have:=hiM_pos b.good (e:=g[i]) (by have:=(right_pw hbT.1).1 i hi;rwa [show g.getD i noEdge=g[i] by simp[List.getD,hi]]at this)
      show netP g[i] s.out<=g[i].r
      omega
    · simp only at hy
      rw[d]at hy
      obtain⟨i,hi,rfl⟩:=List.mem_iff_getElem.1 hy
      have k1:=u i (by omega)
      have k2:=(share_le f j i).1
      rw[show(sharesL a k)[i]=(sharesL a k).getD i 0 by simp[List.getD,hi],k1]
      omega
    · have hpo:=b.parts p hp
      have hl:=prt_lens hpo
      obtain⟨i,hi,rfl⟩:=List.mem_iff_getElem.1 hy
      have:=sent_ok hpo (i:=i) (by omega)
      rwa [show p.sent.getD i 0=p.sent[i] by simp[List.getD,hi]]at this
end
end Go.Proofs.YtocheaahlpiajaaGreatDoor

namespace Go.Proofs.YtocheaahlpiajaaGreatDoor
open Go Go.Sx Go.Hsp Go.Num Go.Osp Go.Gsp Go.Nsp Go.Msp Go.Rtp
set_option maxRecDepth 20000
theorem PasAt.wn {w:World}{b:Nat}{rs:List PaR}{ps:List Prt}(h:PasAt w b rs ps){i:Nat}(hi:i<ps.length):(rs.getD i noPaR).wN=(ps.getD i noPrt).way.length:=(h.2 i hi).way.1.symm
end Go.Proofs.YtocheaahlpiajaaGreatDoor

namespace Go.Proofs.YtocheaahlpiajaaGreatDoor
open Go Go.Sx Go.Osp Go.Hsp Go.Hsp Go.Num Go.Osp Go.Gsp Go.Nsp Go.Msp Go.Rtp
set_option maxRecDepth 20000
theorem spl_one {g:List Gsp.Edge}{m:MF}{fr to a x:Int}(hm:GoodM m){n:Int}(h:(splitG g m fr to a x n).2.2=0):1<=a/\1<=x/\1<=(splitG g m fr to a x n).1.length:=by
  rcases splitG_spec (g:=g) (fr:=fr) (to:=to) (a:=a) (x:=x) hm (n:=n)with⟨e,_⟩|⟨e,_⟩|⟨s,k,e,d,f,i,j,l,o,c⟩
  · rw[e]at h;cases h
  · rw[e]at h;cases h
  · have hb:badR g fr to a x=false:=by
      cases hb:badR g fr to a x
      · rfl
      · exact absurd (by rw[bestR_bad hb]) c
    have hbT:=bad_T hb
    have hs:=(spl_all hm h).sum
    refine⟨hbT.2.2.2.2.1.1,hbT.2.2.2.2.2.1,?_⟩
    rcases Nat.eq_zero_or_pos (splitG g m fr to a x n).1.length with b|b
    · rw[List.length_eq_zero_iff.1 b]at hs
      have:(0:Int)=a:=hs
      omega
    · exact b
theorem plans_or {s:Nat}{seed:List Byte}{ns:List Nat}(hn:∀i,i<ns.length->1<=ns.getD i 0/\ns.getD i 0<=8):(PlansMay s ns/\plansL s seed ns=planK s seed ns (partsL s ns.length).length)\/(plansL s seed ns=[]/\∃i,i<(partsL s ns.length).length/\(partsL s ns.length).getD i 0=0):=by
  by_cases h:PlansMay s ns
  · exact .inl ⟨h,plansL_yes h⟩
  · refine .inr ⟨plansL_no h,Classical.byContradiction fun hc=>h (plans_may (fun i hi hz=>hc ⟨i,hi,hz⟩) hn)⟩
end Go.Proofs.YtocheaahlpiajaaGreatDoor

