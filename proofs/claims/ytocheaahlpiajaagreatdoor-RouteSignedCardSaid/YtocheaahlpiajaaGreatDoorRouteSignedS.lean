/- RouteSigned: for every input the law answers true and leaves its arguments as they were. -/
import Derived.Test.YtocheaahlpiajaaGreatDoorRouteSignedR
import Derived.Shelf.Strconv.Itoa3
import Derived.Lib.ItoaLen
import Derived.Lib.AppendIntMem
set_option linter.unusedVariables false
set_option linter.unusedSimpArgs false
set_option maxRecDepth 20000
namespace Go.Proofs
open Go.Shelf
def Tryz.laysM171_ren:Go.Shelf.Ren:=⟨fun|171=>241|243=>294|246=>329|283=>350|284=>351|285=>352|286=>353|129=>326|317=>360|318=>361|319=>362|320=>363|337=>365|338=>366|n=>n,fun|3=>3|9=>9|2=>2|4=>4|171=>398|0=>0|53=>27|37=>26|5=>5|173=>400|212=>410|51=>273|20=>20|213=>411|46=>287|232=>29|233=>413|n=>n,fun|17=>2|18=>4|19=>5|n=>n⟩
theorem Tryz.laysM171:Go.Proofs.LaysM.n171 prog Tryz.laysM171_ren:={
  mixed:=by kernel_rfl
  f129:=func326.trans (congrArg some (by kernel_rfl))
  f171:=func241.trans (congrArg some (by kernel_rfl))
  f243:=func294.trans (congrArg some (by kernel_rfl))
  f246:=func329.trans (congrArg some (by kernel_rfl))
  f283:=func350.trans (congrArg some (by kernel_rfl))
  f284:=func351.trans (congrArg some (by kernel_rfl))
  f285:=func352.trans (congrArg some (by kernel_rfl))
  f286:=func353.trans (congrArg some (by kernel_rfl))
  f317:=func360.trans (congrArg some (by kernel_rfl))
  f318:=func361.trans (congrArg some (by kernel_rfl))
  f319:=func362.trans (congrArg some (by kernel_rfl))
  f320:=func363.trans (congrArg some (by kernel_rfl))
  f337:=func365.trans (congrArg some (by kernel_rfl))
  f338:=func366.trans (congrArg some (by kernel_rfl))
  t0:=underlying0
  a0:=Tryz.isAgg0
  z0:=Tryz.sizeOf0
  v0:=Tryz.zeroValue0
  t2:=underlying2
  a2:=Tryz.isAgg2
  z2:=Tryz.sizeOf2
  v2:=Tryz.zeroValue2
  t3:=underlying3
  a3:=Tryz.isAgg3
  z3:=Tryz.sizeOf3
  v3:=Tryz.zeroValue3
  t4:=underlying4
  a4:=Tryz.isAgg4
  z4:=Tryz.sizeOf4
  v4:=Tryz.zeroValue4
  t5:=underlying5
  a5:=Tryz.isAgg5
  z5:=Tryz.sizeOf5
  v5:=Tryz.zeroValue5
  t9:=underlying9
  a9:=Tryz.isAgg9
  z9:=Tryz.sizeOf9
  v9:=Tryz.zeroValue9
  t20:=underlying20
  a20:=Tryz.isAgg20
  z20:=Tryz.sizeOf20
  v20:=Tryz.zeroValue20
  t37:=underlying26
  a37:=Tryz.isAgg26
  z37:=Tryz.sizeOf26
  v37:=Tryz.zeroValue26
  t46:=underlying287
  a46:=Tryz.isAgg287
  z46:=Tryz.sizeOf287
  v46:=Tryz.zeroValue287
  t51:=underlying273
  a51:=Tryz.isAgg273
  z51:=Tryz.sizeOf273
  v51:=Tryz.zeroValue273
  t53:=underlying27
  a53:=Tryz.isAgg27
  z53:=Tryz.sizeOf27
  v53:=Tryz.zeroValue27
  t171:=underlying398
  a171:=Tryz.isAgg398
  z171:=Tryz.sizeOf398
  v171:=Tryz.zeroValue398
  t173:=underlying400
  a173:=Tryz.isAgg400
  z173:=Tryz.sizeOf400
  v173:=Tryz.zeroValue400
  t212:=underlying410
  a212:=Tryz.isAgg410
  z212:=Tryz.sizeOf410
  v212:=Tryz.zeroValue410
  t213:=underlying411
  a213:=Tryz.isAgg411
  z213:=Tryz.sizeOf411
  t232:=underlying29
  a232:=Tryz.isAgg29
  z232:=Tryz.sizeOf29
  v232:=Tryz.zeroValue29
  t233:=underlying413
  a233:=Tryz.isAgg413
  z233:=Tryz.sizeOf413
  v233:=Tryz.zeroValue413
  g17:=by kernel_rfl
  g18:=by kernel_rfl
  g19:=by kernel_rfl
  i0:=by kernel_rfl
  i2:=by kernel_rfl
  i3:=by kernel_rfl
  i4:=by kernel_rfl
  i5:=by kernel_rfl
  i9:=by kernel_rfl
  i20:=by kernel_rfl
  i37:=by kernel_rfl
  i46:=by kernel_rfl
  i51:=by kernel_rfl
  i53:=by kernel_rfl
  i171:=by kernel_rfl
  i173:=by kernel_rfl
  i212:=by kernel_rfl
  i232:=by kernel_rfl
  i233:=by kernel_rfl
  m17:=by kernel_rfl
  m18:=by kernel_rfl
  m19:=by kernel_rfl}
end Go.Proofs
namespace Go.Proofs.YtocheaahlpiajaaGreatDoor
open Tryz
open Go Go.Sx Go.Nsp
def Tab (w:World):Prop:=Lib.TabIs prog w "internal/strconv.uint64pow10" .u64 Lib.pow10Tab
theorem Tab.le {w w':World}(h:Tab w)(hl:Le w w'):Tab w':=Lib.tabBelow_of_tabIs h w' hl
theorem itoa_len {p:Nat}(h:p<1000000000):(Lib.itoa ((p:Nat):Int)).length<=21:=Lib.itoa_length_le _ (by omega) (by omega)
theorem itoa_ok (p:Nat)(w:World)(hT:Tab w)(h0:0<=p)(h1:p<1000000000):Calls prog 241 #[.int .i64 ((p:Nat):Int)] w fun r w'=>r= .returned (.string ⟨(Lib.itoa ((p:Nat):Int)).toArray⟩)/\Le w w':=
  (Any.strconv_Itoa Tryz.laysM171 ((p:Nat):Int) (by omega) (by omega) w hT).mono (by
    rintro _ w' ⟨rfl,k,os,rfl⟩
    exact⟨rfl,Lib.below_grow _ w (Nat.le_refl _) k os⟩)
def textF (p q:Nat):List UInt8:=if q=1 then Lib.itoa ((p:Nat):Int)else Lib.itoa ((p:Nat):Int)++([47]:List UInt8)++Lib.itoa ((q:Nat):Int)
theorem digs_lots:digs 1000000000=[1000000000]:=by rw[digs_pos (by decide),show 1000000000/B=0 from rfl,digs_zero];rfl
theorem ntext_ok {A:Option Addr}{n c p:Nat}(w:World)(hT:Tab w)(hV:Vec w dv 1 A n (digs p))(hn:n<=10000)(hp1:p<1000000000):Calls prog 166 #[.slice A n c] w fun r w'=>r= .returned (.string ⟨(Lib.itoa ((p:Nat):Int)).toArray⟩)/\Le w w':=by
 have hl:=hV.1
 refine enter func166 rfl rfl ?_
 have h:=Le.refl w
 refine Sr (Wn 1 rfl (Nx (Sr (Wn 1 rfl (W.cl go211 rfl rfl (ntaken_ok w (hV.le h) (by omega)) ?_)))))
 rintro _ m ⟨rfl,o⟩
 refine Wn 1 rfl (Nx (Sr (Wn 1 rfl (Nx (WC.block (WC.loop (ι:=Nat) (fun k=>[(0,.slice A n c),(3,.string ⟨([]:List UInt8).toArray⟩)]) (fun k d=>Le w d/\m.heap.size<=d.heap.size) (fun k=>k) 0 ?_ ?_ ?_))))))
 ·exact .of rfl
 ·exact⟨(h.trans o),Nat.le_refl _⟩
 rintro k d ⟨s,J⟩
 refine WC.block (Sr (Wn 1 rfl (W.ef rfl rfl rfl (Ef.buildSliceV (len:=1) [_] underlying59 el273 rfl (by simp[Value.cells]) rfl (by decide) (by decide) ?_))))
 intro i e t f u
 have j:=s.trans u
 have f:Blk e i 273 (([1000000000]).map dv).flatten.toArray:=f
 have x:OVec e d.heap.size 273 dv 1 (some ⟨i,0,none⟩) 1 1 ([1000000000]):=f.ovec t dv_row rfl rfl (by decide)
 have y:=x.cast (m':=1) (ys:=(digs 1000000000)) (rfl) (digs_lots.symm)
 refine W.cl go209 rfl rfl (ndivmod_ok e (hV.le j) y.vec (by omega) (by omega) (by omega)) ?_
 rintro _ z ⟨K,L,N,O,rfl,P,C,D⟩
 refine Wn 7 rfl (Nx (Sr (Wn 1 rfl (W.cl go240 rfl rfl (nint_ok z C.vec (by omega)) ?_))))
 rintro _ F ⟨rfl,H⟩
 have l:=(j.trans D).trans H
 refine Wn 5 rfl (Nx (Sr (Wn 1 rfl (W.cl go241 rfl rfl (itoa_ok (p%1000000000) F (hT.le l) (by omega) (by omega)) ?_))))
 rintro _ Q ⟨rfl,I⟩
 refine Wn 1 rfl (Nx (Sq (Sr (Wn 1 rfl (Wr (.len underlying59 rfl) rfl (Wn 1 rfl (Nx (Cy rfl (dT (by rw[Nat.div_eq_of_lt hp1,digs_zero];rfl)) ?_))))))))
 refine Sr (Wn 2 rfl (Wa (.addStr (a:=Lib.itoa (((p%1000000000):Nat):Int)) (b:=([]:List UInt8)) rfl rfl (Nat.le_trans (itoa_len (by omega)) (by decide)) (by decide)) rfl (Wn 1 rfl (Nx (Rt (E.thenR (E.blkR (E.thenR (E.blkR (E.retG1 rfl rfl ?_))))))))))
 exact⟨congrArg (fun v=>Ending.returned (Value.string ⟨List.toArray v⟩)) (by simp[show p%1000000000=p from Nat.mod_eq_of_lt hp1]),(l.trans I)⟩

theorem ftext_ok {An Ad:Option Addr}{nn cn nd cd p q:Nat}(w:World)(hT:Tab w)(hn:Vec w dv 1 An nn (digs p))(hd:Vec w dv 1 Ad nd (digs q))(bn:nn<=10000)(bd:nd<=10000)(hok:okB p q=true)(hp1:p<1000000000)(hq1:q<1000000000):Calls prog 71 #[.agg #[.slice An nn cn,.slice Ad nd cd]] w fun r w'=>r= .returned (.string ⟨(textF p q).toArray⟩)/\Le w w':=by
 have hln:=hn.1;have hld:=hd.1
 have T:=digs_len_one (d:=1) (by decide)
 refine enter func71 rfl rfl ?_
 have n:=Le.refl w
 refine Sr (W.ef rfl rfl rfl (Ef.boxA rfl fun o s H (t:Blk s o 61 #[.slice An nn cn,.slice Ad nd cd]) I=>?_))
 have i:=n.trans I
 refine Wn 1 rfl (Nx (Sr (Wr (.loadAll ag61 (by rfl) rfl t) rfl ?_)))
 refine W.cl go165 rfl rfl (ftaken_yes s (hn.le i) (hd.le i) (by omega) (by omega) hok) ?_
 rintro _ U ⟨rfl,u⟩
 refine W.sA sz61 rfl rfl (t.le u) ?_
 intro J j K
 have j:Blk J o 61 #[.slice An nn cn,.slice Ad nd cd]:=j
 refine Nx (Sq (Sq (WC.draw [0,1,2,3,4] mixed (by kernel_rfl) fun L x=>(Ga rfl (.field0 fa61_1 rfl) ?_))))
 have k:=(j.le x)
 refine Gd rfl (.loadB (v:= .slice Ad nd cd) na59 rfl k rfl) (G.ef rfl rfl rfl rfl rfl (Ef.call go111 rfl rfl (fone_ok L) ?_))
 rintro _ N ⟨V,X,rfl,O,c⟩
 refine⟨_,rfl,?_⟩
 refine⟨fun _=>c,?_⟩
 have y:=(((i.trans u).tb K n H).trans x).trans c
 refine G.ef rfl rfl rfl rfl rfl (Ef.call go109 rfl rfl (ncmp_ok N (hd.le y) O.vec (by omega) (by omega)) ?_)
 rintro _ P ⟨rfl,e⟩
 refine⟨_,rfl,?_⟩
 refine⟨fun _=>e,?_⟩
 have f:=y.trans e
 refine Gn 1 rfl (G.nil (E.thenN ?_))
 by_cases z:(cmpN q 1)=0
 ·refine Cy rfl (dT z) (Sr (Wa (.field0 fa61_0 rfl) rfl (Wr (.loadB (v:= .slice An nn cn) na59 rfl (k.le (c.trans e)) rfl) rfl (W.cl go166 rfl rfl (ntext_ok P (hT.le f) (hn.le f) (by omega) (by omega)) ?_))))
  rintro _ Y ⟨rfl,Q⟩
  refine Wn 1 rfl (Nx (Rt (E.thenR (E.retG1 rfl rfl ?_))))
  exact⟨congrArg (fun v=>Ending.returned (Value.string ⟨List.toArray v⟩)) (by unfold textF;first|rw[if_pos (cmpN_eq.1 (by assumption))]|rw[if_neg (fun h=>absurd (cmpN_eq.2 h) (by assumption))]),(f.trans Q)⟩
 refine Cn rfl (dF z) (Sn (Sq (WC.draw [0,1,4,5,2,3,6,7,8] mixed (by kernel_rfl) fun R A=>?_)))
 have l:=f.trans A
 refine Ga rfl (.field0 fa61_0 rfl) ?_
 have C:=(k.le (c.trans (e.trans A)))
 refine Gd rfl (.loadB (v:= .slice An nn cn) na59 rfl C rfl) (Ga rfl (.field0 fa61_1 rfl) (Gd rfl (.loadB (v:= .slice Ad nd cd) na59 rfl C rfl) (G.ef rfl rfl rfl rfl rfl (Ef.call go166 rfl rfl (ntext_ok R (hT.le l) (hn.le l) (by omega) (by omega)) ?_))))
 rintro _ S ⟨rfl,D⟩
 refine⟨_,rfl,?_⟩
 refine⟨fun _=>D,?_⟩
 have m:=l.trans D
 refine Ga rfl (.addStr (a:=Lib.itoa ((p:Nat):Int)) (b:=([47]:List UInt8)) rfl rfl (Nat.le_trans (itoa_len (by omega)) (by decide)) (by decide)) (G.ef rfl rfl rfl rfl rfl (Ef.call go166 rfl rfl (ntext_ok S (hT.le m) (hd.le m) (by omega) (by omega)) ?_))
 rintro _ Z ⟨rfl,F⟩
 refine⟨_,rfl,?_⟩
 refine⟨fun _=>F,?_⟩
 refine Ga rfl (.addStr (a:=(Lib.itoa ((p:Nat):Int))++([47]:List UInt8)) (b:=Lib.itoa ((q:Nat):Int)) rfl rfl (by have:=itoa_len (p:=p) (by omega);simp only[List.length_append,List.length_cons,List.length_nil];omega) (Nat.le_trans (itoa_len (by omega)) (by decide))) ?_
 refine Gn 1 rfl (G.nil (E.thenN (Rt (E.retG1 rfl rfl ?_))))
 exact⟨congrArg (fun v=>Ending.returned (Value.string ⟨List.toArray v⟩)) (by unfold textF;first|rw[if_pos (cmpN_eq.1 (by assumption))]|rw[if_neg (fun h=>absurd (cmpN_eq.2 h) (by assumption))]),(m.trans F)⟩
end Go.Proofs.YtocheaahlpiajaaGreatDoor

namespace Go.Proofs.YtocheaahlpiajaaGreatDoor
open Tryz
open Go Go.Sx Go.Num Go.Gsp Go.Nsp Go.Msp Go.Rtp
set_option maxRecDepth 20000
def rE (c f t:Int):Gsp.Edge:=⟨f,t,c,1000,⟨1,0,5,1,1000⟩⟩
def rG:List Gsp.Edge:=[rE 0 0 1,rE 1 1 3,rE 2 0 2,rE 3 2 3]
def rM0:MF:=fun _=>none
def rM1:MF:=(noteR rM0 [rE 0 0 1,rE 1 1 3] 100 50 1).1
def rM2:MF:=(noteR rM1 [rE 2 0 2,rE 3 2 3] 100 50 (-1)).1
def rM3:MF:=(noteR rM2 [rE 2 0 2,rE 3 2 3] 100 50 0).1
theorem sm1:bestR rG rM0 0 3 100 50=([rE 0 0 1,rE 1 1 3],⟨810900,1002001⟩,0):=by decide+kernel
theorem sn1:(noteR rM0 [rE 0 0 1,rE 1 1 3] 100 50 1).2=0:=by decide+kernel
theorem sm2:bestR rG rM1 0 3 100 50=([rE 2 0 2,rE 3 2 3],⟨810900,1002001⟩,0):=by decide+kernel
theorem sn2:(noteR rM1 [rE 2 0 2,rE 3 2 3] 100 50 (-1)).2=0:=by decide+kernel
theorem sm3:bestR rG rM2 0 3 100 50=([rE 2 0 2,rE 3 2 3],⟨1,1⟩,0):=by decide+kernel
theorem sn3:(noteR rM2 [rE 2 0 2,rE 3 2 3] 100 50 0).2=0:=by decide+kernel
theorem sm4:bestR rG rM3 0 3 100 50=([],⟨0,0⟩,19):=by decide+kernel
theorem sm5:bestR rG rM3 0 0 100 50=([],⟨0,0⟩,1):=by decide+kernel
theorem stx1:textF 810900 1002001=[56,49,48,57,48,48,47,49,48,48,50,48,48,49]:=by simp[textF,Lib.itoa,Lib.decDigits]
theorem stx2:textF 1 1=[49]:=by simp[textF,Lib.itoa,Lib.decDigits]
set_option maxHeartbeats 4000000 in
theorem small38_ok (w:World) (hT:Tab w):Calls prog 48 #[] w fun r w'=>r= .returned (.bool true)/\Le w w':=by
 have cO:=digs_len_one (d:=810900) (by decide);have cP:=digs_len_one (d:=1002001) (by decide);have cQ:=digs_len_one (d:=1) (by decide)
 refine enter func48 rfl rfl (Sr (Wn 1 rfl (Nx (Sr (W.cl go121 rfl rfl (rledge_ok 0 0 1 w) ?_)))))
 rintro _ bK ⟨rfl,bL⟩
 refine W.cl go121 rfl rfl (rledge_ok 1 1 3 bK) ?_
 rintro _ bM ⟨rfl,bN⟩
 refine W.cl go121 rfl rfl (rledge_ok 2 0 2 bM) ?_
 rintro _ bO ⟨rfl,bP⟩
 refine W.cl go121 rfl rfl (rledge_ok 3 2 3 bO) ?_
 rintro _ bQ ⟨rfl,bR⟩
 refine W.ef rfl rfl rfl (Ef.buildSliceV (len:=4) [_,_,_,_] underlying32 el81 rfl (by simp[Value.cells,edgeV_row.len]) rfl (by decide) (by decide) ?_)
 intro J am bS an bT
 have L5:=(((((Le.refl w).trans bL).trans bN).trans bP).trans bR).trans bT
 have an:Blk am J 81 (([(rE 0 0 1),(rE 1 1 3),(rE 2 0 2),(rE 3 2 3)]).map edgeV).flatten.toArray:=an
 have aW:OVec am bQ.heap.size 81 edgeV 9 (some ⟨J,0,none⟩) 4 4 ([(rE 0 0 1),(rE 1 1 3),(rE 2 0 2),(rE 3 2 3)]):=an.ovec bS edgeV_row rfl rfl (by decide)
 have o6:=aW.cast (m':=4) (ys:=rG) (rfl) (rfl)
 refine Wn 1 rfl (Nx (Sr (W.cl go64 rfl rfl (new_mind am) ?_)))
 rintro _ bU ⟨cR,e,rfl,C,aX⟩
 refine Wn 1 rfl (Nx (Sq (Sr (Wn 1 rfl (Wa (.dec (.isNilP (by kernel_rfl) rfl) rfl) rfl (Nx (WC.condF rfl (Sn (Sr (Wn 2 rfl ?_))))))))))
 have f8:=(o6.le aX)
 refine W.cl go46 rfl rfl ((by have k:=rbest_ok (c:=4) 0 3 100 50 bU (m:=rM0) (g:=rG) C f8.vec (by decide);rw[sm1]at k;exact k)) ?_
 rintro _ cS ⟨K,D,L,N,O,P,rfl,S,aY,aZ,T⟩
 have L9:=(L5.trans aX).trans T
 have S:=S.cast (m':=2) rfl rfl
 refine Wn 1 rfl (Wa (.extract (v:= .slice K 2 D) rfl rfl) rfl (Wa (.extract (v:= .agg #[.slice L ((digs 810900).length) N,.slice O ((digs 1002001).length) P]) rfl rfl) rfl (Wa (.extract (v:= .int .i64 (0)) rfl rfl) rfl (W.ef rfl rfl rfl (Ef.allocA z61 ?_)))))
 intro Q bV ao ap U
 have ap:Blk bV Q 61 #[.slice none 0 0,.slice none 0 0]:=ap
 refine Wn 1 rfl (W.sA sz61 rfl rfl ap ?_)
 intro a0 ak V
 have ak:Blk a0 Q 61 #[.slice L ((digs 810900).length) N,.slice O ((digs 1002001).length) P]:=ak
 refine Wn 1 rfl (Nx (Sr (Wn 2 rfl ?_)))
 have aq:=((C.le (T.trans U)).ch V (fun q hqq hF=>by cases hqq;have:=C.lt hF;have:=T.size;have:=ao;omega))
 have X:=((S.le U).cb V (S.rn (by omega)))
 have bW:=apart_vec X (show∀g,rowOf K D=some g->¬e g from(fun g hg hF=>by have:=C.lt hF;have:=(X.row hg).1;omega))
 refine W.cl go122 rfl rfl ((by have k:=rnote_ok (m:=rM0) (c:=D) 100 50 1 a0 aq X.vec (by decide) bW;rw[sn1]at k;exact k)) ?_
 rintro _ bX ⟨rfl,af,ah,Y⟩
 have a1:=((f8.le (T.trans U)).cb V (f8.rn (by have:=T.size;omega)))
 have ar:=((aY.le U).cb V (aY.rn (by omega)))
 have au:=((aZ.le U).cb V (aZ.rn (by omega)))
 have a2:=(show∀g,rowOf (some ⟨J,0,none⟩) 4=some g->¬e g from(fun g hg hF=>by have:=aq.old hF;have:=(aW.row hg).2;omega))
 have av:=a1.chP Y a2
 have bY:∀g,rowOf (some ⟨J,0,none⟩) 4=some g->¬e g:=fun g hg hF=>(ah _ hF).elim (a2 g hg) (fun hz=>by have:=(a1.row hg).2;omega)
 have a3:=(show∀g,rowOf K D=some g->¬e g from(fun g hg hF=>by have:=C.lt hF;have:=(X.row hg).1;omega))
 have a4:=X.chP Y a3
 have bZ:∀g,rowOf K D=some g->¬e g:=fun g hg hF=>(ah _ hF).elim (a3 g hg) (fun hz=>by have:=(X.row hg).2;omega)
 have a5:=(show∀g,rowOf L N=some g->¬e g from(fun g hg hF=>by have:=C.lt hF;have:=(ar.row hg).1;omega))
 have a6:=ar.chP Y a5
 have b0:∀g,rowOf L N=some g->¬e g:=fun g hg hF=>(ah _ hF).elim (a5 g hg) (fun hz=>by have:=(ar.row hg).2;omega)
 have a7:=(show∀g,rowOf O P=some g->¬e g from(fun g hg hF=>by have:=C.lt hF;have:=(au.row hg).1;omega))
 have a8:=au.chP Y a7
 have b1:∀g,rowOf O P=some g->¬e g:=fun g hg hF=>(ah _ hF).elim (a7 g hg) (fun hz=>by have:=(au.row hg).2;omega)
 have a9:=(show¬e Q from(fun hF=>by have:=C.lt hF;have:=T.size;have:=ao;omega))
 have ba:=ak.chP Y a9
 have b2:¬e Q:=fun hF=>(ah _ hF).elim a9 (fun hz=>by have:=ak.lt;omega)
 refine Wn 1 rfl (Nx (Sr (Wn 2 rfl (W.cl go46 rfl rfl ((by have k:=rbest_ok (c:=4) 0 3 100 50 bX (m:=rM1) (g:=rG) af av.vec (by decide);rw[sm2]at k;exact k)) ?_))))
 rintro _ cT ⟨ai,Z,b3,b4,b5,b6,rfl,aa,cU,cV,t⟩
 have bb:=(((L9.trans U).tb V L9 ao).chP_then Y (fun i hi=>Nat.le_trans L5.size (aq.old hi))).trans t
 have aa:=aa.cast (m':=2) rfl rfl
 refine Wn 1 rfl (Wa (.extract (v:= .slice ai 2 Z) rfl rfl) rfl (Wa (.extract (v:= .agg #[.slice b3 ((digs 810900).length) b4,.slice b5 ((digs 1002001).length) b6]) rfl rfl) rfl (Wa (.extract (v:= .int .i64 (0)) rfl rfl) rfl (W.ef rfl rfl rfl (Ef.allocA z61 ?_)))))
 intro b7 b8 bc aw F
 have aw:Blk b8 b7 61 #[.slice none 0 0,.slice none 0 0]:=aw
 refine Wn 1 rfl (W.sA sz61 rfl rfl aw ?_)
 intro b9 cW H
 refine Wn 1 rfl (Nx (Sr (Wn 2 rfl ?_)))
 have bd:=((af.le (t.trans F)).ch H (fun q hqq hF=>by cases hqq;have:=af.lt hF;have:=t.size;have:=bc;omega))
 have ab:=((aa.le F).cb H (aa.rn (by omega)))
 have ca:=apart_vec ab (show∀g,rowOf ai Z=some g->¬e g from(fun g hg hF=>by have:=af.lt hF;have:=(ab.row hg).1;omega))
 refine W.cl go122 rfl rfl ((by have k:=rnote_ok (m:=rM1) (c:=Z) 100 50 (-1) b9 bd ab.vec (by decide) ca;rw[sn2]at k;exact k)) ?_
 rintro _ cc ⟨rfl,I,ac,R⟩
 have be:=((av.le (t.trans F)).cb H (av.rn (by have:=t.size;omega)))
 have bf:=((a4.le (t.trans F)).cb H (a4.rn (by have:=t.size;omega)))
 have bg:=((a6.le (t.trans F)).cb H (a6.rn (by have:=t.size;omega)))
 have bh:=((a8.le (t.trans F)).cb H (a8.rn (by have:=t.size;omega)))
 have bi:=((ba.le (t.trans F)).cn H (by have:=ba.lt;have:=t.size;omega))
 have bj:=(show∀g,rowOf (some ⟨J,0,none⟩) 4=some g->¬e g from bY)
 have ax:=be.chP R bj
 have cd:∀g,rowOf (some ⟨J,0,none⟩) 4=some g->¬e g:=fun g hg hF=>(ac _ hF).elim (bj g hg) (fun hz=>by have:=(be.row hg).2;omega)
 have bk:=(show∀g,rowOf K D=some g->¬e g from bZ)
 have bl:=bf.chP R bk
 have ce:∀g,rowOf K D=some g->¬e g:=fun g hg hF=>(ac _ hF).elim (bk g hg) (fun hz=>by have:=(bf.row hg).2;omega)
 have bm:=(show∀g,rowOf L N=some g->¬e g from b0)
 have bn:=bg.chP R bm
 have cf:∀g,rowOf L N=some g->¬e g:=fun g hg hF=>(ac _ hF).elim (bm g hg) (fun hz=>by have:=(bg.row hg).2;omega)
 have bo:=(show∀g,rowOf O P=some g->¬e g from b1)
 have bp:=bh.chP R bo
 have cg:∀g,rowOf O P=some g->¬e g:=fun g hg hF=>(ac _ hF).elim (bo g hg) (fun hz=>by have:=(bh.row hg).2;omega)
 have bq:=(show¬e Q from b2)
 have bs:=bi.chP R bq
 have ci:¬e Q:=fun hF=>(ac _ hF).elim bq (fun hz=>by have:=bi.lt;omega)
 have bt:=(show∀g,rowOf ai Z=some g->¬e g from(fun g hg hF=>by have:=af.lt hF;have:=(ab.row hg).1;omega))
 have bu:=ab.chP R bt
 have cj:∀g,rowOf ai Z=some g->¬e g:=fun g hg hF=>(ac _ hF).elim (bt g hg) (fun hz=>by have:=(ab.row hg).2;omega)
 refine Wn 1 rfl (Nx (Sr (Wn 2 rfl (W.cl go46 rfl rfl ((by have k:=rbest_ok (c:=4) 0 3 100 50 cc (m:=rM2) (g:=rG) I ax.vec (by decide);rw[sm3]at k;exact k)) ?_))))
 rintro _ cX ⟨ay,al,az,aA,aB,aC,rfl,ad,bv,bw,s⟩
 have bx:=(((bb.trans F).tb H bb bc).chP_then R (fun i hi=>Nat.le_trans L5.size (bd.old hi))).trans s
 have ad:=ad.cast (m':=2) rfl rfl
 refine Wn 1 rfl (Wa (.extract (v:= .slice ay 2 al) rfl rfl) rfl (Wa (.extract (v:= .agg #[.slice az ((digs 1).length) aA,.slice aB ((digs 1).length) aC]) rfl rfl) rfl (Wa (.extract (v:= .int .i64 (0)) rfl rfl) rfl (W.ef rfl rfl rfl (Ef.allocA z61 ?_)))))
 intro aE ck aF aG u
 have aG:Blk ck aE 61 #[.slice none 0 0,.slice none 0 0]:=aG
 refine Wn 1 rfl (W.sA sz61 rfl rfl aG ?_)
 intro bz aH x
 have aH:Blk bz aE 61 #[.slice az ((digs 1).length) aA,.slice aB ((digs 1).length) aC]:=aH
 refine Wn 1 rfl (Nx (Sr (Wn 2 rfl ?_)))
 have bA:=((I.le (s.trans u)).ch x (fun q hqq hF=>by cases hqq;have:=I.lt hF;have:=s.size;have:=aF;omega))
 have aj:=((ad.le u).cb x (ad.rn (by omega)))
 have cm:=apart_vec aj (show∀g,rowOf ay al=some g->¬e g from(fun g hg hF=>by have:=I.lt hF;have:=(aj.row hg).1;omega))
 refine W.cl go122 rfl rfl ((by have k:=rnote_ok (m:=rM2) (c:=al) 100 50 0 bz bA aj.vec (by decide) cm;rw[sn3]at k;exact k)) ?_
 rintro _ co ⟨rfl,aI,cY,y⟩
 have bB:=((bv.le u).cb x (bv.rn (by omega)))
 have bC:=((bw.le u).cb x (bw.rn (by omega)))
 have aJ:=((ax.le (s.trans u)).cb x (ax.rn (by have:=s.size;omega))).chP y (show∀g,rowOf (some ⟨J,0,none⟩) 4=some g->¬e g from cd)
 have aK:=((bl.le (s.trans u)).cb x (bl.rn (by have:=s.size;omega))).chP y (show∀g,rowOf K D=some g->¬e g from ce)
 have aL:=((bn.le (s.trans u)).cb x (bn.rn (by have:=s.size;omega))).chP y (show∀g,rowOf L N=some g->¬e g from cf)
 have aM:=((bp.le (s.trans u)).cb x (bp.rn (by have:=s.size;omega))).chP y (show∀g,rowOf O P=some g->¬e g from cg)
 have aO:=((bs.le (s.trans u)).cn x (by have:=bs.lt;have:=s.size;omega)).chP y (show¬e Q from ci)
 have aP:=((bu.le (s.trans u)).cb x (bu.rn (by have:=s.size;omega))).chP y (show∀g,rowOf ai Z=some g->¬e g from cj)
 have aQ:=aj.chP y (show∀g,rowOf ay al=some g->¬e g from(fun g hg hF=>by have:=I.lt hF;have:=(aj.row hg).1;omega))
 have aR:=bB.chP y (show∀g,rowOf az aA=some g->¬e g from(fun g hg hF=>by have:=I.lt hF;have:=(bB.row hg).1;omega))
 have aS:=bC.chP y (show∀g,rowOf aB aC=some g->¬e g from(fun g hg hF=>by have:=I.lt hF;have:=(bC.row hg).1;omega))
 have aT:=aH.chP y (show¬e aE from(fun hF=>by have:=I.lt hF;have:=s.size;have:=aF;omega))
 refine Wn 1 rfl (Nx (Sr (Wn 2 rfl (W.cl go46 rfl rfl ((by have k:=rbest_ok (c:=4) 0 3 100 50 co (m:=rM3) (g:=rG) aI aJ.vec (by decide);rw[sm4]at k;exact k)) ?_))))
 rintro _ cZ ⟨cp,cq,cr,cs,ct,cu,rfl,bD,c0,c1,f⟩
 have bE:=(((bx.trans u).tb x bx aF).chP_then y (fun i hi=>Nat.le_trans L5.size (bA.old hi))).trans f
 have bD:=bD.cast (m':=0) rfl rfl
 refine Wn 1 rfl (Wa (.extract (v:= .slice cp 0 cq) rfl rfl) rfl (Wa (.extract (v:= .agg #[.slice cr ((digs 0).length) cs,.slice ct ((digs 0).length) cu]) rfl rfl) rfl (Wa (.extract (v:= .int .i64 (19)) rfl rfl) rfl (W.ef rfl rfl rfl (Ef.allocA z61 ?_)))))
 intro cv cw bF aU h
 have aU:Blk cw cv 61 #[.slice none 0 0,.slice none 0 0]:=aU
 refine Wn 1 rfl (W.sA sz61 rfl rfl aU ?_)
 intro cx c2 l
 refine Wn 1 rfl (Nx (Sr (Wn 2 rfl ?_)))
 have cy:=((aI.le (f.trans h)).ch l (fun q hqq hF=>by cases hqq;have:=aI.lt hF;have:=f.size;have:=bF;omega))
 refine W.cl go46 rfl rfl ((by have k:=rbest_ok (c:=4) 0 0 100 50 cx (m:=rM3) (g:=rG) cy ((aJ.le (f.trans h)).cb l (aJ.rn (by have:=f.size;omega))).vec (by decide);rw[sm5]at k;exact k)) ?_
 rintro _ c3 ⟨cz,cA,cB,cC,cD,cE,rfl,bG,c4,c5,n⟩
 have bH:=((bE.trans h).tb l bE bF).trans n
 have bG:=bG.cast (m':=0) rfl rfl
 refine Wn 1 rfl (Wa (.extract (v:= .slice cz 0 cA) rfl rfl) rfl (Wa (.extract (v:= .agg #[.slice cB ((digs 0).length) cC,.slice cD ((digs 0).length) cE]) rfl rfl) rfl (Wa (.extract (v:= .int .i64 (1)) rfl rfl) rfl (W.ef rfl rfl rfl (Ef.allocA z61 ?_)))))
 intro cF cG cH aV z
 have aV:Blk cG cF 61 #[.slice none 0 0,.slice none 0 0]:=aV
 refine Wn 1 rfl (W.sA sz61 rfl rfl aV ?_)
 intro cI c6 A
 have bI:=(bH.trans z).tb A bH cH
 refine Wn 1 rfl (Nx (Sr (Wn 1 rfl (Wa (.dec (.eql rfl rfl) (show _=true from by first|decide|rfl)) rfl ?_))))
 refine Wn 2 rfl (Wg (.len underlying32 rfl) rfl (Wg (Any.rd (.dec (.eql rfl rfl) (show _=true from by first|decide|rfl)) _) rfl ?_))
 refine Wn 3 rfl (Wg (Any.rd (.idxS (0) underlying32 sz81 rfl rfl (S.vec.isSome edgeV_row (by omega)) (rfl) (by omega)) _) rfl (Wg (Any.rd (.vfield fa81_2 (S.vec.isSome edgeV_row (by omega)) rfl) _) rfl ?_))
 have cJ:=((((aK.le (f.trans h)).cb l (aK.rn (by have:=f.size;omega))).le (n.trans z)).cb A (aK.rn (by have:=f.size;have:=h.size;have:=l.size;have:=n.size;omega)))
 refine Wg (.vcell (j:=0) (o:=2) (v:= .int .i64 ((([rE 0 0 1,rE 1 1 3]).getD 0 noEdge).c)) na3 rfl cJ.vec edgeV_row (getS ([rE 0 0 1,rE 1 1 3]) noEdge (by first|omega|(simp only[List.length_cons,List.length_nil];omega))) rfl) rfl ?_
 refine Wg (Any.rd (.dec (.eql rfl rfl) (dT rfl)) _) rfl (Wn 2 rfl (Wg (.loadAll ag61 (by rfl) rfl ((((aO.le (f.trans h)).cn l (by have:=aO.lt;have:=f.size;omega)).le (n.trans z)).cn A (by have:=aO.lt;have:=f.size;have:=h.size;have:=l.size;have:=n.size;omega))) rfl ?_))
 refine W.efg rfl rfl rfl (rfl) rfl rfl (Ef.call go71 rfl rfl (ftext_ok cI (hT.le bI) ((((aL.le (f.trans h)).cb l (aL.rn (by have:=f.size;omega))).le (n.trans z)).cb A (aL.rn (by have:=f.size;have:=h.size;have:=l.size;have:=n.size;omega))).vec ((((aM.le (f.trans h)).cb l (aM.rn (by have:=f.size;omega))).le (n.trans z)).cb A (aM.rn (by have:=f.size;have:=h.size;have:=l.size;have:=n.size;omega))).vec (by omega) (by omega) (by decide+kernel) (by decide) (by decide)) ?_)
 rintro _ cK ⟨rfl,ae⟩
 refine⟨_,rfl,?_⟩
 have bJ:=bI.trans ae
 refine Wg (Any.rd (.eqlYes (a:=textF 810900 1002001) (b:=([56,49,48,57,48,48,47,49,48,48,50,48,48,49]:List UInt8)) rfl rfl (stx1)) _) rfl (Wn 3 rfl (Wg (Any.rd (.dec (.eql rfl rfl) (show _=true from by first|decide|rfl)) _) rfl ?_))
 refine Wn 3 rfl (Wg (Any.rd (.dec (.eql rfl rfl) (show _=true from by first|decide|rfl)) _) rfl ?_)
 refine Wn 3 rfl (Wg (.len underlying32 rfl) rfl (Wg (Any.rd (.dec (.eql rfl rfl) (show _=true from by first|decide|rfl)) _) rfl ?_))
 refine Wn 3 rfl (Wg (Any.rd (.idxS (0) underlying32 sz81 rfl rfl (aa.vec.isSome edgeV_row (by omega)) (rfl) (by omega)) _) rfl (Wg (Any.rd (.vfield fa81_2 (aa.vec.isSome edgeV_row (by omega)) rfl) _) rfl ?_))
 have cL:=(((((aP.le (f.trans h)).cb l (aP.rn (by have:=f.size;omega))).le (n.trans z)).cb A (aP.rn (by have:=f.size;have:=h.size;have:=l.size;have:=n.size;omega))).le ae)
 refine Wg (.vcell (j:=0) (o:=2) (v:= .int .i64 ((([rE 2 0 2,rE 3 2 3]).getD 0 noEdge).c)) na3 rfl cL.vec edgeV_row (getS ([rE 2 0 2,rE 3 2 3]) noEdge (by first|omega|(simp only[List.length_cons,List.length_nil];omega))) rfl) rfl ?_
 refine Wg (Any.rd (.dec (.eql rfl rfl) (dT rfl)) _) rfl (Wn 3 rfl (Wg (Any.rd (.dec (.eql rfl rfl) (show _=true from by first|decide|rfl)) _) rfl ?_))
 refine Wn 3 rfl (Wg (Any.rd (.dec (.eql rfl rfl) (show _=true from by first|decide|rfl)) _) rfl ?_)
 refine Wn 3 rfl (Wg (.len underlying32 rfl) rfl (Wg (Any.rd (.dec (.eql rfl rfl) (show _=true from by first|decide|rfl)) _) rfl ?_))
 refine Wn 3 rfl (Wg (Any.rd (.idxS (0) underlying32 sz81 rfl rfl (ad.vec.isSome edgeV_row (by omega)) (rfl) (by omega)) _) rfl (Wg (Any.rd (.vfield fa81_2 (ad.vec.isSome edgeV_row (by omega)) rfl) _) rfl ?_))
 have cM:=(((((aQ.le (f.trans h)).cb l (aQ.rn (by have:=f.size;omega))).le (n.trans z)).cb A (aQ.rn (by have:=f.size;have:=h.size;have:=l.size;have:=n.size;omega))).le ae)
 refine Wg (.vcell (j:=0) (o:=2) (v:= .int .i64 ((([rE 2 0 2,rE 3 2 3]).getD 0 noEdge).c)) na3 rfl cM.vec edgeV_row (getS ([rE 2 0 2,rE 3 2 3]) noEdge (by first|omega|(simp only[List.length_cons,List.length_nil];omega))) rfl) rfl ?_
 refine Wg (Any.rd (.dec (.eql rfl rfl) (dT rfl)) _) rfl (Wn 2 rfl (Wg (.loadAll ag61 (by rfl) rfl (((((aT.le (f.trans h)).cn l (by have:=aT.lt;have:=f.size;omega)).le (n.trans z)).cn A (by have:=aT.lt;have:=f.size;have:=h.size;have:=l.size;have:=n.size;omega)).le ae)) rfl ?_))
 refine W.efg rfl rfl rfl (rfl) rfl rfl (Ef.call go71 rfl rfl (ftext_ok cK (hT.le bJ) (((((aR.le (f.trans h)).cb l (aR.rn (by have:=f.size;omega))).le (n.trans z)).cb A (aR.rn (by have:=f.size;have:=h.size;have:=l.size;have:=n.size;omega))).le ae).vec (((((aS.le (f.trans h)).cb l (aS.rn (by have:=f.size;omega))).le (n.trans z)).cb A (aS.rn (by have:=f.size;have:=h.size;have:=l.size;have:=n.size;omega))).le ae).vec (by omega) (by omega) (by decide+kernel) (by decide) (by decide)) ?_)
 rintro _ c7 ⟨rfl,cN⟩
 refine⟨_,rfl,?_⟩
 refine Wg (Any.rd (.eqlYes (a:=textF 1 1) (b:=([49]:List UInt8)) rfl rfl (stx2)) _) rfl (Wn 3 rfl (Wg (Any.rd (.dec (.eql rfl rfl) (show _=true from by first|decide|rfl)) _) rfl ?_))
 refine Wn 3 rfl (Wg (Any.rd (.dec (.eql rfl rfl) (show _=true from by first|decide|rfl)) _) rfl ?_)
 refine Wn 3 rfl (Wg (Any.rd (.dec (.eql rfl rfl) (show _=true from by first|decide|rfl)) _) rfl ?_)
 refine Wn 2 rfl (Nx (Rt (E.retG1 rfl rfl ?_)))
 exact⟨rfl,(bJ.trans cN)⟩
end Go.Proofs.YtocheaahlpiajaaGreatDoor

namespace Go.Proofs.YtocheaahlpiajaaGreatDoor
open Go Go.Sx Go.Num Go.Gsp Go.Nsp Go.Msp Go.Rtp
set_option maxRecDepth 20000
theorem bestR_len {g:List Gsp.Edge}{m:MF}{fr to a x:Int}(hm:GoodM m):(bestR g m fr to a x).1.length<=8/\(digs (bestR g m fr to a x).2.1.n).length<=100/\(digs (bestR g m fr to a x).2.1.d).length<=100:=by
  rcases bestR_errs (g:=g) (fr:=fr) (to:=to) (a:=a) (x:=x) hm with h|h|h
  · obtain⟨_,c,e,_⟩:=bestR_ok hm h
    have b:=oddsR_len hm (bestR g m fr to a x).1 a x
    rw[<-e]at b
    exact⟨(wayG_len c.way).2,b⟩
  · rw[h];simp only[digs_zero];decide
  · rw[h];simp only[digs_zero];decide
end Go.Proofs.YtocheaahlpiajaaGreatDoor

namespace Go.Proofs.YtocheaahlpiajaaGreatDoor
open Go Go.Sx Go.Num Go.Gsp Go.Nsp Go.Msp Go.Rtp
set_option maxRecDepth 20000
theorem best_err {g:List Gsp.Edge}{m:MF}{fr to a x:Int}(hm:GoodM m)(h:(bestR g m fr to a x).2.2≠0):(bestR g m fr to a x).1=[]/\((bestR g m fr to a x).2.2=1\/∀w,¬(rightG g=true/\Cand g m fr to a x w)):=by
  rcases bestR_errs (g:=g) (fr:=fr) (to:=to) (a:=a) (x:=x) hm with b|b|b
  · exact absurd b h
  · rw[b];exact⟨rfl,.inl rfl⟩
  · have hb:badR g fr to a x=false:=by
      cases hb:badR g fr to a x
      · rfl
      · rw[bestR_bad hb]at b;simp at b
    exact⟨by rw[b],.inr fun w hw=>(bestR_no hm hb h).2 w hw.2⟩
theorem best_all {g:List Gsp.Edge}{m:MF}{fr to a x:Int}(hm:GoodM m)(h:(bestR g m fr to a x).2.2=0):rightG g=true/\Cand g m fr to a x (bestR g m fr to a x).1/\(bestR g m fr to a x).2.1=(oddsR m (bestR g m fr to a x).1 a x).1/\∀w,Cand g m fr to a x w->ordB (fo m a x (bestR g m fr to a x).1) (fo m a x w)<=0:=by
  obtain⟨b,c⟩:=bestR_ok hm h
  exact⟨(bad_T b).1,c⟩
end Go.Proofs.YtocheaahlpiajaaGreatDoor

