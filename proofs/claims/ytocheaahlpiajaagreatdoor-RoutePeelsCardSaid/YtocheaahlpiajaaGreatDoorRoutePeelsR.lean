/- RoutePeels: for every input the law answers true and leaves its arguments as they were. -/
import Derived.Test.YtocheaahlpiajaaGreatDoorRoutePeelsQ
import Derived.Shelf.Strconv.Itoa3
import Derived.Lib.ItoaLen
import Derived.Lib.AppendIntMem
set_option linter.unusedVariables false
set_option linter.unusedSimpArgs false
set_option maxRecDepth 20000
namespace Go.Proofs
open Go.Shelf
def Tryz.laysM171_ren:Go.Shelf.Ren:=⟨fun|171=>241|243=>294|246=>329|283=>350|284=>351|285=>352|286=>353|129=>326|317=>360|318=>361|319=>362|320=>363|337=>365|338=>366|n=>n,fun|3=>3|9=>9|2=>2|4=>4|171=>398|0=>0|53=>27|37=>26|5=>5|173=>400|212=>410|51=>273|20=>20|213=>411|46=>287|232=>29|233=>413|n=>n,fun|17=>2|18=>4|19=>5|n=>n⟩
theorem Tryz.laysM171:Go.Proofs.LaysM.n171 prog Tryz.laysM171_ren:={
  mixed:=by kernel_rfl
  f129:=func326.trans (congrArg some (by kernel_rfl))
  f171:=func241.trans (congrArg some (by kernel_rfl))
  f243:=func294.trans (congrArg some (by kernel_rfl))
  f246:=func329.trans (congrArg some (by kernel_rfl))
  f283:=func350.trans (congrArg some (by kernel_rfl))
  f284:=func351.trans (congrArg some (by kernel_rfl))
  f285:=func352.trans (congrArg some (by kernel_rfl))
  f286:=func353.trans (congrArg some (by kernel_rfl))
  f317:=func360.trans (congrArg some (by kernel_rfl))
  f318:=func361.trans (congrArg some (by kernel_rfl))
  f319:=func362.trans (congrArg some (by kernel_rfl))
  f320:=func363.trans (congrArg some (by kernel_rfl))
  f337:=func365.trans (congrArg some (by kernel_rfl))
  f338:=func366.trans (congrArg some (by kernel_rfl))
  t0:=underlying0
  a0:=Tryz.isAgg0
  z0:=Tryz.sizeOf0
  v0:=Tryz.zeroValue0
  t2:=underlying2
  a2:=Tryz.isAgg2
  z2:=Tryz.sizeOf2
  v2:=Tryz.zeroValue2
  t3:=underlying3
  a3:=Tryz.isAgg3
  z3:=Tryz.sizeOf3
  v3:=Tryz.zeroValue3
  t4:=underlying4
  a4:=Tryz.isAgg4
  z4:=Tryz.sizeOf4
  v4:=Tryz.zeroValue4
  t5:=underlying5
  a5:=Tryz.isAgg5
  z5:=Tryz.sizeOf5
  v5:=Tryz.zeroValue5
  t9:=underlying9
  a9:=Tryz.isAgg9
  z9:=Tryz.sizeOf9
  v9:=Tryz.zeroValue9
  t20:=underlying20
  a20:=Tryz.isAgg20
  z20:=Tryz.sizeOf20
  v20:=Tryz.zeroValue20
  t37:=underlying26
  a37:=Tryz.isAgg26
  z37:=Tryz.sizeOf26
  v37:=Tryz.zeroValue26
  t46:=underlying287
  a46:=Tryz.isAgg287
  z46:=Tryz.sizeOf287
  v46:=Tryz.zeroValue287
  t51:=underlying273
  a51:=Tryz.isAgg273
  z51:=Tryz.sizeOf273
  v51:=Tryz.zeroValue273
  t53:=underlying27
  a53:=Tryz.isAgg27
  z53:=Tryz.sizeOf27
  v53:=Tryz.zeroValue27
  t171:=underlying398
  a171:=Tryz.isAgg398
  z171:=Tryz.sizeOf398
  v171:=Tryz.zeroValue398
  t173:=underlying400
  a173:=Tryz.isAgg400
  z173:=Tryz.sizeOf400
  v173:=Tryz.zeroValue400
  t212:=underlying410
  a212:=Tryz.isAgg410
  z212:=Tryz.sizeOf410
  v212:=Tryz.zeroValue410
  t213:=underlying411
  a213:=Tryz.isAgg411
  z213:=Tryz.sizeOf411
  t232:=underlying29
  a232:=Tryz.isAgg29
  z232:=Tryz.sizeOf29
  v232:=Tryz.zeroValue29
  t233:=underlying413
  a233:=Tryz.isAgg413
  z233:=Tryz.sizeOf413
  v233:=Tryz.zeroValue413
  g17:=by kernel_rfl
  g18:=by kernel_rfl
  g19:=by kernel_rfl
  i0:=by kernel_rfl
  i2:=by kernel_rfl
  i3:=by kernel_rfl
  i4:=by kernel_rfl
  i5:=by kernel_rfl
  i9:=by kernel_rfl
  i20:=by kernel_rfl
  i37:=by kernel_rfl
  i46:=by kernel_rfl
  i51:=by kernel_rfl
  i53:=by kernel_rfl
  i171:=by kernel_rfl
  i173:=by kernel_rfl
  i212:=by kernel_rfl
  i232:=by kernel_rfl
  i233:=by kernel_rfl
  m17:=by kernel_rfl
  m18:=by kernel_rfl
  m19:=by kernel_rfl}
end Go.Proofs
namespace Go.Proofs.YtocheaahlpiajaaGreatDoor
open Tryz
open Go Go.Sx Go.Nsp
def Tab (w:World):Prop:=Lib.TabIs prog w "internal/strconv.uint64pow10" .u64 Lib.pow10Tab
theorem Tab.le {w w':World}(h:Tab w)(hl:Le w w'):Tab w':=Lib.tabBelow_of_tabIs h w' hl
theorem itoa_len {p:Nat}(h:p<1000000000):(Lib.itoa ((p:Nat):Int)).length<=21:=Lib.itoa_length_le _ (by omega) (by omega)
theorem itoa_ok (p:Nat)(w:World)(hT:Tab w)(h0:0<=p)(h1:p<1000000000):Calls prog 241 #[.int .i64 ((p:Nat):Int)] w fun r w'=>r= .returned (.string ⟨(Lib.itoa ((p:Nat):Int)).toArray⟩)/\Le w w':=
  (Any.strconv_Itoa Tryz.laysM171 ((p:Nat):Int) (by omega) (by omega) w hT).mono (by
    rintro _ w' ⟨rfl,k,os,rfl⟩
    exact⟨rfl,Lib.below_grow _ w (Nat.le_refl _) k os⟩)
def textF (p q:Nat):List UInt8:=if q=1 then Lib.itoa ((p:Nat):Int)else Lib.itoa ((p:Nat):Int)++([47]:List UInt8)++Lib.itoa ((q:Nat):Int)
theorem digs_lots:digs 1000000000=[1000000000]:=by rw[digs_pos (by decide),show 1000000000/B=0 from rfl,digs_zero];rfl
theorem ntext_ok {A:Option Addr}{n c p:Nat}(w:World)(hT:Tab w)(hV:Vec w dv 1 A n (digs p))(hn:n<=10000)(hp1:p<1000000000):Calls prog 166 #[.slice A n c] w fun r w'=>r= .returned (.string ⟨(Lib.itoa ((p:Nat):Int)).toArray⟩)/\Le w w':=by
 have hl:=hV.1
 refine enter func166 rfl rfl ?_
 have h:=Le.refl w
 refine WC.sr (W.run 1 rfl (W.nx (WC.sr (W.run 1 rfl (W.cl go211 rfl rfl (ntaken_ok w (hV.le h) (by omega)) ?_)))))
 rintro _ m ⟨rfl,o⟩
 refine W.run 1 rfl (W.nx (WC.sr (W.run 1 rfl (W.nx (WC.block (WC.loop (ι:=Nat) (fun k=>[(0,.slice A n c),(3,.string ⟨([]:List UInt8).toArray⟩)]) (fun k d=>Le w d/\m.heap.size<=d.heap.size) (fun k=>k) 0 ?_ ?_ ?_))))))
 ·exact .cons rfl (.cons rfl (.nil _))
 ·exact⟨(h.trans o),Nat.le_refl _⟩
 rintro k d ⟨s,J⟩
 refine WC.block (WC.sr (W.run 1 rfl (W.ef rfl rfl rfl (Ef.buildSliceV (len:=1) [_] underlying59 el273 rfl (by simp[Value.cells]) rfl (by decide) (by decide) ?_))))
 intro i e t f u
 have j:=s.trans u
 have f:Blk e i 273 (([1000000000]).map dv).flatten.toArray:=f
 have x:OVec e d.heap.size 273 dv 1 (some ⟨i,0,none⟩) 1 1 ([1000000000]):=f.ovec t dv_row rfl rfl (by decide)
 have y:=x.cast (m':=1) (ys:=(digs 1000000000)) (rfl) (digs_lots.symm)
 refine W.cl go209 rfl rfl (ndivmod_ok e (hV.le j) y.vec (by omega) (by omega) (by omega)) ?_
 rintro _ z ⟨K,L,N,O,rfl,P,C,D⟩
 refine W.run 7 rfl (W.nx (WC.sr (W.run 1 rfl (W.cl go240 rfl rfl (nint_ok z C.vec (by omega)) ?_))))
 rintro _ F ⟨rfl,H⟩
 have l:=(j.trans D).trans H
 refine W.run 5 rfl (W.nx (WC.sr (W.run 1 rfl (W.cl go241 rfl rfl (itoa_ok (p%1000000000) F (hT.le l) (by omega) (by omega)) ?_))))
 rintro _ Q ⟨rfl,I⟩
 refine W.run 1 rfl (W.nx (WC.seq (WC.sr (W.run 1 rfl (W.r (.len underlying59 rfl) ?_)))))
 refine W.run 1 rfl (W.nx (WC.condY rfl (dT (by rw[Nat.div_eq_of_lt hp1,digs_zero];rfl)) ?_))
 refine WC.sr (W.run 2 rfl (W.a (.addStr (a:=Lib.itoa (((p%1000000000):Nat):Int)) (b:=([]:List UInt8)) rfl rfl (Nat.le_trans (itoa_len (by omega)) (by decide)) (by decide)) ?_))
 refine W.run 1 rfl (W.nx (WC.ret (E.thenR (E.blkR (E.thenR (E.blkR (E.retG1 rfl rfl ?_)))))))
 exact⟨congrArg (fun v=>Ending.returned (Value.string ⟨List.toArray v⟩)) (by simp[show p%1000000000=p from Nat.mod_eq_of_lt hp1]),(l.trans I)⟩

theorem ftext_ok {An Ad:Option Addr}{nn cn nd cd p q:Nat}(w:World)(hT:Tab w)(hn:Vec w dv 1 An nn (digs p))(hd:Vec w dv 1 Ad nd (digs q))(bn:nn<=10000)(bd:nd<=10000)(hok:okB p q=true)(hp1:p<1000000000)(hq1:q<1000000000):Calls prog 71 #[.agg #[.slice An nn cn,.slice Ad nd cd]] w fun r w'=>r= .returned (.string ⟨(textF p q).toArray⟩)/\Le w w':=by
 have hln:=hn.1;have hld:=hd.1
 have T:=digs_len_one (d:=1) (by decide)
 refine enter func71 rfl rfl ?_
 have n:=Le.refl w
 refine WC.sr (W.ef rfl rfl rfl (Ef.boxA rfl fun o s H (t:Blk s o 61 #[.slice An nn cn,.slice Ad nd cd]) I=>?_))
 have i:=n.trans I
 refine W.run 1 rfl (W.nx (WC.sr (W.r (.loadAll ag61 (by rfl) rfl t) ?_)))
 refine W.cl go165 rfl rfl (ftaken_yes s (hn.le i) (hd.le i) (by omega) (by omega) hok) ?_
 rintro _ U ⟨rfl,u⟩
 refine W.sA sz61 rfl rfl (t.le u) ?_
 intro J j K
 have j:Blk J o 61 #[.slice An nn cn,.slice Ad nd cd]:=j
 refine W.nx (WC.seq (WC.seq (WC.draw [0,1,2,3,4] mixed (by kernel_rfl) fun L x=>(G.a rfl (.field0 fa61_1 rfl) ?_))))
 have k:=(j.le x)
 refine G.r rfl (.loadB (v:= .slice Ad nd cd) na59 rfl k rfl) ?_
 refine G.ef rfl rfl rfl rfl rfl (Ef.call go111 rfl rfl (fone_ok L) ?_)
 rintro _ N ⟨V,X,rfl,O,c⟩
 refine⟨_,rfl,?_⟩
 refine⟨fun _=>c,?_⟩
 have y:=(((i.trans u).tb K n H).trans x).trans c
 refine G.ef rfl rfl rfl rfl rfl (Ef.call go109 rfl rfl (ncmp_ok N (hd.le y) O.vec (by omega) (by omega)) ?_)
 rintro _ P ⟨rfl,e⟩
 refine⟨_,rfl,?_⟩
 refine⟨fun _=>e,?_⟩
 have f:=y.trans e
 refine G.run 1 rfl (G.nil (E.thenN ?_))
 by_cases z:(cmpN q 1)=0
 ·refine WC.condY rfl (decide_eq_true z) (WC.sr (W.a (.field0 fa61_0 rfl) ?_))
  refine W.r (.loadB (v:= .slice An nn cn) na59 rfl (k.le (c.trans e)) rfl) ?_
  refine W.cl go166 rfl rfl (ntext_ok P (hT.le f) (hn.le f) (by omega) (by omega)) ?_
  rintro _ Y ⟨rfl,Q⟩
  refine W.run 1 rfl (W.nx (WC.ret (E.thenR (E.retG1 rfl rfl ?_))))
  exact⟨congrArg (fun v=>Ending.returned (Value.string ⟨List.toArray v⟩)) (by unfold textF;first|rw[if_pos (cmpN_eq.1 (by assumption))]|rw[if_neg (fun h=>absurd (cmpN_eq.2 h) (by assumption))]),(f.trans Q)⟩
 refine WC.condN rfl (decide_eq_false z) (WC.sn (WC.seq (WC.draw [0,1,4,5,2,3,6,7,8] mixed (by kernel_rfl) fun R A=>?_)))
 have l:=f.trans A
 refine G.a rfl (.field0 fa61_0 rfl) ?_
 have C:=(k.le (c.trans (e.trans A)))
 refine G.r rfl (.loadB (v:= .slice An nn cn) na59 rfl C rfl) ?_
 refine G.a rfl (.field0 fa61_1 rfl) ?_
 refine G.r rfl (.loadB (v:= .slice Ad nd cd) na59 rfl C rfl) ?_
 refine G.ef rfl rfl rfl rfl rfl (Ef.call go166 rfl rfl (ntext_ok R (hT.le l) (hn.le l) (by omega) (by omega)) ?_)
 rintro _ S ⟨rfl,D⟩
 refine⟨_,rfl,?_⟩
 refine⟨fun _=>D,?_⟩
 have m:=l.trans D
 refine G.a rfl (.addStr (a:=Lib.itoa ((p:Nat):Int)) (b:=([47]:List UInt8)) rfl rfl (Nat.le_trans (itoa_len (by omega)) (by decide)) (by decide)) ?_
 refine G.ef rfl rfl rfl rfl rfl (Ef.call go166 rfl rfl (ntext_ok S (hT.le m) (hd.le m) (by omega) (by omega)) ?_)
 rintro _ Z ⟨rfl,F⟩
 refine⟨_,rfl,?_⟩
 refine⟨fun _=>F,?_⟩
 refine G.a rfl (.addStr (a:=(Lib.itoa ((p:Nat):Int))++([47]:List UInt8)) (b:=Lib.itoa ((q:Nat):Int)) rfl rfl (by have:=itoa_len (p:=p) (by omega);simp only[List.length_append,List.length_cons,List.length_nil];omega) (Nat.le_trans (itoa_len (by omega)) (by decide))) ?_
 refine G.run 1 rfl (G.nil (E.thenN (WC.ret (E.retG1 rfl rfl ?_))))
 exact⟨congrArg (fun v=>Ending.returned (Value.string ⟨List.toArray v⟩)) (by unfold textF;first|rw[if_pos (cmpN_eq.1 (by assumption))]|rw[if_neg (fun h=>absurd (cmpN_eq.2 h) (by assumption))]),(m.trans F)⟩
end Go.Proofs.YtocheaahlpiajaaGreatDoor

namespace Go.Proofs.YtocheaahlpiajaaGreatDoor
open Tryz
open Go Go.Sx Go.Num Go.Gsp Go.Nsp Go.Msp Go.Rtp
set_option maxRecDepth 20000
def rE (c f t:Int):Gsp.Edge:=⟨f,t,c,1000,⟨1,0,5,1,1000⟩⟩
def rG:List Gsp.Edge:=[rE 0 0 1,rE 1 1 3,rE 2 0 2,rE 3 2 3]
def rM0:MF:=fun _=>none
def rM1:MF:=(noteR rM0 [rE 0 0 1,rE 1 1 3] 100 50 1).1
def rM2:MF:=(noteR rM1 [rE 2 0 2,rE 3 2 3] 100 50 (-1)).1
def rM3:MF:=(noteR rM2 [rE 2 0 2,rE 3 2 3] 100 50 0).1
theorem sm1:bestR rG rM0 0 3 100 50=([rE 0 0 1,rE 1 1 3],⟨810900,1002001⟩,0):=by decide+kernel
theorem sn1:(noteR rM0 [rE 0 0 1,rE 1 1 3] 100 50 1).2=0:=by decide+kernel
theorem sm2:bestR rG rM1 0 3 100 50=([rE 2 0 2,rE 3 2 3],⟨810900,1002001⟩,0):=by decide+kernel
theorem sn2:(noteR rM1 [rE 2 0 2,rE 3 2 3] 100 50 (-1)).2=0:=by decide+kernel
theorem sm3:bestR rG rM2 0 3 100 50=([rE 2 0 2,rE 3 2 3],⟨1,1⟩,0):=by decide+kernel
theorem sn3:(noteR rM2 [rE 2 0 2,rE 3 2 3] 100 50 0).2=0:=by decide+kernel
theorem sm4:bestR rG rM3 0 3 100 50=([],⟨0,0⟩,19):=by decide+kernel
theorem sm5:bestR rG rM3 0 0 100 50=([],⟨0,0⟩,1):=by decide+kernel
theorem stx1:textF 810900 1002001=[56,49,48,57,48,48,47,49,48,48,50,48,48,49]:=by simp[textF,Lib.itoa,Lib.decDigits]
theorem stx2:textF 1 1=[49]:=by simp[textF,Lib.itoa,Lib.decDigits]
set_option maxHeartbeats 4000000 in
theorem small38_ok (w:World) (hT:Tab w):Calls prog 48 #[] w fun r w'=>r= .returned (.bool true)/\Le w w':=by
 have cX:=digs_len_one (d:=810900) (by decide);have cY:=digs_len_one (d:=1002001) (by decide);have cZ:=digs_len_one (d:=1) (by decide)
 refine enter func48 rfl rfl (WC.sr (W.run 1 rfl (W.nx (WC.sr (W.cl go121 rfl rfl (rledge_ok 0 0 1 w) ?_)))))
 rintro _ bF ⟨rfl,bG⟩
 refine W.cl go121 rfl rfl (rledge_ok 1 1 3 bF) ?_
 rintro _ bH ⟨rfl,bI⟩
 refine W.cl go121 rfl rfl (rledge_ok 2 0 2 bH) ?_
 rintro _ bJ ⟨rfl,bK⟩
 refine W.cl go121 rfl rfl (rledge_ok 3 2 3 bJ) ?_
 rintro _ bL ⟨rfl,bM⟩
 refine W.ef rfl rfl rfl (Ef.buildSliceV (len:=4) [_,_,_,_] underlying32 el81 rfl (by simp[Value.cells,edgeV_row.len]) rfl (by decide) (by decide) ?_)
 intro J am bN an bO
 have L5:=(((((Le.refl w).trans bG).trans bI).trans bK).trans bM).trans bO
 have an:Blk am J 81 (([(rE 0 0 1),(rE 1 1 3),(rE 2 0 2),(rE 3 2 3)]).map edgeV).flatten.toArray:=an
 have aR:OVec am bL.heap.size 81 edgeV 9 (some ⟨J,0,none⟩) 4 4 ([(rE 0 0 1),(rE 1 1 3),(rE 2 0 2),(rE 3 2 3)]):=an.ovec bN edgeV_row rfl rfl (by decide)
 have o6:=aR.cast (m':=4) (ys:=rG) (rfl) (rfl)
 refine W.run 1 rfl (W.nx (WC.sr (W.cl go64 rfl rfl (new_mind am) ?_)))
 rintro _ bP ⟨c0,e,rfl,C,aS⟩
 refine W.run 1 rfl (W.nx (WC.seq (WC.sr (W.run 1 rfl (W.a (.dec (.isNilP (by kernel_rfl) rfl) rfl) ?_)))))
 refine W.nx (WC.condF rfl (WC.sn (WC.sr (W.run 2 rfl ?_))))
 have f8:=(o6.le aS)
 refine W.cl go46 rfl rfl ((by have k:=rbest_ok (c:=4) 0 3 100 50 bP (m:=rM0) (g:=rG) C f8.vec (by decide);rw[sm1]at k;exact k)) ?_
 rintro _ c1 ⟨K,D,L,N,O,P,rfl,S,aT,aU,T⟩
 have L9:=(L5.trans aS).trans T
 have S:=S.cast (m':=2) rfl rfl
 refine W.run 1 rfl (W.a (.extract (v:= .slice K 2 D) rfl rfl) ?_)
 refine W.a (.extract (v:= .agg #[.slice L ((digs 810900).length) N,.slice O ((digs 1002001).length) P]) rfl rfl) ?_
 refine W.a (.extract (v:= .int .i64 (0)) rfl rfl) ?_
 refine W.ef rfl rfl rfl (Ef.allocA z61 fun Q bQ ao (bR:Blk bQ Q 61 #[.slice none 0 0,.slice none 0 0]) U=>(W.run 1 rfl (W.sA sz61 rfl rfl bR ?_)))
 intro aV ak V
 have ak:Blk aV Q 61 #[.slice L ((digs 810900).length) N,.slice O ((digs 1002001).length) P]:=ak
 refine W.run 1 rfl (W.nx (WC.sr (W.run 2 rfl ?_)))
 have ap:=((C.le (T.trans U)).ch V (fun q hqq hF=>by cases hqq;have:=C.lt hF;have:=T.size;have:=ao;omega))
 have X:=((S.le U).ch V (fun q hq=>by cases hq;exact(fun he=>by have:=(S.row he).2;omega)))
 have bS:=apart_vec X (show∀g,rowOf K D=some g->¬e g from(fun g hg hF=>by have:=C.lt hF;have:=(X.row hg).1;omega))
 refine W.cl go122 rfl rfl ((by have k:=rnote_ok (m:=rM0) (c:=D) 100 50 1 aV ap X.vec (by decide) bS;rw[sn1]at k;exact k)) ?_
 rintro _ bT ⟨rfl,af,ah,Y⟩
 have aW:=((f8.le (T.trans U)).ch V (fun q hq=>by cases hq;exact(fun he=>by have:=(f8.row he).2;have:=T.size;omega)))
 have aq:=((aT.le U).ch V (fun q hq=>by cases hq;exact(fun he=>by have:=(aT.row he).2;omega)))
 have ar:=((aU.le U).ch V (fun q hq=>by cases hq;exact(fun he=>by have:=(aU.row he).2;omega)))
 have aX:=(show∀g,rowOf (some ⟨J,0,none⟩) 4=some g->¬e g from(fun g hg hF=>by have:=ap.old hF;have:=(aR.row hg).2;omega))
 have au:=aW.chP Y aX
 have bU:∀g,rowOf (some ⟨J,0,none⟩) 4=some g->¬e g:=fun g hg hF=>(ah _ hF).elim (aX g hg) (fun hz=>by have:=(aW.row hg).2;omega)
 have aY:=(show∀g,rowOf K D=some g->¬e g from(fun g hg hF=>by have:=C.lt hF;have:=(X.row hg).1;omega))
 have aZ:=X.chP Y aY
 have bV:∀g,rowOf K D=some g->¬e g:=fun g hg hF=>(ah _ hF).elim (aY g hg) (fun hz=>by have:=(X.row hg).2;omega)
 have a0:=(show∀g,rowOf L N=some g->¬e g from(fun g hg hF=>by have:=C.lt hF;have:=(aq.row hg).1;omega))
 have a1:=aq.chP Y a0
 have bW:∀g,rowOf L N=some g->¬e g:=fun g hg hF=>(ah _ hF).elim (a0 g hg) (fun hz=>by have:=(aq.row hg).2;omega)
 have a2:=(show∀g,rowOf O P=some g->¬e g from(fun g hg hF=>by have:=C.lt hF;have:=(ar.row hg).1;omega))
 have a3:=ar.chP Y a2
 have bX:∀g,rowOf O P=some g->¬e g:=fun g hg hF=>(ah _ hF).elim (a2 g hg) (fun hz=>by have:=(ar.row hg).2;omega)
 have a4:=(show¬e Q from(fun hF=>by have:=C.lt hF;have:=T.size;have:=ao;omega))
 have a5:=ak.chP Y a4
 have bY:¬e Q:=fun hF=>(ah _ hF).elim a4 (fun hz=>by have:=ak.lt;omega)
 refine W.run 1 rfl (W.nx (WC.sr (W.run 2 rfl (W.cl go46 rfl rfl ((by have k:=rbest_ok (c:=4) 0 3 100 50 bT (m:=rM1) (g:=rG) af au.vec (by decide);rw[sm2]at k;exact k)) ?_))))
 rintro _ c2 ⟨ai,Z,bZ,b0,b1,b2,rfl,aa,c3,c4,t⟩
 have a6:=(((L9.trans U).tb V L9 ao).chP_then Y (fun i hi=>Nat.le_trans L5.size (ap.old hi))).trans t
 have aa:=aa.cast (m':=2) rfl rfl
 refine W.run 1 rfl (W.a (.extract (v:= .slice ai 2 Z) rfl rfl) ?_)
 refine W.a (.extract (v:= .agg #[.slice bZ ((digs 810900).length) b0,.slice b1 ((digs 1002001).length) b2]) rfl rfl) ?_
 refine W.a (.extract (v:= .int .i64 (0)) rfl rfl) ?_
 refine W.ef rfl rfl rfl (Ef.allocA z61 fun b3 b4 a7 (b5:Blk b4 b3 61 #[.slice none 0 0,.slice none 0 0]) F=>(W.run 1 rfl (W.sA sz61 rfl rfl b5 ?_)))
 intro b6 c5 H
 refine W.run 1 rfl (W.nx (WC.sr (W.run 2 rfl ?_)))
 have a8:=((af.le (t.trans F)).ch H (fun q hqq hF=>by cases hqq;have:=af.lt hF;have:=t.size;have:=a7;omega))
 have ab:=((aa.le F).ch H (fun q hq=>by cases hq;exact(fun he=>by have:=(aa.row he).2;omega)))
 have b7:=apart_vec ab (show∀g,rowOf ai Z=some g->¬e g from(fun g hg hF=>by have:=af.lt hF;have:=(ab.row hg).1;omega))
 refine W.cl go122 rfl rfl ((by have k:=rnote_ok (m:=rM1) (c:=Z) 100 50 (-1) b6 a8 ab.vec (by decide) b7;rw[sn2]at k;exact k)) ?_
 rintro _ b8 ⟨rfl,I,ac,R⟩
 have a9:=((au.le (t.trans F)).ch H (fun q hq=>by cases hq;exact(fun he=>by have:=(au.row he).2;have:=t.size;omega)))
 have ba:=((aZ.le (t.trans F)).ch H (fun q hq=>by cases hq;exact(fun he=>by have:=(aZ.row he).2;have:=t.size;omega)))
 have bb:=((a1.le (t.trans F)).ch H (fun q hq=>by cases hq;exact(fun he=>by have:=(a1.row he).2;have:=t.size;omega)))
 have bc:=((a3.le (t.trans F)).ch H (fun q hq=>by cases hq;exact(fun he=>by have:=(a3.row he).2;have:=t.size;omega)))
 have bd:=((a5.le (t.trans F)).cn H (by have:=a5.lt;have:=t.size;omega))
 have be:=(show∀g,rowOf (some ⟨J,0,none⟩) 4=some g->¬e g from bU)
 have av:=a9.chP R be
 have b9:∀g,rowOf (some ⟨J,0,none⟩) 4=some g->¬e g:=fun g hg hF=>(ac _ hF).elim (be g hg) (fun hz=>by have:=(a9.row hg).2;omega)
 have bf:=(show∀g,rowOf K D=some g->¬e g from bV)
 have bg:=ba.chP R bf
 have ca:∀g,rowOf K D=some g->¬e g:=fun g hg hF=>(ac _ hF).elim (bf g hg) (fun hz=>by have:=(ba.row hg).2;omega)
 have bh:=(show∀g,rowOf L N=some g->¬e g from bW)
 have bi:=bb.chP R bh
 have cb:∀g,rowOf L N=some g->¬e g:=fun g hg hF=>(ac _ hF).elim (bh g hg) (fun hz=>by have:=(bb.row hg).2;omega)
 have bj:=(show∀g,rowOf O P=some g->¬e g from bX)
 have bk:=bc.chP R bj
 have cc:∀g,rowOf O P=some g->¬e g:=fun g hg hF=>(ac _ hF).elim (bj g hg) (fun hz=>by have:=(bc.row hg).2;omega)
 have bl:=(show¬e Q from bY)
 have bm:=bd.chP R bl
 have cd:¬e Q:=fun hF=>(ac _ hF).elim bl (fun hz=>by have:=bd.lt;omega)
 have bn:=(show∀g,rowOf ai Z=some g->¬e g from(fun g hg hF=>by have:=af.lt hF;have:=(ab.row hg).1;omega))
 have bo:=ab.chP R bn
 have ce:∀g,rowOf ai Z=some g->¬e g:=fun g hg hF=>(ac _ hF).elim (bn g hg) (fun hz=>by have:=(ab.row hg).2;omega)
 refine W.run 1 rfl (W.nx (WC.sr (W.run 2 rfl (W.cl go46 rfl rfl ((by have k:=rbest_ok (c:=4) 0 3 100 50 b8 (m:=rM2) (g:=rG) I av.vec (by decide);rw[sm3]at k;exact k)) ?_))))
 rintro _ c6 ⟨aw,al,ax,ay,az,aA,rfl,ad,bp,bq,s⟩
 have bs:=(((a6.trans F).tb H a6 a7).chP_then R (fun i hi=>Nat.le_trans L5.size (a8.old hi))).trans s
 have ad:=ad.cast (m':=2) rfl rfl
 refine W.run 1 rfl (W.a (.extract (v:= .slice aw 2 al) rfl rfl) ?_)
 refine W.a (.extract (v:= .agg #[.slice ax ((digs 1).length) ay,.slice az ((digs 1).length) aA]) rfl rfl) ?_
 refine W.a (.extract (v:= .int .i64 (0)) rfl rfl) ?_
 refine W.ef rfl rfl rfl (Ef.allocA z61 fun aB cf aC (cg:Blk cf aB 61 #[.slice none 0 0,.slice none 0 0]) u=>(W.run 1 rfl (W.sA sz61 rfl rfl cg ?_)))
 intro bt aE x
 have aE:Blk bt aB 61 #[.slice ax ((digs 1).length) ay,.slice az ((digs 1).length) aA]:=aE
 refine W.run 1 rfl (W.nx (WC.sr (W.run 2 rfl ?_)))
 have bu:=((I.le (s.trans u)).ch x (fun q hqq hF=>by cases hqq;have:=I.lt hF;have:=s.size;have:=aC;omega))
 have aj:=((ad.le u).ch x (fun q hq=>by cases hq;exact(fun he=>by have:=(ad.row he).2;omega)))
 have ci:=apart_vec aj (show∀g,rowOf aw al=some g->¬e g from(fun g hg hF=>by have:=I.lt hF;have:=(aj.row hg).1;omega))
 refine W.cl go122 rfl rfl ((by have k:=rnote_ok (m:=rM2) (c:=al) 100 50 0 bt bu aj.vec (by decide) ci;rw[sn3]at k;exact k)) ?_
 rintro _ cj ⟨rfl,aF,c7,y⟩
 have ck:=((av.le (s.trans u)).ch x (fun q hq=>by cases hq;exact(fun he=>by have:=(av.row he).2;have:=s.size;omega)))
 have cm:=((bg.le (s.trans u)).ch x (fun q hq=>by cases hq;exact(fun he=>by have:=(bg.row he).2;have:=s.size;omega)))
 have co:=((bi.le (s.trans u)).ch x (fun q hq=>by cases hq;exact(fun he=>by have:=(bi.row he).2;have:=s.size;omega)))
 have cp:=((bk.le (s.trans u)).ch x (fun q hq=>by cases hq;exact(fun he=>by have:=(bk.row he).2;have:=s.size;omega)))
 have cq:=((bo.le (s.trans u)).ch x (fun q hq=>by cases hq;exact(fun he=>by have:=(bo.row he).2;have:=s.size;omega)))
 have bv:=((bp.le u).ch x (fun q hq=>by cases hq;exact(fun he=>by have:=(bp.row he).2;omega)))
 have bw:=((bq.le u).ch x (fun q hq=>by cases hq;exact(fun he=>by have:=(bq.row he).2;omega)))
 have aG:=ck.chP y (show∀g,rowOf (some ⟨J,0,none⟩) 4=some g->¬e g from b9)
 have aH:=cm.chP y (show∀g,rowOf K D=some g->¬e g from ca)
 have aI:=co.chP y (show∀g,rowOf L N=some g->¬e g from cb)
 have aJ:=cp.chP y (show∀g,rowOf O P=some g->¬e g from cc)
 have aK:=((bm.le (s.trans u)).cn x (by have:=bm.lt;have:=s.size;omega)).chP y (show¬e Q from cd)
 have aL:=cq.chP y (show∀g,rowOf ai Z=some g->¬e g from ce)
 have aM:=aj.chP y (show∀g,rowOf aw al=some g->¬e g from(fun g hg hF=>by have:=I.lt hF;have:=(aj.row hg).1;omega))
 have aO:=bv.chP y (show∀g,rowOf ax ay=some g->¬e g from(fun g hg hF=>by have:=I.lt hF;have:=(bv.row hg).1;omega))
 have aP:=bw.chP y (show∀g,rowOf az aA=some g->¬e g from(fun g hg hF=>by have:=I.lt hF;have:=(bw.row hg).1;omega))
 have aQ:=aE.chP y (show¬e aB from(fun hF=>by have:=I.lt hF;have:=s.size;have:=aC;omega))
 refine W.run 1 rfl (W.nx (WC.sr (W.run 2 rfl (W.cl go46 rfl rfl ((by have k:=rbest_ok (c:=4) 0 3 100 50 cj (m:=rM3) (g:=rG) aF aG.vec (by decide);rw[sm4]at k;exact k)) ?_))))
 rintro _ c8 ⟨cr,cs,ct,cu,cv,cw,rfl,bx,c9,da,f⟩
 have bz:=(((bs.trans u).tb x bs aC).chP_then y (fun i hi=>Nat.le_trans L5.size (bu.old hi))).trans f
 have bx:=bx.cast (m':=0) rfl rfl
 refine W.run 1 rfl (W.a (.extract (v:= .slice cr 0 cs) rfl rfl) ?_)
 refine W.a (.extract (v:= .agg #[.slice ct ((digs 0).length) cu,.slice cv ((digs 0).length) cw]) rfl rfl) ?_
 refine W.a (.extract (v:= .int .i64 (19)) rfl rfl) ?_
 refine W.ef rfl rfl rfl (Ef.allocA z61 fun cx cy bA (cz:Blk cy cx 61 #[.slice none 0 0,.slice none 0 0]) h=>(W.run 1 rfl (W.sA sz61 rfl rfl cz ?_)))
 intro cA db l
 refine W.run 1 rfl (W.nx (WC.sr (W.run 2 rfl ?_)))
 have cB:=((aF.le (f.trans h)).ch l (fun q hqq hF=>by cases hqq;have:=aF.lt hF;have:=f.size;have:=bA;omega))
 have cC:=((aG.le (f.trans h)).ch l (fun q hq=>by cases hq;exact(fun he=>by have:=(aG.row he).2;have:=f.size;omega)))
 refine W.cl go46 rfl rfl ((by have k:=rbest_ok (c:=4) 0 0 100 50 cA (m:=rM3) (g:=rG) cB cC.vec (by decide);rw[sm5]at k;exact k)) ?_
 rintro _ dc ⟨cD,cE,cF,cG,cH,cI,rfl,bB,dd,de,n⟩
 have bC:=((bz.trans h).tb l bz bA).trans n
 have bB:=bB.cast (m':=0) rfl rfl
 refine W.run 1 rfl (W.a (.extract (v:= .slice cD 0 cE) rfl rfl) ?_)
 refine W.a (.extract (v:= .agg #[.slice cF ((digs 0).length) cG,.slice cH ((digs 0).length) cI]) rfl rfl) ?_
 refine W.a (.extract (v:= .int .i64 (1)) rfl rfl) ?_
 refine W.ef rfl rfl rfl (Ef.allocA z61 fun cJ cK cL (cM:Blk cK cJ 61 #[.slice none 0 0,.slice none 0 0]) z=>(W.run 1 rfl (W.sA sz61 rfl rfl cM ?_)))
 intro cN dg A
 have bD:=(bC.trans z).tb A bC cL
 refine W.run 1 rfl (W.nx (WC.sr (W.run 1 rfl (W.a (.dec (.eql rfl rfl) (show _=true from by first|decide|rfl)) ?_))))
 refine W.run 2 rfl (W.g (.len underlying32 rfl) ?_)
 refine W.g (Any.rd (.dec (.eql rfl rfl) (show _=true from by first|decide|rfl)) _) ?_
 refine W.run 3 rfl (W.g (Any.rd (.idxS (0) underlying32 sz81 rfl rfl (S.vec.isSome edgeV_row (by omega)) (rfl) (by omega)) _) ?_)
 refine W.g (Any.rd (.vfield fa81_2 (S.vec.isSome edgeV_row (by omega)) rfl) _) ?_
 have cO:=((((aH.le (f.trans h)).ch l (fun q hq=>by cases hq;exact(fun he=>by have:=(aH.row he).2;have:=f.size;omega))).le (n.trans z)).ch A (fun q hq=>by cases hq;exact(fun he=>by have:=(aH.row he).2;have:=f.size;have:=h.size;have:=l.size;have:=n.size;omega)))
 refine W.g (.vcell (j:=0) (o:=2) (v:= .int .i64 ((([rE 0 0 1,rE 1 1 3]).getD 0 noEdge).c)) na3 rfl cO.vec edgeV_row (getS ([rE 0 0 1,rE 1 1 3]) noEdge (by first|omega|(simp only[List.length_cons,List.length_nil];omega))) rfl) ?_
 refine W.g (Any.rd (.dec (.eql rfl rfl) (decide_eq_true rfl)) _) ?_
 refine W.run 2 rfl (W.g (.loadAll ag61 (by rfl) rfl ((((aK.le (f.trans h)).cn l (by have:=aK.lt;have:=f.size;omega)).le (n.trans z)).cn A (by have:=aK.lt;have:=f.size;have:=h.size;have:=l.size;have:=n.size;omega))) ?_)
 have cP:=((((aI.le (f.trans h)).ch l (fun q hq=>by cases hq;exact(fun he=>by have:=(aI.row he).2;have:=f.size;omega))).le (n.trans z)).ch A (fun q hq=>by cases hq;exact(fun he=>by have:=(aI.row he).2;have:=f.size;have:=h.size;have:=l.size;have:=n.size;omega)))
 have cQ:=((((aJ.le (f.trans h)).ch l (fun q hq=>by cases hq;exact(fun he=>by have:=(aJ.row he).2;have:=f.size;omega))).le (n.trans z)).ch A (fun q hq=>by cases hq;exact(fun he=>by have:=(aJ.row he).2;have:=f.size;have:=h.size;have:=l.size;have:=n.size;omega)))
 refine W.efg rfl rfl rfl (rfl) rfl rfl (Ef.call go71 rfl rfl (ftext_ok cN (hT.le bD) cP.vec cQ.vec (by omega) (by omega) (by decide+kernel) (by decide) (by decide)) ?_)
 rintro _ cR ⟨rfl,ae⟩
 refine⟨_,rfl,?_⟩
 have bE:=bD.trans ae
 refine W.g (Any.rd (.eqlYes (a:=textF 810900 1002001) (b:=([56,49,48,57,48,48,47,49,48,48,50,48,48,49]:List UInt8)) rfl rfl (stx1)) _) ?_
 refine W.run 3 rfl (W.g (Any.rd (.dec (.eql rfl rfl) (show _=true from by first|decide|rfl)) _) ?_)
 refine W.run 3 rfl (W.g (Any.rd (.dec (.eql rfl rfl) (show _=true from by first|decide|rfl)) _) ?_)
 refine W.run 3 rfl (W.g (.len underlying32 rfl) ?_)
 refine W.g (Any.rd (.dec (.eql rfl rfl) (show _=true from by first|decide|rfl)) _) ?_
 refine W.run 3 rfl (W.g (Any.rd (.idxS (0) underlying32 sz81 rfl rfl (aa.vec.isSome edgeV_row (by omega)) (rfl) (by omega)) _) ?_)
 refine W.g (Any.rd (.vfield fa81_2 (aa.vec.isSome edgeV_row (by omega)) rfl) _) ?_
 have cS:=(((((aL.le (f.trans h)).ch l (fun q hq=>by cases hq;exact(fun he=>by have:=(aL.row he).2;have:=f.size;omega))).le (n.trans z)).ch A (fun q hq=>by cases hq;exact(fun he=>by have:=(aL.row he).2;have:=f.size;have:=h.size;have:=l.size;have:=n.size;omega))).le ae)
 refine W.g (.vcell (j:=0) (o:=2) (v:= .int .i64 ((([rE 2 0 2,rE 3 2 3]).getD 0 noEdge).c)) na3 rfl cS.vec edgeV_row (getS ([rE 2 0 2,rE 3 2 3]) noEdge (by first|omega|(simp only[List.length_cons,List.length_nil];omega))) rfl) ?_
 refine W.g (Any.rd (.dec (.eql rfl rfl) (decide_eq_true rfl)) _) ?_
 refine W.run 3 rfl (W.g (Any.rd (.dec (.eql rfl rfl) (show _=true from by first|decide|rfl)) _) ?_)
 refine W.run 3 rfl (W.g (Any.rd (.dec (.eql rfl rfl) (show _=true from by first|decide|rfl)) _) ?_)
 refine W.run 3 rfl (W.g (.len underlying32 rfl) ?_)
 refine W.g (Any.rd (.dec (.eql rfl rfl) (show _=true from by first|decide|rfl)) _) ?_
 refine W.run 3 rfl (W.g (Any.rd (.idxS (0) underlying32 sz81 rfl rfl (ad.vec.isSome edgeV_row (by omega)) (rfl) (by omega)) _) ?_)
 refine W.g (Any.rd (.vfield fa81_2 (ad.vec.isSome edgeV_row (by omega)) rfl) _) ?_
 have cT:=(((((aM.le (f.trans h)).ch l (fun q hq=>by cases hq;exact(fun he=>by have:=(aM.row he).2;have:=f.size;omega))).le (n.trans z)).ch A (fun q hq=>by cases hq;exact(fun he=>by have:=(aM.row he).2;have:=f.size;have:=h.size;have:=l.size;have:=n.size;omega))).le ae)
 refine W.g (.vcell (j:=0) (o:=2) (v:= .int .i64 ((([rE 2 0 2,rE 3 2 3]).getD 0 noEdge).c)) na3 rfl cT.vec edgeV_row (getS ([rE 2 0 2,rE 3 2 3]) noEdge (by first|omega|(simp only[List.length_cons,List.length_nil];omega))) rfl) ?_
 refine W.g (Any.rd (.dec (.eql rfl rfl) (decide_eq_true rfl)) _) ?_
 refine W.run 2 rfl (W.g (.loadAll ag61 (by rfl) rfl (((((aQ.le (f.trans h)).cn l (by have:=aQ.lt;have:=f.size;omega)).le (n.trans z)).cn A (by have:=aQ.lt;have:=f.size;have:=h.size;have:=l.size;have:=n.size;omega)).le ae)) ?_)
 have cU:=(((((aO.le (f.trans h)).ch l (fun q hq=>by cases hq;exact(fun he=>by have:=(aO.row he).2;have:=f.size;omega))).le (n.trans z)).ch A (fun q hq=>by cases hq;exact(fun he=>by have:=(aO.row he).2;have:=f.size;have:=h.size;have:=l.size;have:=n.size;omega))).le ae)
 have cV:=(((((aP.le (f.trans h)).ch l (fun q hq=>by cases hq;exact(fun he=>by have:=(aP.row he).2;have:=f.size;omega))).le (n.trans z)).ch A (fun q hq=>by cases hq;exact(fun he=>by have:=(aP.row he).2;have:=f.size;have:=h.size;have:=l.size;have:=n.size;omega))).le ae)
 refine W.efg rfl rfl rfl (rfl) rfl rfl (Ef.call go71 rfl rfl (ftext_ok cR (hT.le bE) cU.vec cV.vec (by omega) (by omega) (by decide+kernel) (by decide) (by decide)) ?_)
 rintro _ dh ⟨rfl,cW⟩
 refine⟨_,rfl,?_⟩
 refine W.g (Any.rd (.eqlYes (a:=textF 1 1) (b:=([49]:List UInt8)) rfl rfl (stx2)) _) ?_
 refine W.run 3 rfl (W.g (Any.rd (.dec (.eql rfl rfl) (show _=true from by first|decide|rfl)) _) ?_)
 refine W.run 3 rfl (W.g (Any.rd (.dec (.eql rfl rfl) (show _=true from by first|decide|rfl)) _) ?_)
 refine W.run 3 rfl (W.g (Any.rd (.dec (.eql rfl rfl) (show _=true from by first|decide|rfl)) _) ?_)
 refine W.run 2 rfl (W.nx (WC.ret (E.retG1 rfl rfl ?_)))
 exact⟨rfl,(bE.trans cW)⟩
end Go.Proofs.YtocheaahlpiajaaGreatDoor

namespace Go.Proofs.YtocheaahlpiajaaGreatDoor
open Go Go.Sx Go.Num Go.Gsp Go.Nsp Go.Msp Go.Rtp
set_option maxRecDepth 20000
theorem few_T {n n2:Nat}(h:(decide (n<=12)&&decide (n2<=20))=true):n<=12/\n2<=20:=by simpa using h
theorem bestR_len {g:List Gsp.Edge}{m:MF}{fr to a x:Int}(hm:GoodM m):(bestR g m fr to a x).1.length<=8/\(digs (bestR g m fr to a x).2.1.n).length<=100/\(digs (bestR g m fr to a x).2.1.d).length<=100:=by
  rcases bestR_errs (g:=g) (fr:=fr) (to:=to) (a:=a) (x:=x) hm with h|h|h
  · obtain⟨_,c,e,_⟩:=bestR_ok hm h
    have b:=oddsR_len hm (bestR g m fr to a x).1 a x
    rw[<-e]at b
    exact⟨(wayG_len c.way).2,b⟩
  · rw[h];simp only[digs_zero];decide
  · rw[h];simp only[digs_zero];decide
end Go.Proofs.YtocheaahlpiajaaGreatDoor

namespace Go.Proofs.YtocheaahlpiajaaGreatDoor
open Go Go.Sx Go.Num Go.Gsp Go.Nsp Go.Msp Go.Rtp
set_option maxRecDepth 20000
theorem best_err {g:List Gsp.Edge}{m:MF}{fr to a x:Int}(hm:GoodM m)(h:(bestR g m fr to a x).2.2≠0):(bestR g m fr to a x).1=[]/\((bestR g m fr to a x).2.2=1\/∀w,¬(rightG g=true/\Cand g m fr to a x w)):=by
  rcases bestR_errs (g:=g) (fr:=fr) (to:=to) (a:=a) (x:=x) hm with b|b|b
  · exact absurd b h
  · rw[b];exact⟨rfl,.inl rfl⟩
  · have hb:badR g fr to a x=false:=by
      cases hb:badR g fr to a x
      · rfl
      · rw[bestR_bad hb]at b;simp at b
    exact⟨by rw[b],.inr fun w hw=>(bestR_no hm hb h).2 w hw.2⟩
theorem best_all {g:List Gsp.Edge}{m:MF}{fr to a x:Int}(hm:GoodM m)(h:(bestR g m fr to a x).2.2=0):rightG g=true/\Cand g m fr to a x (bestR g m fr to a x).1/\(bestR g m fr to a x).2.1=(oddsR m (bestR g m fr to a x).1 a x).1/\∀w,Cand g m fr to a x w->ordB (fo m a x (bestR g m fr to a x).1) (fo m a x w)<=0:=by
  obtain⟨b,c⟩:=bestR_ok hm h
  exact⟨(bad_T b).1,c⟩
end Go.Proofs.YtocheaahlpiajaaGreatDoor

namespace Go.Proofs.YtocheaahlpiajaaGreatDoor
open Tryz
open Go Go.Sx Go.Hsp Go.Num Go.Osp Go.Gsp Go.Nsp Go.Msp Go.Rtp
set_option maxRecDepth 20000
set_option maxHeartbeats 4000000 in
theorem RoutePeels_F (fr to a x:Int) (s:Nat) {seed:List Byte} (hse:seed.length=32) (ht:Int) (np:Nat) (hnp:np<256) {A A2:Option Addr} {n c n2 c2:Nat} {g:List Gsp.Edge} {l:List Kn} (w:World) (hT:Tab w) (hV:Vec w edgeV 9 A n g) (hL:Vec w knV 3 A2 n2 l) (hgl:∀q∈l,I64n q.d) (hnc:n<=c) (hn:n<=9223372036854775807) (hn2:n2<=9223372036854775807) (hB:(bestR g (mindG g l) fr to a x).2.2≠0):Calls prog 9 #[.slice A n c,.slice A2 n2 c2,.int .i64 (fr),.int .i64 (to),.int .i64 (a),.int .i64 (x),.int .u64 (((s:Nat):Int)),.agg (seed.map u8v).toArray,.int .i64 (ht),.int .u8 (((np:Nat):Int))] w fun r w'=>r= .returned (.bool true)/\Le w w':=by
 have hl:=hV.1;have ax:=hL.1
 have hgm:GoodM (mindG g l):=mindG_good g l _ none_good
 refine enter func9 rfl rfl (WC.sr (W.ef rfl rfl rfl (Ef.boxA rfl fun P u ay (y:Blk u P 30 (seed.map u8v).toArray) Q=>?_)))
 have C:=(Le.refl w).trans Q
 refine W.run 1 rfl (W.nx (WC.sr (W.cl go48 rfl rfl (small38_ok u (hT.le C)) ?_)))
 rintro _ R ⟨rfl,i⟩
 refine W.run 1 rfl (W.nx (WC.sr (W.run 2 rfl (W.cl go49 rfl rfl (few_ok R) ?_))))
 rintro _ S ⟨rfl,j⟩
 have m:=(C.trans i).trans j
 refine W.run 1 rfl (W.nx (WC.sr (W.run 2 rfl (W.cl go50 rfl rfl (mind_ok S (hV.le m) (hL.le m) hgl (by omega) (by omega)) ?_))))
 rintro _ T ⟨az,aA,rfl,U,o⟩
 have b:=m.trans o
 refine W.run 1 rfl (W.nx (WC.seq (WC.sr (W.run 2 rfl ?_))))
 by_cases D:(decide (n<=12)&&decide (n2<=20))=true
 ·refine W.a (.dec (.move rfl) (congrArg not (D))) ?_
  refine W.run 1 rfl (W.g (Any.rd (.dec (.isNilP (by kernel_rfl) rfl) rfl) _) ?_)
  refine W.run 5 rfl ?_
  by_cases F:ht<0
  ·refine W.dt F rfl rfl (W.run 3 rfl (W.nx (WC.condT rfl (WC.sr (W.run 3 rfl (W.g (Any.rd (.dec (.notNilP (by kernel_rfl) rfl) rfl) _) ?_))))))
   refine W.run 2 rfl (W.nx (WC.ret (E.thenR (E.retG1 rfl rfl ?_))))
   exact⟨rfl,b⟩
  refine W.df F rfl rfl (W.run 3 rfl (W.nx ?_))
  by_cases H:1048576<ht
  ·refine WC.condY rfl (decide_eq_true H) (WC.sr (W.run 3 rfl (W.g (Any.rd (.dec (.notNilP (by kernel_rfl) rfl) rfl) _) ?_)))
   refine W.run 2 rfl (W.nx (WC.ret (E.thenR (E.retG1 rfl rfl ?_))))
   exact⟨rfl,b⟩
  refine WC.condN rfl (decide_eq_false H) ?_
  obtain⟨aB,aC⟩:=few_T (n:=n) (n2:=n2) (by assumption)
  refine WC.sn (WC.sr (W.run 6 rfl ?_))
  obtain⟨f,e⟩:∃z,z=bestR g (mindG g l) fr to a x:=⟨_,rfl⟩
  have V:=bestR_len (g:=g) (fr:=fr) (to:=to) (a:=a) (x:=x) hgm
  rw[<-e]at V
  refine W.cl go46 rfl rfl ((by have k:=rbest_ok (c:=c) fr to a x T U (hV.le b) (by omega);rw[<-e]at k;exact k)) ?_
  rintro _ aE ⟨aF,aG,X,Y,Z,aa,rfl,aH,aI,aJ,t⟩
  have I:=b.trans t
  refine W.run 1 rfl ?_
  rw[<-e]at hB
  have hbe:=(best_err (g:=g) (fr:=fr) (to:=to) (a:=a) (x:=x) hgm (by rw[<-e];exact hB)).1
  rw[<-e]at hbe
  have hbl:f.1.length=0:=by rw[hbe];rfl
  refine W.run 1 rfl (W.a (.extract (v:= .agg #[.slice X ((digs f.2.1.n).length) Y,.slice Z ((digs f.2.1.d).length) aa]) rfl rfl) ?_)
  refine W.run 1 rfl (W.ef rfl rfl rfl (Ef.allocA z61 fun ab ac ad (ae:Blk ac ab 61 #[.slice none 0 0,.slice none 0 0]) J=>(W.run 1 rfl (W.sA sz61 rfl rfl ae ?_))))
  intro af aK K
  refine W.run 1 rfl (W.nx (WC.sr (W.run 1 rfl (W.a (.remN s 2305843009213688668 (s%2305843009213688668) rfl rfl rfl rfl (by decide) (rfl)) ?_))))
  refine W.a (.addN 1 (s%2305843009213688668) (1+(s%2305843009213688668)) rfl rfl rfl rfl (by omega)) ?_
  refine W.cl go20 rfl rfl (base_ok (1+(s%2305843009213688668)) af) ?_
  rintro _ ah ⟨rfl,L⟩
  refine W.run 1 rfl (W.nx (WC.sr (W.run 1 rfl ?_)))
  have f9:=(((y.le (i.trans (j.trans (o.trans (t.trans J))))).cn K (by have:=y.lt;have:=i.size;have:=j.size;have:=o.size;have:=t.size;omega)).le L)
  refine W.r (.loadAll ag30 (by simp[hse]) rfl f9) ?_
  refine W.run 1 rfl (W.r (.len underlying32 rfl) ?_)
  refine W.cl go19 rfl rfl (pnewF_ok (base (1+s%2305843009213688668)) (base_lt _) seed f.1.length (fun h=>absurd h.2.2.1 (by omega)) ah) ?_
  rintro _ aL ⟨rfl,ai⟩
  have N:=(((I.trans J).tb K I ad).trans L).trans ai
  refine W.run 1 rfl (W.a (.extract (v:= .agg #[.slice none 0 0,.slice none 0 0]) rfl rfl) ?_)
  refine W.run 1 rfl (W.ef rfl rfl rfl (Ef.allocA z41 fun aj ak al (am:Blk ak aj 41 #[.slice none 0 0,.slice none 0 0]) an=>(W.sA sz41 rfl rfl am ?_)))
  intro aM aO ao
  have O:=(N.trans an).tb ao N al
  refine W.run 1 rfl (W.nx (WC.sr (W.run 1 rfl (W.r (.idI (isS underlying5) underlying3 rfl (IntWalk.i64_in _ (by omega))) ?_))))
  refine W.a (.buildP (bndV (⟨0,0,((np:Nat):Int)⟩:Bnd)) pl100 z100 rfl rfl) ?_
  refine W.ef rfl rfl rfl (Ef.allocA z100 fun ap aq ar (au:Blk aq ap 100 (bndV noBnd).toArray) av=>(W.ef0 rfl rfl (Ef.storeAll sz100 (by rfl) rfl rfl au (by simp only[List.size_toArray,bndV_row.len]) (bndV_row.one (⟨0,0,((np:Nat):Int)⟩:Bnd)) ?_)))
  intro aP aQ aw
  refine W.nx (WC.seq (WC.sr (W.run 2 rfl (W.a (.dec (.move rfl) (dT (hB))) ?_))))
  refine W.run 7 rfl (W.nx (WC.condT rfl (WC.sr (W.run 2 rfl (W.nx (WC.ret (E.thenR (E.retG1 rfl rfl ?_))))))))
  exact⟨rfl,((O.trans av).tb aw O ar)⟩
 refine W.a (.dec (.move rfl) (congrArg not ((Bool.eq_false_iff.2 D)))) ?_
 refine W.run 11 rfl (W.nx (WC.condT rfl (WC.sr (W.run 3 rfl (W.g (Any.rd (.dec (.notNilP (by kernel_rfl) rfl) rfl) _) ?_)))))
 refine W.run 2 rfl (W.nx (WC.ret (E.thenR (E.retG1 rfl rfl ?_))))
 exact⟨rfl,b⟩

set_option maxHeartbeats 4000000 in
theorem RoutePeels_T (fr to a x:Int) (s:Nat) {seed:List Byte} (hse:seed.length=32) (ht:Int) (np:Nat) (hnp:np<256) {A A2:Option Addr} {n c n2 c2:Nat} {g:List Gsp.Edge} {l:List Kn} (w:World) (hT:Tab w) (hV:Vec w edgeV 9 A n g) (hL:Vec w knV 3 A2 n2 l) (hgl:∀q∈l,I64n q.d) (hnc:n<=c) (hn:n<=9223372036854775807) (hn2:n2<=9223372036854775807) (hB:(bestR g (mindG g l) fr to a x).2.2=0):Calls prog 9 #[.slice A n c,.slice A2 n2 c2,.int .i64 (fr),.int .i64 (to),.int .i64 (a),.int .i64 (x),.int .u64 (((s:Nat):Int)),.agg (seed.map u8v).toArray,.int .i64 (ht),.int .u8 (((np:Nat):Int))] w fun r w'=>r= .returned (.bool true)/\Le w w':=by
 have hl:=hV.1;have ec:=hL.1
 have hgm:GoodM (mindG g l):=mindG_good g l _ none_good
 refine enter func9 rfl rfl (WC.sr (W.ef rfl rfl rfl (Ef.boxA rfl fun a5 bx ed (bz:Blk bx a5 30 (seed.map u8v).toArray) cC=>?_)))
 have L1:=(Le.refl w).trans cC
 refine W.run 1 rfl (W.nx (WC.sr (W.cl go48 rfl rfl (small38_ok bx (hT.le L1)) ?_)))
 rintro _ cD ⟨rfl,a6⟩
 refine W.run 1 rfl (W.nx (WC.sr (W.run 2 rfl (W.cl go49 rfl rfl (few_ok cD) ?_))))
 rintro _ cE ⟨rfl,a7⟩
 have L3:=(L1.trans a6).trans a7
 refine W.run 1 rfl (W.nx (WC.sr (W.run 2 rfl (W.cl go50 rfl rfl (mind_ok cE (hV.le L3) (hL.le L3) hgl (by omega) (by omega)) ?_))))
 rintro _ au ⟨ee,eg,rfl,cF,a8⟩
 have L4:=L3.trans a8
 refine W.run 1 rfl (W.nx (WC.seq (WC.sr (W.run 2 rfl ?_))))
 by_cases bA:(decide (n<=12)&&decide (n2<=20))=true
 ·refine W.a (.dec (.move rfl) (congrArg not (bA))) ?_
  refine W.run 1 rfl (W.g (Any.rd (.dec (.isNilP (by kernel_rfl) rfl) rfl) _) ?_)
  refine W.run 5 rfl ?_
  by_cases bB:ht<0
  ·refine W.dt bB rfl rfl (W.run 3 rfl (W.nx (WC.condT rfl (WC.sr (W.run 3 rfl (W.g (Any.rd (.dec (.notNilP (by kernel_rfl) rfl) rfl) _) ?_))))))
   refine W.run 2 rfl (W.nx (WC.ret (E.thenR (E.retG1 rfl rfl ?_))))
   exact⟨rfl,L4⟩
  refine W.df bB rfl rfl (W.run 3 rfl (W.nx ?_))
  by_cases c0:1048576<ht
  ·refine WC.condY rfl (decide_eq_true c0) (WC.sr (W.run 3 rfl (W.g (Any.rd (.dec (.notNilP (by kernel_rfl) rfl) rfl) _) ?_)))
   refine W.run 2 rfl (W.nx (WC.ret (E.thenR (E.retG1 rfl rfl ?_))))
   exact⟨rfl,L4⟩
  refine WC.condN rfl (decide_eq_false c0) ?_
  obtain⟨eh,ei⟩:=few_T (n:=n) (n2:=n2) (by assumption)
  refine WC.sn (WC.sr (W.run 6 rfl ?_))
  obtain⟨e,aJ⟩:∃z,z=bestR g (mindG g l) fr to a x:=⟨_,rfl⟩
  have cG:=bestR_len (g:=g) (fr:=fr) (to:=to) (a:=a) (x:=x) hgm
  rw[<-aJ]at cG
  refine W.cl go46 rfl rfl ((by have k:=rbest_ok (c:=c) fr to a x au cF (hV.le L4) (by omega);rw[<-aJ]at k;exact k)) ?_
  rintro _ ej ⟨ay,av,cH,cI,cJ,cK,rfl,L,ek,el,aU⟩
  have L5:=L4.trans aU
  refine W.run 1 rfl ?_
  rw[<-aJ]at hB
  have hba:=best_all (g:=g) (fr:=fr) (to:=to) (a:=a) (x:=x) hgm (by rw[<-aJ];exact hB)
  rw[<-aJ]at hba
  have hbc:=hba.2.1
  have hwl:=wayG_len hbc.way
  have hown:=ownW_ok (k:=1) ⟨by decide,by decide⟩ hbc.way
  refine W.run 1 rfl (W.a (.extract (v:= .agg #[.slice cH ((digs e.2.1.n).length) cI,.slice cJ ((digs e.2.1.d).length) cK]) rfl rfl) ?_)
  refine W.run 1 rfl (W.ef rfl rfl rfl (Ef.allocA z61 fun cL cM cN (cO:Blk cM cL 61 #[.slice none 0 0,.slice none 0 0]) az=>(W.run 1 rfl (W.sA sz61 rfl rfl cO ?_))))
  intro cP em aA
  refine W.run 1 rfl (W.nx (WC.sr (W.run 1 rfl (W.a (.remN s 2305843009213688668 (s%2305843009213688668) rfl rfl rfl rfl (by decide) (rfl)) ?_))))
  refine W.a (.addN 1 (s%2305843009213688668) (1+(s%2305843009213688668)) rfl rfl rfl rfl (by omega)) ?_
  refine W.cl go20 rfl rfl (base_ok (1+(s%2305843009213688668)) cP) ?_
  rintro _ Z ⟨rfl,aB⟩
  refine W.run 1 rfl (W.nx (WC.sr ?_))
  have cQ:(base (1+s%2305843009213688668))≠1:=base_ne_one (by simp only[q_def];omega)
  refine W.run 1 rfl ?_
  have f9:=(((bz.le (a6.trans (a7.trans (a8.trans (aU.trans az))))).cn aA (by have:=bz.lt;have:=a6.size;have:=a7.size;have:=a8.size;have:=aU.size;omega)).le aB)
  refine W.r (.loadAll ag30 (by simp[hse]) rfl f9) ?_
  refine W.run 1 rfl (W.r (.len underlying32 rfl) ?_)
  refine W.cl go19 rfl rfl (pnew_ok (base (1+s%2305843009213688668)) (base_lt _) (right_base _) cQ seed hse e.1.length (by omega) (by omega) Z) ?_
  rintro _ bC ⟨gp,Abl,cbl,rfl,hgp,bp,obl,ac⟩
  have bD:=(((L5.trans az).tb aA L5 cN).trans aB).trans ac
  obtain⟨bl,hbl⟩:∃bl,bl=blindsP seed (e.1.length-1):=⟨_,rfl⟩
  rw[<-hbl]at bp obl
  have hblq:∀b∈bl,b<q:=by rw[hbl];exact blindsP_lt _ _
  have hbll:bl.length=e.1.length-1:=by rw[hbl,blindsP_length]
  obtain⟨pts,hpts⟩:∃p0,p0=fromP (base (1+s%2305843009213688668)) bl:=⟨_,rfl⟩
  rw[<-hpts]at bp
  have hptl:pts.length=e.1.length:=by rw[hpts,fromP_length,hbll];omega
  have op:OVec bC Z.heap.size 43 pv1 1 (some ⟨gp,0,none⟩) e.1.length e.1.length pts:=bp.ovec hgp pv1_row (flat_sing (g1:=pv) pts).symm hptl (by unfold maxLen;omega)
  have obl:OVec bC Z.heap.size 28 pv1 1 Abl (e.1.length-1) cbl bl:=Own.ovec (g1:=pv) obl
  refine W.run 1 rfl (W.a (.extract (v:= .agg #[.slice (some ⟨gp,0,none⟩) e.1.length e.1.length,.slice Abl (e.1.length-1) cbl]) rfl rfl) ?_)
  refine W.run 1 rfl (W.ef rfl rfl rfl (Ef.allocA z41 fun aC cR cS (cT:Blk cR aC 41 #[.slice none 0 0,.slice none 0 0]) T=>(W.sA sz41 rfl rfl cT ?_)))
  intro cU aV U
  have aV:Blk cU aC 41 #[.slice (some ⟨gp,0,none⟩) e.1.length e.1.length,.slice Abl (e.1.length-1) cbl]:=aV
  have bE:=(bD.trans T).tb U bD cS
  refine W.run 1 rfl (W.nx (WC.sr (W.run 1 rfl (W.r (.idI (isS underlying5) underlying3 rfl (IntWalk.i64_in _ (by omega))) ?_))))
  refine W.a (.buildP (bndV (⟨0,0,((np:Nat):Int)⟩:Bnd)) pl100 z100 rfl rfl) ?_
  refine W.ef rfl rfl rfl (Ef.allocA z100 fun an cV cW (cX:Blk cV an 100 (bndV noBnd).toArray) ah=>(W.ef0 rfl rfl (Ef.storeAll sz100 (by rfl) rfl rfl cX (by simp only[List.size_toArray,bndV_row.len]) (bndV_row.one (⟨0,0,((np:Nat):Int)⟩:Bnd)) ?_)))
  intro ad aW ai
  have aW:Blk ad an 100 (bndV (⟨0,0,((np:Nat):Int)⟩:Bnd)).toArray:=aW
  have bF:=(bE.trans ah).tb ai bE cW
  refine W.nx (WC.seq (WC.sr (W.run 1 rfl (W.a (.dec (.neq rfl rfl) (dF (fun h=>h hB))) ?_))))
  refine W.run 3 rfl (W.g (Any.rd (.field0 fa100_2 rfl) _) ?_)
  refine W.g (.loadB (v:= .int .i64 (((np:Nat):Int))) na3 rfl aW rfl) ?_
  refine W.g (Any.rd (.add rfl rfl (by omega)) _) ?_
  refine W.run 2 rfl (W.nx ?_)
  by_cases c1:x<=(ht+((np:Nat):Int))
  ·refine WC.condY rfl (decide_eq_true c1) (WC.sr (W.run 2 rfl (W.nx (WC.ret (E.thenR (E.retG1 rfl rfl ?_))))))
   exact⟨rfl,bF⟩
  refine WC.condN rfl (decide_eq_false c1) (WC.sn (WC.sr (W.run 3 rfl ?_)))
  have bG:=((((((L.le az).ch aA (fun q hq=>by cases hq;exact(fun he=>by have:=(L.row he).2;omega))).le (aB.trans (ac.trans T))).ch U (fun q hq=>by cases hq;exact(fun he=>by have:=(L.row he).2;have:=az.size;have:=aA.size;have:=aB.size;have:=ac.size;omega))).le ah).ch ai (fun q hq=>by cases hq;exact(fun he=>by have:=(L.row he).2;have:=az.size;have:=aA.size;have:=aB.size;have:=ac.size;have:=T.size;have:=U.size;omega)))
  refine W.cl go38 rfl rfl (cost_ok a x ad bG.vec (by omega)) ?_
  rintro _ aw ⟨aX,aY,aZ,a0,rfl,bH,bI,V⟩
  generalize hgenC:costG e.1 a x=C at*
  refine W.run 7 rfl (W.nx (WC.sr ?_))
  have cY:C.2.2=0:=by rw[<-hgenC];exact hbc.cost
  have a9:=wk_of (right_base _) hbc.cost hbll hblq hpts
  have hhp:=a9.hops hbc.cost
  rw[hgenC]at a9 hhp
  have hWk:=a9
  have hcs:=hWk.cs
  have hlS:=hcs.lenS
  have hlT:=hcs.lenT
  have hHL:=hWk.len
  have hamt:=hcs.amt
  have hexp:=hcs.exp
  refine W.run 3 rfl ?_
  have bJ:=(((aV.le ah).cn ai (by have:=aV.lt;omega)).le V)
  refine W.r (.loadAll ag41 (by rfl) rfl bJ) ?_
  have ba:=(bG.le V)
  have en:=ba.cap
  have bK:=(((((op.le T).ch U (fun q hq=>by cases hq;exact(fun he=>by have:=(op.row he).2;omega))).le ah).ch ai (fun q hq=>by cases hq;exact(fun he=>by have:=(op.row he).2;have:=T.size;have:=U.size;omega))).le V)
  have bL:=(((((obl.le T).ch U (fun q hq=>by cases hq;exact(fun he=>by have:=(obl.row he).2;omega))).le ah).ch ai (fun q hq=>by cases hq;exact(fun he=>by have:=(obl.row he).2;have:=T.size;have:=U.size;omega))).le V)
  refine W.cl go51 rfl rfl ((by have k:=hops_ok (c:=av) (cp:=e.1.length) (cb:=cbl) a x aw ba.vec (by omega) bK.vec (by omega) bL.vec (by omega) (by omega);rw[hhp]at k;dsimp only at k;exact k)) ?_
  rintro _ aK ⟨aE,ax,rfl,bb,I⟩
  have bM:=(bF.trans V).trans I
  refine W.run 5 rfl (W.nx (WC.sr (W.run 1 rfl (W.nx (WC.seq (WC.sr (W.run 1 rfl (W.nx (WC.block ?_)))))))))
  have bN:=(((((f9.le (ac.trans T)).cn U (by have:=f9.lt;have:=ac.size;omega)).le ah).cn ai (by have:=f9.lt;have:=ac.size;have:=T.size;have:=U.size;omega)).le (V.trans I))
  have bO:=(ba.le I)
  have bP:=(bJ.le I)
  have bQ:=(bK.le I)
  have bR:=(bL.le I)
  have bS:=(aW.le (V.trans I))
  have bT:=(bH.le I)
  have bU:=(bI.le I)
  refine WC.loop (ι:=Nat×((Option Addr))×Nat) (fun⟨i,Ak,ck⟩=>[(4,.int .i64 (a)),(8,.int .i64 (ht)),(17,.pointer (some ⟨a5,0,none⟩)),(21,.bool true),(24,.slice ay e.1.length av),(27,.int .u64 (((base (1+(s%2305843009213688668)):Nat):Int))),(28,.pointer (some ⟨aC,0,none⟩)),(29,.bool true),(30,.pointer (some ⟨an,0,none⟩)),(31,.slice aX C.1.length aY),(32,.slice aZ C.2.1.length a0),(33,.int .i64 (C.2.2)),(34,.slice aE ((hopsL e.1 C.1 C.2.1 pts bl a x).length) ax),(35,.int .i64 (0)),(36,.slice Ak i ck),(37,.int .i64 (((i:Nat):Int)))]) (fun⟨i,Ak,ck⟩ f=>(i<=e.1.length)/\Le w f/\aK.heap.size<=f.heap.size/\Blk f a5 30 (seed.map u8v).toArray/\OVec f au.heap.size 81 edgeV 9 ay e.1.length av e.1/\Blk f aC 41 #[.slice (some ⟨gp,0,none⟩) e.1.length e.1.length,.slice Abl (e.1.length-1) cbl]/\OVec f Z.heap.size 43 pv1 1 (some ⟨gp,0,none⟩) e.1.length e.1.length pts/\OVec f Z.heap.size 28 pv1 1 Abl (e.1.length-1) cbl bl/\Blk f an 100 (bndV (⟨0,0,((np:Nat):Int)⟩:Bnd)).toArray/\OVec f ad.heap.size 3 iv 1 aX C.1.length aY C.1/\OVec f ad.heap.size 3 iv 1 aZ C.2.1.length a0 C.2.1/\OVec f aw.heap.size 109 hopV 6 aE ((hopsL e.1 C.1 C.2.1 pts bl a x).length) ax (hopsL e.1 C.1 C.2.1 pts bl a x)/\OVec f aK.heap.size 43 pv1 1 Ak i ck (((ownW 1 e.1).take i).map base)) (fun⟨i,Ak,ck⟩=>e.1.length-i) (0,none,0) ?_ ?_ ?_
  ·exact .cons rfl (.cons rfl (.cons rfl (.cons rfl (.cons rfl (.cons rfl (.cons rfl (.cons rfl (.cons rfl (.cons rfl (.cons rfl (.cons rfl (.cons rfl (.cons rfl (.cons rfl (.cons rfl (.nil _))))))))))))))))
  ·exact⟨Nat.zero_le _,bM,Nat.le_refl _,bN,bO,bP,bQ,bR,bS,bT,bU,bb,(OVec.nil aK aK.heap.size 43 pv1 1 none)⟩
  rintro⟨i,Ak,ck⟩ f ⟨hi,bV,cZ,bW,bc,bX,bY,bZ,b0,b2,b3,bd,b4⟩
  have c3:au.heap.size<=f.heap.size:=by have:=aU.size;have:=az.size;have:=aA.size;have:=aB.size;have:=ac.size;have:=T.size;have:=U.size;have:=ah.size;have:=ai.size;have:=V.size;have:=I.size;omega
  have eo:Z.heap.size<=f.heap.size:=by have:=ac.size;have:=T.size;have:=U.size;have:=ah.size;have:=ai.size;have:=V.size;have:=I.size;omega
  have b5:Z.heap.size<=f.heap.size:=by have:=ac.size;have:=T.size;have:=U.size;have:=ah.size;have:=ai.size;have:=V.size;have:=I.size;omega
  have ep:ad.heap.size<=f.heap.size:=by have:=V.size;have:=I.size;omega
  have b6:ad.heap.size<=f.heap.size:=by have:=V.size;have:=I.size;omega
  have c6:aw.heap.size<=f.heap.size:=by have:=I.size;omega
  have c7:aK.heap.size<=f.heap.size:=by omega
  refine WC.seq (WC.sr (W.run 2 rfl (W.r (.len underlying32 rfl) ?_)))
  refine W.run 1 rfl (W.nx ?_)
  by_cases c2:((i:Nat):Int)<((e.1.length:Nat):Int)
  ·refine WC.condY rfl (decide_eq_true c2) (WC.sn (WC.seq (WC.block (WC.region ?_))))
   have hed:=(edgeOk_T (wayG_at hbc.way (i:=i) (by omega)).1).2
   refine W.run 3 rfl (W.a (.idxS (i) underlying32 sz81 rfl rfl (L.vec.isSome edgeV_row (by omega)) (rfl) (by omega)) ?_)
   refine W.a (.vfield fa81_1 (L.vec.isSome edgeV_row (by omega)) rfl) ?_
   refine W.r (.vcell (j:=i) (o:=1) (v:= .int .i64 ((e.1.getD i noEdge).t)) na3 rfl bc.vec edgeV_row (getS e.1 noEdge (by first|omega|(simp only[List.length_cons,List.length_nil];omega))) rfl) ?_
   refine W.a (.add rfl rfl (by omega)) ?_
   refine W.r (.as (.idI (isS underlying3) underlying28 rfl (IntWalk.u64_in _ (by omega))) (int_eq (b:=(((1+(e.1.getD i noEdge).t).toNat:Nat):Int)) (by omega))) ?_
   refine W.cl go20 rfl rfl (base_ok ((1+(e.1.getD i noEdge).t).toNat) f) ?_
   rintro _ c9 ⟨rfl,R⟩
   refine W.ef rfl rfl rfl (Ef.buildSliceV (len:=1) [_] underlying39 el43 rfl (by simp[Value.cells]) rfl (by decide) (by decide) ?_)
   intro b7 b8 da a1 S
   have a1:Blk b8 b7 43 (([base ((1+(e.1.getD i noEdge).t).toNat)]).map pv1).flatten.toArray:=a1
   have er:OVec b8 c9.heap.size 43 pv1 1 (some ⟨b7,0,none⟩) 1 1 ([base ((1+(e.1.getD i noEdge).t).toNat)]):=a1.ovec da pv1_row rfl rfl (by decide)
   have aa:=(b4.le (R.trans S))
   refine W.ef rfl rfl rfl (Ef.vpush (a:=(base ((1+(e.1.getD i noEdge).t).toNat))) underlying39 el43 underlying39 pv1_row rfl aa rfl a1 (by omega) (by unfold maxLen;omega) (by have:=c7;have:=R.size;have:=S.size;omega) ?_)
   intro db dc es dd ab et
   refine W.run 1 rfl (W.nil (E.blkN (E.thenN (WC.region (W.run 1 rfl (W.a (.add rfl rfl (by omega)) ?_))))))
   refine W.run 1 rfl (W.nil ?_)
   have de:=((bW.le (R.trans S)).ch ab (fun he=>by have:=(aa.row he).1;have:=bN.lt;omega))
   have dg:=((bc.le (R.trans S)).ch ab ((Apart.symm (fun q h1 h2=>by have:=(bO.row h1).2;have:=(aa.row h2).1;omega))))
   have dh:=((bX.le (R.trans S)).ch ab (fun he=>by have:=(aa.row he).1;have:=bP.lt;omega))
   have di:=((bY.le (R.trans S)).ch ab ((Apart.symm (fun q h1 h2=>by have:=(bQ.row h1).2;have:=(aa.row h2).1;omega))))
   have dj:=((bZ.le (R.trans S)).ch ab ((Apart.symm (fun q h1 h2=>by have:=(bR.row h1).2;have:=(aa.row h2).1;omega))))
   have dk:=((b0.le (R.trans S)).ch ab (fun he=>by have:=(aa.row he).1;have:=bS.lt;omega))
   have dl:=((b2.le (R.trans S)).ch ab ((Apart.symm (fun q h1 h2=>by have:=(bT.row h1).2;have:=(aa.row h2).1;omega))))
   have dm:=((b3.le (R.trans S)).ch ab ((Apart.symm (fun q h1 h2=>by have:=(bU.row h1).2;have:=(aa.row h2).1;omega))))
   have dn:=((bd.le (R.trans S)).ch ab ((Apart.symm (fun q h1 h2=>by have:=(bb.row h1).2;have:=(aa.row h2).1;omega))))
   refine E.again (i+1,db,dc) (.cons rfl (.cons rfl (.cons rfl (.cons rfl (.cons rfl (.cons rfl (.cons rfl (.cons rfl (.cons rfl (.cons rfl (.cons rfl (.cons rfl (.cons rfl (.cons rfl (.cons rfl (.cons rfl (.nil _))))))))))))))))) ?_ ?_
   ·exact⟨by omega,(((bV.trans R).trans S).then_ ab (fun q hq=>Nat.le_trans bM.size (aa.row hq).1)),by have:=cZ;have:=R.size;have:=S.size;have:=ab.size;omega,de,dg,dh,di,dj,dk,dl,dm,dn,(dd.cast rfl (ownW_next (by omega)).symm)⟩
   first|omega|(simp only[];omega)
  refine WC.condN rfl (decide_eq_false c2) (WC.exit (E.thenX (E.thenX (E.blkH (E.thenN (WC.sr ?_))))))
  have hie:i=e.1.length:=by omega
  refine W.run 2 rfl (W.r (.loadAll ag30 (by simp[hse]) rfl bW) ?_)
  refine W.cl go52 rfl rfl (wrap_way (c:=ck) (ch:=ax) hse f b4.vec (by rw[hie,List.take_of_length_le (by rw[hown.1];exact Nat.le_refl _)]) keys_lt (by omega) (by omega) bd.vec (by omega) hWk.ok (hWk.wrap hown.1 hown.2.1)) ?_
  rintro _ dp ⟨be,bf,rfl,dq,eu,H⟩
  refine W.run 5 rfl (W.nx (WC.seq (WC.sr (W.run 4 rfl (W.g (Any.rd (.dec (.neq rfl rfl) (dF (fun h=>h cY))) _) ?_)))))
  refine W.run 3 rfl (W.g (Any.rd (.dec (.neq rfl rfl) (show _=false from by first|decide|rfl)) _) ?_)
  refine W.run 3 rfl (W.g (Any.rd (.dec (.neq rfl rfl) (show _=false from by first|decide|rfl)) _) ?_)
  refine W.run 3 rfl (W.g (.len underlying23 rfl) ?_)
  refine W.run 1 rfl (W.g (.len underlying32 rfl) ?_)
  refine W.g (Any.rd (.dec (.neq rfl rfl) (dF (by omega))) _) ?_
  refine W.run 3 rfl (W.g (.len underlying23 rfl) ?_)
  refine W.run 1 rfl (W.g (.len underlying32 rfl) ?_)
  refine W.g (Any.rd (.dec (.neq rfl rfl) (dF (by omega))) _) ?_
  refine W.run 3 rfl (W.g (.len underlying101 rfl) ?_)
  refine W.run 1 rfl (W.g (.len underlying32 rfl) ?_)
  refine W.g (Any.rd (.dec (.neq rfl rfl) (dF (by omega))) _) ?_
  refine W.run 2 rfl (W.g (Any.rd (.field0 fa41_0 rfl) _) ?_)
  have b9:=(bX.le H)
  refine W.g (.loadB (v:= .slice (some ⟨gp,0,none⟩) e.1.length e.1.length) na39 rfl b9 rfl) ?_
  refine W.g (.len underlying39 rfl) ?_
  refine W.run 1 rfl (W.g (.len underlying32 rfl) ?_)
  refine W.g (Any.rd (.dec (.neq rfl rfl) (dF (by omega))) _) ?_
  refine W.run 3 rfl (W.g (.len underlying32 rfl) ?_)
  refine W.g (Any.rd (.dec (.eql rfl rfl) (dF (by omega))) _) ?_
  refine W.run 1 rfl (W.nx (WC.condF rfl (WC.sn (WC.seq (WC.sr (W.run 1 rfl (W.nx (WC.block ?_))))))))
  refine WC.loop (ι:=Nat) (fun X=>[(4,.int .i64 (a)),(8,.int .i64 (ht)),(21,.bool true),(24,.slice ay e.1.length av),(27,.int .u64 (((base (1+(s%2305843009213688668)):Nat):Int))),(28,.pointer (some ⟨aC,0,none⟩)),(30,.pointer (some ⟨an,0,none⟩)),(31,.slice aX C.1.length aY),(32,.slice aZ C.2.1.length a0),(34,.slice aE ((hopsL e.1 C.1 C.2.1 pts bl a x).length) ax),(38,.slice be ((pkt ((ownW 1 e.1).map base) (hopsL e.1 C.1 C.2.1 pts bl a x) seed 0).length) bf),(40,.int .i64 (((X:Nat):Int)))]) (fun X D=>(X<=e.1.length)/\(∀j,j<X->pts.getD j 0≠1)/\Le w D/\dp.heap.size<=D.heap.size/\OVec D au.heap.size 81 edgeV 9 ay e.1.length av e.1/\Blk D aC 41 #[.slice (some ⟨gp,0,none⟩) e.1.length e.1.length,.slice Abl (e.1.length-1) cbl]/\OVec D Z.heap.size 43 pv1 1 (some ⟨gp,0,none⟩) e.1.length e.1.length pts/\OVec D Z.heap.size 28 pv1 1 Abl (e.1.length-1) cbl bl/\Blk D an 100 (bndV (⟨0,0,((np:Nat):Int)⟩:Bnd)).toArray/\OVec D ad.heap.size 3 iv 1 aX C.1.length aY C.1/\OVec D ad.heap.size 3 iv 1 aZ C.2.1.length a0 C.2.1/\OVec D aw.heap.size 109 hopV 6 aE ((hopsL e.1 C.1 C.2.1 pts bl a x).length) ax (hopsL e.1 C.1 C.2.1 pts bl a x)/\OVec D f.heap.size 5 byteV 1 be ((pkt ((ownW 1 e.1).map base) (hopsL e.1 C.1 C.2.1 pts bl a x) seed 0).length) bf (pkt ((ownW 1 e.1).map base) (hopsL e.1 C.1 C.2.1 pts bl a x) seed 0)) (fun X=>e.1.length-X) 0 ?_ ?_ ?_
  ·exact .cons rfl (.cons rfl (.cons rfl (.cons rfl (.cons rfl (.cons rfl (.cons rfl (.cons rfl (.cons rfl (.cons rfl (.cons rfl (.cons rfl (.nil _))))))))))))
  ·exact⟨Nat.zero_le _,fun j hj=>absurd hj (Nat.not_lt_zero _),(bV.trans H),Nat.le_refl _,(bc.le H),b9,(bY.le H),(bZ.le H),(b0.le H),(b2.le H),(b3.le H),(bd.le H),dq⟩
  rintro X D ⟨ew,hz,bg,dr,aL,a2,bh,ds,aM,ca,cc,aO,bi⟩
  have du:au.heap.size<=D.heap.size:=Nat.le_trans c3 (by have:=H.size;omega)
  have ex:Z.heap.size<=D.heap.size:=Nat.le_trans b5 (by have:=H.size;omega)
  have ey:Z.heap.size<=D.heap.size:=Nat.le_trans b5 (by have:=H.size;omega)
  have ez:ad.heap.size<=D.heap.size:=Nat.le_trans b6 (by have:=H.size;omega)
  have eA:ad.heap.size<=D.heap.size:=Nat.le_trans b6 (by have:=H.size;omega)
  have dw:aw.heap.size<=D.heap.size:=Nat.le_trans c6 (by have:=H.size;omega)
  have dx:f.heap.size<=D.heap.size:=by have:=H.size;omega
  refine WC.seq (WC.sr (W.run 1 rfl (W.a (.field0 fa41_0 rfl) ?_)))
  refine W.r (.loadB (v:= .slice (some ⟨gp,0,none⟩) e.1.length e.1.length) na39 rfl a2 rfl) ?_
  refine W.r (.len underlying39 rfl) ?_
  refine W.run 1 rfl (W.nx ?_)
  by_cases c4:((X:Nat):Int)<((e.1.length:Nat):Int)
  ·refine WC.condY rfl (decide_eq_true c4) (WC.sn (WC.seq (WC.block (WC.sr (W.a (.field0 fa41_0 rfl) ?_)))))
   refine W.r (.loadB (v:= .slice (some ⟨gp,0,none⟩) e.1.length e.1.length) na39 rfl a2 rfl) ?_
   refine W.run 1 rfl (W.a (.idxS (X) underlying39 sz43 rfl rfl (op.vec.isSome pv1_row (by omega)) (rfl) (by omega)) ?_)
   refine W.r (.vone (v:= .int .u64 ((((pts.getD X 0):Nat):Int))) na43 rfl bh.vec pv1_row (getS pts 0 (by omega)) rfl) ?_
   refine W.run 1 rfl (W.nx ?_)
   by_cases c5:(((pts.getD X 0):Nat):Int)=1
   ·refine WC.condY rfl (decide_eq_true c5) (WC.sr (W.run 2 rfl (W.nx (WC.ret (E.blkR (E.thenR (E.thenR (E.blkR (E.thenR (E.retG1 rfl rfl ?_))))))))))
    exact⟨rfl,bg⟩
   refine WC.condN rfl (decide_eq_false c5) (WC.skip (E.blkN (E.thenN (WC.region (W.run 1 rfl (W.a (.add rfl rfl (by omega)) ?_))))))
   refine W.run 1 rfl (W.nil (E.again (X+1) (.cons rfl (.cons rfl (.cons rfl (.cons rfl (.cons rfl (.cons rfl (.cons rfl (.cons rfl (.cons rfl (.cons rfl (.cons rfl (.cons rfl (.nil _))))))))))))) ?_ ?_))
   ·exact⟨by omega,fun j hj=>(Nat.lt_succ_iff_lt_or_eq.1 hj).elim (hz j) (fun hh=>by subst hh;omega),bg,by have:=dr;omega,aL,a2,bh,ds,aM,ca,cc,aO,bi⟩
   first|omega|(simp only[];omega)
  refine WC.condN rfl (decide_eq_false c4) (WC.exit (E.thenX (E.thenX (E.blkH (E.thenN (WC.seq (WC.draw [0,1,2,3,4,5,6,7,8,9,10,11,12] mixed (by kernel_rfl) fun eB m=>?_)))))))
  have a3:=bg.trans m
  have hne:∀j,j<e.1.length->pts.getD j 0≠1:=fun j hj=>hz j (by omega)
  have hwd:worldB ht (⟨0,0,((np:Nat):Int)⟩:Bnd)=true:=by simp only[worldB,inB,Bool.and_eq_true,decide_eq_true_eq];omega
  have hxn:ht<x-(⟨0,0,((np:Nat):Int)⟩:Bnd).nap:=by show ht<x-((np:Nat):Int);omega
  have hpl:∀j,j<e.1.length->(pkt ((ownW 1 e.1).map base) (hopsL e.1 C.1 C.2.1 pts bl a x) seed j).length=680:=fun j hj=>pkt_length _ _ _ (by rw[List.length_map,hown.1];exact hHL) (by rw[List.length_map,hown.1];omega) j (by rw[List.length_map,hown.1];exact hj)
  refine G.run 1 rfl (G.a rfl (.idxS (0) underlying23 sz3 rfl rfl (bH.vec.isSome iv_row (by omega)) (rfl) (by omega)) ?_)
  refine G.r rfl (.vone (v:= .int .i64 ((C.1.getD 0 0))) na3 rfl (ca.le m).vec iv_row (getS C.1 0 (by first|omega|(simp only[List.length_cons,List.length_nil];omega))) rfl) ?_
  refine G.run 1 rfl (G.a rfl (.idxS (0) underlying23 sz3 rfl rfl (bI.vec.isSome iv_row (by omega)) (rfl) (by omega)) ?_)
  refine G.r rfl (.vone (v:= .int .i64 ((C.2.1.getD 0 0))) na3 rfl (cc.le m).vec iv_row (getS C.2.1 0 (by first|omega|(simp only[List.length_cons,List.length_nil];omega))) rfl) ?_
  refine G.a rfl (.field0 fa41_0 rfl) ?_
  refine G.r rfl (.loadB (v:= .slice (some ⟨gp,0,none⟩) e.1.length e.1.length) na39 rfl (a2.le m) rfl) ?_
  refine G.a rfl (.idxS (0) underlying39 sz43 rfl rfl (op.vec.isSome pv1_row (by omega)) (rfl) (by omega)) ?_
  refine G.r rfl (.vone (v:= .int .u64 ((((pts.getD 0 0):Nat):Int))) na43 rfl (bh.le m).vec pv1_row (getS pts 0 (by omega)) rfl) ?_
  refine G.a rfl (.buildP (condV (cndW C.1 C.2.1 pts 0)) pl107 z107 rfl rfl) ?_
  refine G.ef rfl rfl rfl rfl rfl (Ef.allocA z107 fun aF dy bj (dz:Blk dy aF 107 (condV noCnd).toArray) aj=>⟨fun _=>aj,?_⟩)
  refine G.ef0 rfl rfl rfl rfl (Ef.storeAll sz107 (by rfl) rfl rfl dz (by simp only[List.size_toArray,condV_row.len]) (condV_row.one (cndW C.1 C.2.1 pts 0)) ?_)
  intro cd bk ao
  refine noT (by kernel_rfl) ?_
  have bk:Blk cd aF 107 (condV (cndW C.1 C.2.1 pts 0)).toArray:=bk
  refine G.nil (E.thenN (WC.seq (WC.sr (W.run 1 rfl (W.nx (WC.block ?_))))))
  have dA:=((bi.le (m.trans aj)).ch ao (fun q hq=>by cases hq;exact(fun he=>by have:=(bi.row he).2;have:=m.size;omega)))
  have dB:=((aL.le (m.trans aj)).ch ao (fun q hq=>by cases hq;exact(fun he=>by have:=(aL.row he).2;have:=m.size;omega)))
  have dC:=((aM.le (m.trans aj)).cn ao (by have:=aM.lt;have:=m.size;omega))
  have dD:=((aO.le (m.trans aj)).ch ao (fun q hq=>by cases hq;exact(fun he=>by have:=(aO.row he).2;have:=m.size;omega)))
  refine WC.loop (ι:=Nat×((Option Addr))×Nat) (fun⟨k,Ao,co⟩=>[(4,.int .i64 (a)),(8,.int .i64 (ht)),(21,.bool true),(24,.slice ay e.1.length av),(27,.int .u64 (((base (1+(s%2305843009213688668)):Nat):Int))),(30,.pointer (some ⟨an,0,none⟩)),(34,.slice aE ((hopsL e.1 C.1 C.2.1 pts bl a x).length) ax),(38,.slice Ao ((pkt ((ownW 1 e.1).map base) (hopsL e.1 C.1 C.2.1 pts bl a x) seed k).length) co),(41,.pointer (some ⟨aF,0,none⟩)),(42,.int .i64 (((k:Nat):Int)))]) (fun⟨k,Ao,co⟩ Y=>(k<e.1.length)/\((pkt ((ownW 1 e.1).map base) (hopsL e.1 C.1 C.2.1 pts bl a x) seed k).length<=co)/\Le w Y/\cd.heap.size<=Y.heap.size/\OVec Y au.heap.size 81 edgeV 9 ay e.1.length av e.1/\Blk Y an 100 (bndV (⟨0,0,((np:Nat):Int)⟩:Bnd)).toArray/\OVec Y aw.heap.size 109 hopV 6 aE ((hopsL e.1 C.1 C.2.1 pts bl a x).length) ax (hopsL e.1 C.1 C.2.1 pts bl a x)/\OVec Y f.heap.size 5 byteV 1 Ao ((pkt ((ownW 1 e.1).map base) (hopsL e.1 C.1 C.2.1 pts bl a x) seed k).length) co (pkt ((ownW 1 e.1).map base) (hopsL e.1 C.1 C.2.1 pts bl a x) seed k)/\Blk Y aF 107 (condV (cndW C.1 C.2.1 pts k)).toArray) (fun⟨k,Ao,co⟩=>e.1.length-k) (0,be,bf) ?_ ?_ ?_
  ·exact .cons rfl (.cons rfl (.cons rfl (.cons rfl (.cons rfl (.cons rfl (.cons rfl (.cons rfl (.cons rfl (.cons rfl (.nil _))))))))))
  ·exact⟨by omega,by assumption,((a3.trans aj).tb ao a3 bj),Nat.le_refl _,dB,dC,dD,dA,bk⟩
  rintro⟨k,Ao,co⟩ Y ⟨hk,hco,dE,ce,a4,aG,bm,dG,ap⟩
  have eC:au.heap.size<=Y.heap.size:=Nat.le_trans du (by have:=m.size;have:=aj.size;have:=ao.size;omega)
  have eD:aw.heap.size<=Y.heap.size:=Nat.le_trans dw (by have:=m.size;have:=aj.size;have:=ao.size;omega)
  have eE:f.heap.size<=Y.heap.size:=Nat.le_trans dx (by have:=m.size;have:=aj.size;have:=ao.size;omega)
  refine WC.seq (WC.sr (W.run 2 rfl (W.r (.len underlying32 rfl) ?_)))
  refine W.a (.dec (.lss rfl rfl) (dT (by omega))) ?_
  refine W.nx (WC.condT rfl (WC.sn (WC.seq (WC.block (WC.sr ?_)))))
  have hed:=(edgeOk_T (wayG_at hbc.way (i:=k) (by omega)).1).2
  obtain⟨sum,hpe⟩:=hWk.peel hown.1 hown.2.1 seed (i:=k) (by omega)
  rw[hown.2.2 k (by omega)]at hpe
  have cf:=peel_sum32 hpe
  have hplk:=hpl k (by omega)
  refine W.run 2 rfl (W.a (.idxS (k) underlying32 sz81 rfl rfl (L.vec.isSome edgeV_row (by omega)) (rfl) (by omega)) ?_)
  refine W.a (.vfield fa81_1 (L.vec.isSome edgeV_row (by omega)) rfl) ?_
  refine W.r (.vcell (j:=k) (o:=1) (v:= .int .i64 ((e.1.getD k noEdge).t)) na3 rfl a4.vec edgeV_row (getS e.1 noEdge (by first|omega|(simp only[List.length_cons,List.length_nil];omega))) rfl) ?_
  refine W.a (.add rfl rfl (by omega)) ?_
  refine W.r (.as (.idI (isS underlying3) underlying28 rfl (IntWalk.u64_in _ (by omega))) (int_eq (b:=(((1+(e.1.getD k noEdge).t).toNat:Nat):Int)) (by omega))) ?_
  refine W.run 1 rfl (W.cl go53 rfl rfl (peel_way (by omega) Y dG.vec (by omega) hpe) ?_)
  rintro _ eF ⟨cg,ci,rfl,ae,eG,u⟩
  have cj:=dE.trans u
  refine W.run 1 rfl (W.a (.extract (v:= .agg (hopV ((hopsL e.1 C.1 C.2.1 pts bl a x).getD k noHop)).toArray) rfl rfl) ?_)
  refine W.run 1 rfl (W.a (.extract (v:= .agg (sum.map u8v).toArray) rfl rfl) ?_)
  refine W.run 1 rfl (W.ef rfl rfl rfl (Ef.allocA z109 fun cm dH dI (bn:Blk dH cm 109 (hopV noHop).toArray) y=>?_))
  have cq:=cj.trans y
  refine W.ef rfl rfl rfl (Ef.allocA z30 fun dJ dK dL (dM:Blk dK dJ 30 #[.int .u8 (0),.int .u8 (0),.int .u8 (0),.int .u8 (0),.int .u8 (0),.int .u8 (0),.int .u8 (0),.int .u8 (0),.int .u8 (0),.int .u8 (0),.int .u8 (0),.int .u8 (0),.int .u8 (0),.int .u8 (0),.int .u8 (0),.int .u8 (0),.int .u8 (0),.int .u8 (0),.int .u8 (0),.int .u8 (0),.int .u8 (0),.int .u8 (0),.int .u8 (0),.int .u8 (0),.int .u8 (0),.int .u8 (0),.int .u8 (0),.int .u8 (0),.int .u8 (0),.int .u8 (0),.int .u8 (0),.int .u8 (0)]) N=>(W.ef0 rfl rfl ?_))
  refine Ef.storeAll sz109 (by rfl) rfl rfl (bn.le N) (by simp only[List.size_toArray,hopV_row.len]) (hopV_row.one ((hopsL e.1 C.1 C.2.1 pts bl a x).getD k noHop)) ?_
  intro dN bo O
  have bo:Blk dN cm 109 (hopV ((hopsL e.1 C.1 C.2.1 pts bl a x).getD k noHop)).toArray:=bo
  refine W.run 1 rfl ?_
  have dO:=(dM.cn O (by have:=bn.lt;omega))
  refine W.ef0 rfl rfl (Ef.storeAll sz30 (by simp[cf]) rfl rfl dO (by simp[cf]) (all_u8v _) ?_)
  intro eH eI P
  refine W.run 1 rfl (W.nx (WC.seq (WC.seq (WC.draw [0,1,2,3,4,5,6,7,8,9] mixed (by kernel_rfl) fun dP Q=>?_))))
  have cr:=(((cq.trans N).tb O cj dI).tb P cq dL).trans Q
  refine G.run 1 rfl (G.a rfl (.dec (.neq rfl rfl) (show _=false from by first|decide|rfl)) ?_)
  refine G.run 1 rfl ?_
  have bq:=((bo.cn P (by have:=bn.lt;omega)).le Q)
  refine G.rg rfl (.loadAll ag109 (by rfl) rfl bq) ?_
  refine G.run 2 rfl (G.ag rfl (.idxS (k) underlying101 sz109 rfl rfl (bb.vec.isSome hopV_row (by omega)) (rfl) (by omega)) ?_)
  have aP:=((((bm.le (u.trans (y.trans N))).ch O (fun q hq=>by cases hq;exact(fun he=>by have:=(bm.row he).2;have:=u.size;omega))).ch P (fun q hq=>by cases hq;exact(fun he=>by have:=(bm.row he).2;have:=u.size;have:=y.size;omega))).le Q)
  refine G.rg rfl (.vload ag109 rfl aP.vec hopV_row (getS (hopsL e.1 C.1 C.2.1 pts bl a x) noHop (by first|omega|(simp only[List.length_cons,List.length_nil];omega)))) ?_
  refine G.ag rfl (.dec (.neA eg109 rfl rfl (eqv_hop (d:=9998) _ _)) (show(!decide ((hopsL e.1 C.1 C.2.1 pts bl a x).getD k noHop=(hopsL e.1 C.1 C.2.1 pts bl a x).getD k noHop))=false from by simp)) ?_
  refine G.run 1 rfl (G.nil (E.thenN (WC.condF rfl (WC.sn (WC.sr (W.run 2 rfl (W.nx (WC.seq (WC.sr (W.run 2 rfl (W.r (.len underlying32 rfl) ?_)))))))))))
  refine W.a (.sub rfl rfl (by omega)) ?_
  refine W.run 1 rfl (W.nx ?_)
  by_cases c8:((k:Nat):Int)=(((e.1.length:Nat):Int)-1)
  ·refine WC.condY rfl (decide_eq_true c8) (WC.sr (W.run 2 rfl (W.g (.loadAll ag109 (by rfl) rfl bq) ?_)))
   have ct:=((((ap.le (u.trans (y.trans N))).cn O (by have:=ap.lt;have:=u.size;omega)).cn P (by have:=ap.lt;have:=u.size;have:=y.size;omega)).le Q)
   refine W.g (.loadAll ag107 (by rfl) rfl ct) ?_
   refine W.run 1 rfl (W.g (.loadAll ag100 (by rfl) rfl ((((aG.le (u.trans (y.trans N))).cn O (by have:=aG.lt;have:=u.size;omega)).cn P (by have:=aG.lt;have:=u.size;have:=y.size;omega)).le Q)) ?_)
   refine W.efg rfl rfl rfl (rfl) rfl rfl (Ef.call go54 rfl rfl ((by have z:=hlast_ok ((hopsL e.1 C.1 C.2.1 pts bl a x).getD (e.1.length-1) noHop) (cndW C.1 C.2.1 pts (e.1.length-1)) ht (⟨0,0,((np:Nat):Int)⟩:Bnd) (right_l64 (hWk.rt _ (by omega))) (by rw[hWk.fin];exact right_l64 (hWk.rt _ (by omega))) dP;rw[hWk.last hne hwd hxn,show e.1.length-1=k by omega]at z;exact z)) ?_)
   rintro _ eJ ⟨rfl,cu⟩
   refine⟨_,rfl,?_⟩
   refine W.g (Any.rd (.dec (.eql rfl rfl) (show _=true from by first|decide|rfl)) _) ?_
   refine W.run 2 rfl (W.g (Any.rd (.field0 fa107_2 rfl) _) ?_)
   have cv:=(ct.le cu)
   refine W.g (.loadB (v:= .int .i64 ((cndW C.1 C.2.1 pts k).am)) na3 rfl cv rfl) ?_
   refine W.run 1 rfl (W.g (Any.rd (.dec (.eql rfl rfl) (dT (show C.1.getD k 0=a by rw[show k=e.1.length-1 by omega];exact hcs.endS))) _) ?_)
   refine W.run 2 rfl (W.g (Any.rd (.field0 fa107_3 rfl) _) ?_)
   refine W.g (.loadB (v:= .int .u64 ((((cndW C.1 C.2.1 pts k).pt:Nat):Int))) na43 rfl cv rfl) ?_
   refine W.run 1 rfl (W.g (Any.rd (.dec (.eql rfl rfl) (dT (congrArg Nat.cast (show pts.getD k 0=(base (1+s%2305843009213688668)) by rw[hpts,show k=bl.length by omega];exact fromP_fin _ _)))) _) ?_)
   refine W.run 2 rfl (W.nx (WC.ret (E.thenR (E.blkR (E.thenR (E.thenR (E.blkR (E.thenR (E.retG1 rfl rfl ?_)))))))))
   exact⟨rfl,(cr.trans cu)⟩
  refine WC.condN rfl (decide_eq_false c8) (WC.sn (WC.seq (WC.drawT (fun o=>(app o [0,1,2,3,4,5,6,7,8,9] (.br (app o [10,11,12,13,14,15,16] .nil) (app o [14,10,11,12,13,15,16] .nil)))) mixed (by kernel_rfl) fun dQ J=>?_)))
  have bs:=cr.trans J
  refine GT.app ?_
  have aQ:=(bq.le J)
  refine G.r rfl (.loadAll ag109 (by rfl) rfl aQ) ?_
  have aR:=((((ap.le (u.trans (y.trans N))).cn O (by have:=ap.lt;have:=u.size;omega)).cn P (by have:=ap.lt;have:=u.size;have:=y.size;omega)).le (Q.trans J))
  refine G.r rfl (.loadAll ag107 (by rfl) rfl aR) ?_
  refine G.run 2 rfl (G.a rfl (.add rfl rfl (by omega)) ?_)
  refine G.a rfl (.idxS ((k+1)) underlying32 sz81 rfl rfl (L.vec.isSome edgeV_row (by omega)) (by omega) (by omega)) ?_
  refine G.a rfl (.vfield fa81_4 (L.vec.isSome edgeV_row (by omega)) rfl) ?_
  have aS:=((((a4.le (u.trans (y.trans N))).ch O (fun q hq=>by cases hq;exact(fun he=>by have:=(a4.row he).2;have:=u.size;omega))).ch P (fun q hq=>by cases hq;exact(fun he=>by have:=(a4.row he).2;have:=u.size;have:=y.size;omega))).le (Q.trans J))
  refine G.r rfl (.vpart (j:=(k+1)) (o:=4) (polV ((e.1.getD (k+1) noEdge).pol)) ag79 rfl (by decide) rfl aS.vec edgeV_row (getS e.1 noEdge (by first|omega|(simp only[List.length_cons,List.length_nil];omega))) rfl) ?_
  refine G.run 1 rfl ?_
  have aT:=((((aG.le (u.trans (y.trans N))).cn O (by have:=aG.lt;have:=u.size;omega)).cn P (by have:=aG.lt;have:=u.size;have:=y.size;omega)).le (Q.trans J))
  refine G.r rfl (.loadAll ag100 (by rfl) rfl aT) ?_
  refine G.nil (GT.br ?_ ?_)
  ·refine GT.last (G.ef rfl rfl rfl rfl rfl (Ef.call go55 rfl rfl ((by have k:=hnext_ok ((hopsL e.1 C.1 C.2.1 pts bl a x).getD k noHop) (cndW C.1 C.2.1 pts k) (e.1.getD (k+1) noEdge).pol ht (⟨0,0,((np:Nat):Int)⟩:Bnd) (right_l64 (hWk.rt k (by omega))) (by rw[hWk.at_ (by omega)];exact right_l64 (hWk.rt (k+1) (by omega))) (polI_ok (edgeOk_T (wayG_at hbc.way (i:=k+1) (by omega)).1).2.2.2.2.2) dQ;rw[hWk.next (by omega) hne hwd hxn]at k;exact k)) ?_))
   rintro _ eK ⟨rfl,K⟩
   refine⟨_,rfl,?_⟩
   refine⟨fun _=>K,?_⟩
   have cw:=bs.trans K
   refine G.run 1 rfl (G.a rfl (.extract (v:= .agg (condV (cndW C.1 C.2.1 pts (k+1))).toArray) rfl rfl) ?_)
   refine G.run 1 rfl (G.ef rfl rfl rfl rfl rfl (Ef.allocA z107 fun cx dR dS (dU:Blk dR cx 107 (condV noCnd).toArray) ak=>⟨fun _=>ak,?_⟩))
   refine G.ef0 rfl rfl rfl rfl (Ef.storeAll sz107 (by rfl) rfl rfl dU (by simp only[List.size_toArray,condV_row.len]) (condV_row.one (cndW C.1 C.2.1 pts (k+1))) ?_)
   intro dV bt aq
   refine noT (by kernel_rfl) ?_
   have bt:Blk dV cx 107 (condV (cndW C.1 C.2.1 pts (k+1))).toArray:=bt
   refine G.run 1 rfl (G.nil (E.thenN (WC.seq (WC.seq (WC.draw [0,1,2,3,4,5,6,7,8,9,10,11,12] mixed (by kernel_rfl) fun dW F=>(G.run 1 rfl (G.a rfl (.dec (.neq rfl rfl) (show _=false from by first|decide|rfl)) ?_)))))))
   refine G.run 1 rfl (G.ag rfl (.field0 fa109_0 rfl) ?_)
   refine G.rg rfl (.loadB (v:= .int .i64 (((hopsL e.1 C.1 C.2.1 pts bl a x).getD k noHop).1)) na3 rfl (((aQ.le (K.trans ak)).cn aq (by have:=aQ.lt;have:=K.size;omega)).le F) rfl) ?_
   refine G.run 2 rfl (G.ag rfl (.add rfl rfl (by omega)) ?_)
   refine G.ag rfl (.idxS ((k+1)) underlying32 sz81 rfl rfl (L.vec.isSome edgeV_row (by omega)) (by omega) (by omega)) ?_
   refine G.ag rfl (.vfield fa81_1 (L.vec.isSome edgeV_row (by omega)) rfl) ?_
   have cy:=(((aS.le (K.trans ak)).ch aq (fun q hq=>by cases hq;exact(fun he=>by have:=(aS.row he).2;have:=K.size;omega))).le F)
   refine G.rg rfl (.vcell (j:=(k+1)) (o:=1) (v:= .int .i64 ((e.1.getD (k+1) noEdge).t)) na3 rfl cy.vec edgeV_row (getS e.1 noEdge (by first|omega|(simp only[List.length_cons,List.length_nil];omega))) rfl) ?_
   refine G.ag rfl (.dec (.neq rfl rfl) (dF (fun h=>h (by rw[hWk.at_ (by omega)];rfl)))) ?_
   refine G.run 1 rfl (G.nil (E.thenN (WC.condF rfl (WC.sn (WC.region (W.r (.loadAll ag107 (by rfl) rfl (bt.le F)) ?_))))))
   have dX:=(((aR.le (K.trans ak)).cn aq (by have:=aR.lt;have:=K.size;omega)).le F)
   refine W.ef0 rfl rfl (Ef.storeAll sz107 (by rfl) rfl rfl dX (by simp only[List.size_toArray,condV_row.len]) (condV_row.one (cndW C.1 C.2.1 pts (k+1))) ?_)
   intro dY bu aH
   have bu:Blk dY aF 107 (condV (cndW C.1 C.2.1 pts (k+1))).toArray:=bu
   refine W.nil (E.blkN (E.thenN (WC.region (W.run 1 rfl (W.a (.add rfl rfl (by omega)) ?_)))))
   refine W.run 1 rfl (W.nil ?_)
   have dZ:=(cy.ch aH (fun q hq=>by cases hq;exact(fun he=>by have:=(aL.row he).2;have:=m.size;omega)))
   have d0:=((((aT.le (K.trans ak)).cn aq (by have:=aT.lt;have:=K.size;omega)).le F).cn aH (by have:=aM.lt;have:=m.size;omega))
   have d1:=((((aP.le (J.trans (K.trans ak))).ch aq (fun q hq=>by cases hq;exact(fun he=>by have:=(aP.row he).2;have:=J.size;have:=K.size;omega))).le F).ch aH (fun q hq=>by cases hq;exact(fun he=>by have:=(aO.row he).2;have:=m.size;omega)))
   have d2:=(((((((ae.le (y.trans N)).ch O (fun q hq=>by cases hq;exact(fun he=>by have:=(ae.row he).2;omega))).ch P (fun q hq=>by cases hq;exact(fun he=>by have:=(ae.row he).2;have:=y.size;omega))).le (Q.trans (J.trans (K.trans ak)))).ch aq (fun q hq=>by cases hq;exact(fun he=>by have:=(ae.row he).2;have:=y.size;have:=N.size;have:=O.size;have:=P.size;have:=Q.size;have:=J.size;have:=K.size;omega))).le F).ch aH (fun q hq=>by cases hq;exact(fun he=>by have:=(ae.row he).1;have:=ap.lt;omega)))
   refine E.again (k+1,cg,ci) (.cons rfl (.cons rfl (.cons rfl (.cons rfl (.cons rfl (.cons rfl (.cons rfl (.cons rfl (.cons rfl (.cons rfl (.nil _))))))))))) ?_ ?_
   ·exact⟨by omega,by assumption,((((cw.trans ak).tb aq cw dS).trans F).tb aH a3 bj),by have:=ce;have:=u.size;have:=y.size;have:=N.size;have:=O.size;have:=P.size;have:=Q.size;have:=J.size;have:=K.size;have:=ak.size;have:=aq.size;have:=F.size;have:=aH.size;omega,dZ,d0,d1,(d2.mono (by omega)),bu⟩
   first|omega|(simp only[];omega)
  refine GT.last (G.ef rfl rfl rfl rfl rfl (Ef.allocA z107 fun cz cA d3 (d4:Blk cA cz 107 (condV noCnd).toArray) al=>⟨fun _=>al,?_⟩))
  refine G.ef rfl rfl rfl rfl rfl (Ef.call go55 rfl rfl ((by have k:=hnext_ok ((hopsL e.1 C.1 C.2.1 pts bl a x).getD k noHop) (cndW C.1 C.2.1 pts k) (e.1.getD (k+1) noEdge).pol ht (⟨0,0,((np:Nat):Int)⟩:Bnd) (right_l64 (hWk.rt k (by omega))) (by rw[hWk.at_ (by omega)];exact right_l64 (hWk.rt (k+1) (by omega))) (polI_ok (edgeOk_T (wayG_at hbc.way (i:=k+1) (by omega)).1).2.2.2.2.2) cA;rw[hWk.next (by omega) hne hwd hxn]at k;exact k)) ?_)
  rintro _ eL ⟨rfl,af⟩
  refine⟨_,rfl,?_⟩
  refine⟨fun _=>af,?_⟩
  refine G.run 1 rfl (G.a rfl (.extract (v:= .agg (condV (cndW C.1 C.2.1 pts (k+1))).toArray) rfl rfl) ?_)
  refine G.run 1 rfl (G.ef0 rfl rfl rfl rfl (Ef.storeAll sz107 (by rfl) rfl rfl (d4.le af) (by simp only[List.size_toArray,condV_row.len]) (condV_row.one (cndW C.1 C.2.1 pts (k+1))) ?_))
  intro d5 bv ar
  refine noT (by kernel_rfl) ?_
  have bv:Blk d5 cz 107 (condV (cndW C.1 C.2.1 pts (k+1))).toArray:=bv
  refine G.run 1 rfl (G.nil (E.thenN (WC.seq (WC.seq (WC.draw [0,1,2,3,4,5,6,7,8,9,10,11,12] mixed (by kernel_rfl) fun dW F=>(G.run 1 rfl (G.a rfl (.dec (.neq rfl rfl) (show _=false from by first|decide|rfl)) ?_)))))))
  refine G.run 1 rfl (G.ag rfl (.field0 fa109_0 rfl) ?_)
  refine G.rg rfl (.loadB (v:= .int .i64 (((hopsL e.1 C.1 C.2.1 pts bl a x).getD k noHop).1)) na3 rfl (((aQ.le (al.trans af)).cn ar (by have:=aQ.lt;omega)).le F) rfl) ?_
  refine G.run 2 rfl (G.ag rfl (.add rfl rfl (by omega)) ?_)
  refine G.ag rfl (.idxS ((k+1)) underlying32 sz81 rfl rfl (L.vec.isSome edgeV_row (by omega)) (by omega) (by omega)) ?_
  refine G.ag rfl (.vfield fa81_1 (L.vec.isSome edgeV_row (by omega)) rfl) ?_
  have cB:=(((aS.le (al.trans af)).ch ar (fun q hq=>by cases hq;exact(fun he=>by have:=(aS.row he).2;omega))).le F)
  refine G.rg rfl (.vcell (j:=(k+1)) (o:=1) (v:= .int .i64 ((e.1.getD (k+1) noEdge).t)) na3 rfl cB.vec edgeV_row (getS e.1 noEdge (by first|omega|(simp only[List.length_cons,List.length_nil];omega))) rfl) ?_
  refine G.ag rfl (.dec (.neq rfl rfl) (dF (fun h=>h (by rw[hWk.at_ (by omega)];rfl)))) ?_
  refine G.run 1 rfl (G.nil (E.thenN (WC.condF rfl (WC.sn (WC.region (W.r (.loadAll ag107 (by rfl) rfl (bv.le F)) ?_))))))
  have d6:=(((aR.le (al.trans af)).cn ar (by have:=aR.lt;omega)).le F)
  refine W.ef0 rfl rfl (Ef.storeAll sz107 (by rfl) rfl rfl d6 (by simp only[List.size_toArray,condV_row.len]) (condV_row.one (cndW C.1 C.2.1 pts (k+1))) ?_)
  intro d7 bw aI
  have bw:Blk d7 aF 107 (condV (cndW C.1 C.2.1 pts (k+1))).toArray:=bw
  refine W.nil (E.blkN (E.thenN (WC.region (W.run 1 rfl (W.a (.add rfl rfl (by omega)) ?_)))))
  refine W.run 1 rfl (W.nil ?_)
  have d8:=(cB.ch aI (fun q hq=>by cases hq;exact(fun he=>by have:=(aL.row he).2;have:=m.size;omega)))
  have d9:=((((aT.le (al.trans af)).cn ar (by have:=aT.lt;omega)).le F).cn aI (by have:=aM.lt;have:=m.size;omega))
  have ea:=((((aP.le (J.trans (al.trans af))).ch ar (fun q hq=>by cases hq;exact(fun he=>by have:=(aP.row he).2;have:=J.size;omega))).le F).ch aI (fun q hq=>by cases hq;exact(fun he=>by have:=(aO.row he).2;have:=m.size;omega)))
  have eb:=(((((((ae.le (y.trans N)).ch O (fun q hq=>by cases hq;exact(fun he=>by have:=(ae.row he).2;omega))).ch P (fun q hq=>by cases hq;exact(fun he=>by have:=(ae.row he).2;have:=y.size;omega))).le (Q.trans (J.trans (al.trans af)))).ch ar (fun q hq=>by cases hq;exact(fun he=>by have:=(ae.row he).2;have:=y.size;have:=N.size;have:=O.size;have:=P.size;have:=Q.size;have:=J.size;omega))).le F).ch aI (fun q hq=>by cases hq;exact(fun he=>by have:=(ae.row he).1;have:=ap.lt;omega)))
  refine E.again (k+1,cg,ci) (.cons rfl (.cons rfl (.cons rfl (.cons rfl (.cons rfl (.cons rfl (.cons rfl (.cons rfl (.cons rfl (.cons rfl (.nil _))))))))))) ?_ ?_
  ·exact⟨by omega,by assumption,(((((bs.trans al).trans af).tb ar bs d3).trans F).tb aI a3 bj),by have:=ce;have:=u.size;have:=y.size;have:=N.size;have:=O.size;have:=P.size;have:=Q.size;have:=J.size;have:=al.size;have:=af.size;have:=ar.size;have:=F.size;have:=aI.size;omega,d8,d9,ea,(eb.mono (by omega)),bw⟩
  first|omega|(simp only[];omega)
 refine W.a (.dec (.move rfl) (congrArg not ((Bool.eq_false_iff.2 bA)))) ?_
 refine W.run 11 rfl (W.nx (WC.condT rfl (WC.sr (W.run 3 rfl (W.g (Any.rd (.dec (.notNilP (by kernel_rfl) rfl) rfl) _) ?_)))))
 refine W.run 2 rfl (W.nx (WC.ret (E.thenR (E.retG1 rfl rfl ?_))))
 exact⟨rfl,L4⟩

theorem RoutePeels_ok (fr to a x:Int)(s:Nat){seed:List Byte}(hse:seed.length=32)(ht:Int)(np:Nat)(hnp:np<256){A A2:Option Addr}{n c n2 c2:Nat}{g:List Gsp.Edge}{l:List Kn}(w:World)(hT:Tab w)(hV:Vec w edgeV 9 A n g)(hL:Vec w knV 3 A2 n2 l)(hgl:∀q∈l,I64n q.d)(hnc:n<=c)(hn:n<=9223372036854775807)(hn2:n2<=9223372036854775807):Calls prog 9 #[.slice A n c,.slice A2 n2 c2,.int .i64 fr,.int .i64 to,.int .i64 a,.int .i64 x,.int .u64 ((s:Nat):Int),.agg (seed.map u8v).toArray,.int .i64 ht,.int .u8 ((np:Nat):Int)] w fun r w'=>r= .returned (.bool true)/\Le w w':=by
  by_cases hB:(bestR g (mindG g l) fr to a x).2.2=0
  · exact RoutePeels_T fr to a x s hse ht np hnp w hT hV hL hgl hnc hn hn2 hB
  · exact RoutePeels_F fr to a x s hse ht np hnp w hT hV hL hgl hnc hn hn2 hB
end Go.Proofs.YtocheaahlpiajaaGreatDoor

