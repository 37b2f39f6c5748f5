/- SplitFits: for every input the law answers true and leaves its arguments as they were. -/
import Derived.Test.YtocheaahlpiajaaGreatDoorSplitFitsP
import Derived.Shelf.Strconv.Itoa3
import Derived.Lib.ItoaLen
import Derived.Lib.AppendIntMem
set_option linter.unusedVariables false
set_option linter.unusedSimpArgs false
set_option maxRecDepth 20000
namespace Go.Proofs
open Go.Shelf
def Tryz.laysM171_ren:Go.Shelf.Ren:=⟨fun|171=>241|243=>294|246=>329|283=>350|284=>351|285=>352|286=>353|129=>326|317=>360|318=>361|319=>362|320=>363|337=>365|338=>366|n=>n,fun|3=>3|9=>9|2=>2|4=>4|171=>398|0=>0|53=>27|37=>26|5=>5|173=>400|212=>410|51=>273|20=>20|213=>411|46=>287|232=>29|233=>413|n=>n,fun|17=>2|18=>4|19=>5|n=>n⟩
theorem Tryz.laysM171:Go.Proofs.LaysM.n171 prog Tryz.laysM171_ren:={
  mixed:=by kernel_rfl
  f129:=func326.trans (congrArg some (by kernel_rfl))
  f171:=func241.trans (congrArg some (by kernel_rfl))
  f243:=func294.trans (congrArg some (by kernel_rfl))
  f246:=func329.trans (congrArg some (by kernel_rfl))
  f283:=func350.trans (congrArg some (by kernel_rfl))
  f284:=func351.trans (congrArg some (by kernel_rfl))
  f285:=func352.trans (congrArg some (by kernel_rfl))
  f286:=func353.trans (congrArg some (by kernel_rfl))
  f317:=func360.trans (congrArg some (by kernel_rfl))
  f318:=func361.trans (congrArg some (by kernel_rfl))
  f319:=func362.trans (congrArg some (by kernel_rfl))
  f320:=func363.trans (congrArg some (by kernel_rfl))
  f337:=func365.trans (congrArg some (by kernel_rfl))
  f338:=func366.trans (congrArg some (by kernel_rfl))
  t0:=underlying0
  a0:=Tryz.isAgg0
  z0:=Tryz.sizeOf0
  v0:=Tryz.zeroValue0
  t2:=underlying2
  a2:=Tryz.isAgg2
  z2:=Tryz.sizeOf2
  v2:=Tryz.zeroValue2
  t3:=underlying3
  a3:=Tryz.isAgg3
  z3:=Tryz.sizeOf3
  v3:=Tryz.zeroValue3
  t4:=underlying4
  a4:=Tryz.isAgg4
  z4:=Tryz.sizeOf4
  v4:=Tryz.zeroValue4
  t5:=underlying5
  a5:=Tryz.isAgg5
  z5:=Tryz.sizeOf5
  v5:=Tryz.zeroValue5
  t9:=underlying9
  a9:=Tryz.isAgg9
  z9:=Tryz.sizeOf9
  v9:=Tryz.zeroValue9
  t20:=underlying20
  a20:=Tryz.isAgg20
  z20:=Tryz.sizeOf20
  v20:=Tryz.zeroValue20
  t37:=underlying26
  a37:=Tryz.isAgg26
  z37:=Tryz.sizeOf26
  v37:=Tryz.zeroValue26
  t46:=underlying287
  a46:=Tryz.isAgg287
  z46:=Tryz.sizeOf287
  v46:=Tryz.zeroValue287
  t51:=underlying273
  a51:=Tryz.isAgg273
  z51:=Tryz.sizeOf273
  v51:=Tryz.zeroValue273
  t53:=underlying27
  a53:=Tryz.isAgg27
  z53:=Tryz.sizeOf27
  v53:=Tryz.zeroValue27
  t171:=underlying398
  a171:=Tryz.isAgg398
  z171:=Tryz.sizeOf398
  v171:=Tryz.zeroValue398
  t173:=underlying400
  a173:=Tryz.isAgg400
  z173:=Tryz.sizeOf400
  v173:=Tryz.zeroValue400
  t212:=underlying410
  a212:=Tryz.isAgg410
  z212:=Tryz.sizeOf410
  v212:=Tryz.zeroValue410
  t213:=underlying411
  a213:=Tryz.isAgg411
  z213:=Tryz.sizeOf411
  t232:=underlying29
  a232:=Tryz.isAgg29
  z232:=Tryz.sizeOf29
  v232:=Tryz.zeroValue29
  t233:=underlying413
  a233:=Tryz.isAgg413
  z233:=Tryz.sizeOf413
  v233:=Tryz.zeroValue413
  g17:=by kernel_rfl
  g18:=by kernel_rfl
  g19:=by kernel_rfl
  i0:=by kernel_rfl
  i2:=by kernel_rfl
  i3:=by kernel_rfl
  i4:=by kernel_rfl
  i5:=by kernel_rfl
  i9:=by kernel_rfl
  i20:=by kernel_rfl
  i37:=by kernel_rfl
  i46:=by kernel_rfl
  i51:=by kernel_rfl
  i53:=by kernel_rfl
  i171:=by kernel_rfl
  i173:=by kernel_rfl
  i212:=by kernel_rfl
  i232:=by kernel_rfl
  i233:=by kernel_rfl
  m17:=by kernel_rfl
  m18:=by kernel_rfl
  m19:=by kernel_rfl}
end Go.Proofs
namespace Go.Proofs.YtocheaahlpiajaaGreatDoor
open Tryz
open Go Go.Sx Go.Nsp
def Tab (w:World):Prop:=Lib.TabIs prog w "internal/strconv.uint64pow10" .u64 Lib.pow10Tab
theorem Tab.le {w w':World}(h:Tab w)(hl:Le w w'):Tab w':=Lib.tabBelow_of_tabIs h w' hl
theorem itoa_len {p:Nat}(h:p<1000000000):(Lib.itoa ((p:Nat):Int)).length<=21:=Lib.itoa_length_le _ (by omega) (by omega)
theorem itoa_ok (p:Nat)(w:World)(hT:Tab w)(h0:0<=p)(h1:p<1000000000):Calls prog 241 #[.int .i64 ((p:Nat):Int)] w fun r w'=>r= .returned (.string ⟨(Lib.itoa ((p:Nat):Int)).toArray⟩)/\Le w w':=
  (Any.strconv_Itoa Tryz.laysM171 ((p:Nat):Int) (by omega) (by omega) w hT).mono (by
    rintro _ w' ⟨rfl,k,os,rfl⟩
    exact⟨rfl,Lib.below_grow _ w (Nat.le_refl _) k os⟩)
def textF (p q:Nat):List UInt8:=if q=1 then Lib.itoa ((p:Nat):Int)else Lib.itoa ((p:Nat):Int)++([47]:List UInt8)++Lib.itoa ((q:Nat):Int)
theorem digs_lots:digs 1000000000=[1000000000]:=by rw[digs_pos (by decide),show 1000000000/B=0 from rfl,digs_zero];rfl
theorem ntext_ok {A:Option Addr}{n c p:Nat}(w:World)(hT:Tab w)(hV:Vec w dv 1 A n (digs p))(hn:n<=10000)(hp1:p<1000000000):Calls prog 166 #[.slice A n c] w fun r w'=>r= .returned (.string ⟨(Lib.itoa ((p:Nat):Int)).toArray⟩)/\Le w w':=by
 have hl:=hV.1
 refine enter func166 rfl rfl ?_
 have h:=Le.refl w
 refine WC.sr (W.run 1 rfl (W.nx (WC.sr (W.run 1 rfl (W.cl go211 rfl rfl (ntaken_ok w (hV.le h) (by omega)) ?_)))))
 rintro _ m ⟨rfl,o⟩
 refine W.run 1 rfl (W.nx (WC.sr (W.run 1 rfl (W.nx (WC.block (WC.loop (ι:=Nat) (fun k=>[(0,.slice A n c),(3,.string ⟨([]:List UInt8).toArray⟩)]) (fun k d=>Le w d/\m.heap.size<=d.heap.size) (fun k=>k) 0 ?_ ?_ ?_))))))
 ·exact .cons rfl (.cons rfl (.nil _))
 ·exact⟨(h.trans o),Nat.le_refl _⟩
 rintro k d ⟨s,J⟩
 refine WC.block (WC.sr (W.run 1 rfl (W.ef rfl rfl rfl (Ef.buildSliceV (len:=1) [_] underlying59 el273 rfl (by simp[Value.cells]) rfl (by decide) (by decide) ?_))))
 intro i e t f u
 have j:=s.trans u
 have f:Blk e i 273 (([1000000000]).map dv).flatten.toArray:=f
 have x:OVec e d.heap.size 273 dv 1 (some ⟨i,0,none⟩) 1 1 ([1000000000]):=f.ovec t dv_row rfl rfl (by decide)
 have y:=x.cast (m':=1) (ys:=(digs 1000000000)) (rfl) (digs_lots.symm)
 refine W.cl go209 rfl rfl (ndivmod_ok e (hV.le j) y.vec (by omega) (by omega) (by omega)) ?_
 rintro _ z ⟨K,L,N,O,rfl,P,C,D⟩
 refine W.run 7 rfl (W.nx (WC.sr (W.run 1 rfl (W.cl go240 rfl rfl (nint_ok z C.vec (by omega)) ?_))))
 rintro _ F ⟨rfl,H⟩
 have l:=(j.trans D).trans H
 refine W.run 5 rfl (W.nx (WC.sr (W.run 1 rfl (W.cl go241 rfl rfl (itoa_ok (p%1000000000) F (hT.le l) (by omega) (by omega)) ?_))))
 rintro _ Q ⟨rfl,I⟩
 refine W.run 1 rfl (W.nx (WC.seq (WC.sr (W.run 1 rfl (W.r (.len underlying59 rfl) ?_)))))
 refine W.run 1 rfl (W.nx (WC.condY rfl (dT (by rw[Nat.div_eq_of_lt hp1,digs_zero];rfl)) ?_))
 refine WC.sr (W.run 2 rfl (W.a (.addStr (a:=Lib.itoa (((p%1000000000):Nat):Int)) (b:=([]:List UInt8)) rfl rfl (Nat.le_trans (itoa_len (by omega)) (by decide)) (by decide)) ?_))
 refine W.run 1 rfl (W.nx (WC.ret (E.thenR (E.blkR (E.thenR (E.blkR (E.retG1 rfl rfl ?_)))))))
 exact⟨congrArg (fun v=>Ending.returned (Value.string ⟨List.toArray v⟩)) (by simp[show p%1000000000=p from Nat.mod_eq_of_lt hp1]),(l.trans I)⟩

theorem ftext_ok {An Ad:Option Addr}{nn cn nd cd p q:Nat}(w:World)(hT:Tab w)(hn:Vec w dv 1 An nn (digs p))(hd:Vec w dv 1 Ad nd (digs q))(bn:nn<=10000)(bd:nd<=10000)(hok:okB p q=true)(hp1:p<1000000000)(hq1:q<1000000000):Calls prog 71 #[.agg #[.slice An nn cn,.slice Ad nd cd]] w fun r w'=>r= .returned (.string ⟨(textF p q).toArray⟩)/\Le w w':=by
 have hln:=hn.1;have hld:=hd.1
 have T:=digs_len_one (d:=1) (by decide)
 refine enter func71 rfl rfl ?_
 have n:=Le.refl w
 refine WC.sr (W.ef rfl rfl rfl (Ef.boxA rfl fun o s H (t:Blk s o 61 #[.slice An nn cn,.slice Ad nd cd]) I=>?_))
 have i:=n.trans I
 refine W.run 1 rfl (W.nx (WC.sr (W.r (.loadAll ag61 (by rfl) rfl t) ?_)))
 refine W.cl go165 rfl rfl (ftaken_yes s (hn.le i) (hd.le i) (by omega) (by omega) hok) ?_
 rintro _ U ⟨rfl,u⟩
 refine W.sA sz61 rfl rfl (t.le u) ?_
 intro J j K
 have j:Blk J o 61 #[.slice An nn cn,.slice Ad nd cd]:=j
 refine W.nx (WC.seq (WC.seq (WC.draw [0,1,2,3,4] mixed (by kernel_rfl) fun L x=>(G.a rfl (.field0 fa61_1 rfl) ?_))))
 have k:=(j.le x)
 refine G.r rfl (.loadB (v:= .slice Ad nd cd) na59 rfl k rfl) ?_
 refine G.ef rfl rfl rfl rfl rfl (Ef.call go111 rfl rfl (fone_ok L) ?_)
 rintro _ N ⟨V,X,rfl,O,c⟩
 refine⟨_,rfl,?_⟩
 refine⟨fun _=>c,?_⟩
 have y:=(((i.trans u).tb K n H).trans x).trans c
 refine G.ef rfl rfl rfl rfl rfl (Ef.call go109 rfl rfl (ncmp_ok N (hd.le y) O.vec (by omega) (by omega)) ?_)
 rintro _ P ⟨rfl,e⟩
 refine⟨_,rfl,?_⟩
 refine⟨fun _=>e,?_⟩
 have f:=y.trans e
 refine G.run 1 rfl (G.nil (E.thenN ?_))
 by_cases z:(cmpN q 1)=0
 ·refine WC.condY rfl (decide_eq_true z) (WC.sr (W.a (.field0 fa61_0 rfl) ?_))
  refine W.r (.loadB (v:= .slice An nn cn) na59 rfl (k.le (c.trans e)) rfl) ?_
  refine W.cl go166 rfl rfl (ntext_ok P (hT.le f) (hn.le f) (by omega) (by omega)) ?_
  rintro _ Y ⟨rfl,Q⟩
  refine W.run 1 rfl (W.nx (WC.ret (E.thenR (E.retG1 rfl rfl ?_))))
  exact⟨congrArg (fun v=>Ending.returned (Value.string ⟨List.toArray v⟩)) (by unfold textF;first|rw[if_pos (cmpN_eq.1 (by assumption))]|rw[if_neg (fun h=>absurd (cmpN_eq.2 h) (by assumption))]),(f.trans Q)⟩
 refine WC.condN rfl (decide_eq_false z) (WC.sn (WC.seq (WC.draw [0,1,4,5,2,3,6,7,8] mixed (by kernel_rfl) fun R A=>?_)))
 have l:=f.trans A
 refine G.a rfl (.field0 fa61_0 rfl) ?_
 have C:=(k.le (c.trans (e.trans A)))
 refine G.r rfl (.loadB (v:= .slice An nn cn) na59 rfl C rfl) ?_
 refine G.a rfl (.field0 fa61_1 rfl) ?_
 refine G.r rfl (.loadB (v:= .slice Ad nd cd) na59 rfl C rfl) ?_
 refine G.ef rfl rfl rfl rfl rfl (Ef.call go166 rfl rfl (ntext_ok R (hT.le l) (hn.le l) (by omega) (by omega)) ?_)
 rintro _ S ⟨rfl,D⟩
 refine⟨_,rfl,?_⟩
 refine⟨fun _=>D,?_⟩
 have m:=l.trans D
 refine G.a rfl (.addStr (a:=Lib.itoa ((p:Nat):Int)) (b:=([47]:List UInt8)) rfl rfl (Nat.le_trans (itoa_len (by omega)) (by decide)) (by decide)) ?_
 refine G.ef rfl rfl rfl rfl rfl (Ef.call go166 rfl rfl (ntext_ok S (hT.le m) (hd.le m) (by omega) (by omega)) ?_)
 rintro _ Z ⟨rfl,F⟩
 refine⟨_,rfl,?_⟩
 refine⟨fun _=>F,?_⟩
 refine G.a rfl (.addStr (a:=(Lib.itoa ((p:Nat):Int))++([47]:List UInt8)) (b:=Lib.itoa ((q:Nat):Int)) rfl rfl (by have:=itoa_len (p:=p) (by omega);simp only[List.length_append,List.length_cons,List.length_nil];omega) (Nat.le_trans (itoa_len (by omega)) (by decide))) ?_
 refine G.run 1 rfl (G.nil (E.thenN (WC.ret (E.retG1 rfl rfl ?_))))
 exact⟨congrArg (fun v=>Ending.returned (Value.string ⟨List.toArray v⟩)) (by unfold textF;first|rw[if_pos (cmpN_eq.1 (by assumption))]|rw[if_neg (fun h=>absurd (cmpN_eq.2 h) (by assumption))]),(m.trans F)⟩
end Go.Proofs.YtocheaahlpiajaaGreatDoor

namespace Go.Proofs.YtocheaahlpiajaaGreatDoor
open Tryz
open Go Go.Sx Go.Hsp Go.Num Go.Osp Go.Gsp Go.Nsp Go.Msp Go.Rtp
set_option maxRecDepth 20000
def sE (c f t r m:Int):Gsp.Edge:=⟨f,t,c,r,⟨0,0,5,1,m⟩⟩
def sG:List Gsp.Edge:=[sE 0 0 1 99 60,sE 1 0 1 49 49]
def sM0:MF:=fun _=>none
structure Sm1 (b : List Prt × Fr × Int) : Prop where
  len : b.1.length = 2
  amt : (b.1.getD 0 noPrt).amt = 40
  w0 : (b.1.getD 0 noPrt).way = [sE 0 0 1 99 60]
  w1 : (b.1.getD 1 noPrt).way = [sE 0 0 1 99 60]
  on : b.2.1.n = 1
  od : b.2.1.d = 5
  e : b.2.2 = 0
  t : totP b.1 = 80
  ok : b.1.length <= 8 /\ ∀ p ∈ b.1, ∀ s ∈ p.sent, 0 <= s /\ s <= 1125899906842624
theorem sp1:Sm1 (splitG sG sM0 0 1 80 50 2):=⟨by decide+kernel,by decide+kernel,by decide+kernel,by decide+kernel,by decide+kernel,by decide+kernel,by decide+kernel,by decide+kernel,by decide+kernel⟩
theorem sp2:(splitG sG sM0 0 1 80 50 1).2.2=19:=by decide+kernel
theorem sp3:(splitG sG sM0 0 1 80 50 0).2.2=1:=by decide+kernel
theorem sp4:(splitG sG sM0 0 0 80 50 2).2.2=1:=by decide+kernel
structure Sm5 (b : List Prt × Fr × Int) : Prop where
  len : b.1.length = 1
  w0 : (b.1.getD 0 noPrt).way = [sE 0 0 1 99 60]
  on : b.2.1.n = 7
  od : b.2.1.d = 10
  e : b.2.2 = 0
theorem sp5:Sm5 (tryG sG sM0 0 1 30 50 1):=⟨by decide+kernel,by decide+kernel,by decide+kernel,by decide+kernel,by decide+kernel⟩
theorem stx3:textF 1 5=[49,47,53]:=by simp[textF,Lib.itoa,Lib.decDigits]
theorem stx4:textF 7 10=[55,47,49,48]:=by simp[textF,Lib.itoa,Lib.decDigits]
theorem plansL_nil (s:Nat)(seed:List Byte):plansL s seed []=[]:=by
  unfold plansL
  split<;>rfl
set_option maxHeartbeats 4000000 in
theorem small39_ok (w:World) (hT:Tab w):Calls prog 13 #[] w fun r w'=>r= .returned (.bool true)/\Le w w':=by
 have cE:=digs_len_one (d:=1) (by decide);have cF:=digs_len_one (d:=5) (by decide);have cG:=digs_len_one (d:=7) (by decide);have cH:=digs_len_one (d:=10) (by decide)
 refine enter func13 rfl rfl (WC.sr (W.run 1 rfl (W.nx (WC.sr (W.cl go43 rfl rfl (edge39_ok 0 0 1 99 60 w) ?_)))))
 rintro _ bo ⟨rfl,bp⟩
 refine W.cl go43 rfl rfl (edge39_ok 1 0 1 49 49 bo) ?_
 rintro _ bq ⟨rfl,bs⟩
 refine W.ef rfl rfl rfl (Ef.buildSliceV (len:=2) [_,_] underlying32 el81 rfl (by simp[Value.cells,edgeV_row.len]) rfl (by decide) (by decide) ?_)
 intro aC ak bt al bu
 have al:Blk ak aC 81 (([(sE 0 0 1 99 60),(sE 1 0 1 49 49)]).map edgeV).flatten.toArray:=al
 have aE:OVec ak bq.heap.size 81 edgeV 9 (some ⟨aC,0,none⟩) 2 2 ([(sE 0 0 1 99 60),(sE 1 0 1 49 49)]):=al.ovec bt edgeV_row rfl rfl (by decide)
 have o4:=aE.cast (m':=2) (ys:=sG) (rfl) (rfl)
 refine W.run 1 rfl (W.nx (WC.sr (W.cl go64 rfl rfl (new_mind ak) ?_)))
 rintro _ bv ⟨cI,cJ,rfl,am,aF⟩
 refine W.run 1 rfl (W.nx (WC.seq (WC.sr (W.run 1 rfl (W.a (.dec (.isNilP (by kernel_rfl) rfl) rfl) ?_)))))
 refine W.nx (WC.condF rfl (WC.sn (WC.sr (W.run 2 rfl ?_))))
 have f6:=(o4.le aF)
 obtain⟨C,ae⟩:∃z,z=(splitG sG (fun _=>none:MF) 0 1 80 50 2):=⟨_,rfl⟩
 have aG:=splitG_len (g:=sG) (m:=(fun _=>none:MF)) (fr:=0) (to:=1) (a:=80) (x:=50) (n:=2) (show GoodM (fun _=>none)from none_good)
 rw[<-ae]at aG;unfold LenF at aG
 refine W.cl go30 rfl rfl ((by have k:=spbest_ok (c:=2) 0 1 80 50 2 bv am f6.vec (by omega) (by decide);rw[<-ae]at k;exact k)) ?_
 rintro _ cK ⟨bw,aH,y,aI,aJ,aK,aL,rfl,D,aM,V,X,cL,ad⟩
 have L7:=(((((Le.refl w).trans bp).trans bs).trans bu).trans aF).trans ad
 have cM:=aM.1
 have F:Sm1 C:=ae▸sp1
 have F:Sm1 C:=ae▸sp1
 refine W.run 1 rfl (W.a (.extract (v:= .slice bw C.1.length aH) rfl rfl) ?_)
 refine W.a (.extract (v:= .agg #[.slice aI ((digs C.2.1.n).length) aJ,.slice aK ((digs C.2.1.d).length) aL]) rfl rfl) ?_
 refine W.a (.extract (v:= .int .i64 (C.2.2)) rfl rfl) ?_
 refine W.ef rfl rfl rfl (Ef.allocA z61 fun aO bx aP (aQ:Blk bx aO 61 #[.slice none 0 0,.slice none 0 0]) s=>(W.run 1 rfl (W.sA sz61 rfl rfl aQ ?_)))
 intro aR U u
 have U:Blk aR aO 61 #[.slice aI ((digs C.2.1.n).length) aJ,.slice aK ((digs C.2.1.d).length) aL]:=U
 refine W.run 1 rfl (W.nx (WC.sr (W.run 2 rfl ?_)))
 have an:=((am.le (ad.trans s)).ch u (fun q hqq hF=>by cases hqq;have:=am.lt hF;have:=ad.size;have:=aP;omega))
 have ao:=((f6.le (ad.trans s)).ch u (fun q hq=>by cases hq;exact(fun he=>by have:=(f6.row he).2;have:=ad.size;omega)))
 obtain⟨Y,af⟩:∃z,z=(splitG sG (fun _=>none:MF) 0 1 80 50 1):=⟨_,rfl⟩
 have aS:=splitG_len (g:=sG) (m:=(fun _=>none:MF)) (fr:=0) (to:=1) (a:=80) (x:=50) (n:=1) (show GoodM (fun _=>none)from none_good)
 rw[<-af]at aS;unfold LenF at aS
 refine W.cl go30 rfl rfl ((by have k:=spbest_ok (c:=2) 0 1 80 50 1 aR an ao.vec (by omega) (by decide);rw[<-af]at k;exact k)) ?_
 rintro _ cN ⟨bz,bA,cO,bB,bC,bD,bE,rfl,cP,bF,cQ,cR,cS,f⟩
 have aT:=((L7.trans s).tb u L7 aP).trans f
 have cT:=bF.1
 have aU:Y.2.2=19:=af▸sp2
 have aU:Y.2.2=19:=af▸sp2
 refine W.run 1 rfl (W.a (.extract (v:= .slice bz Y.1.length bA) rfl rfl) ?_)
 refine W.a (.extract (v:= .agg #[.slice bB ((digs Y.2.1.n).length) bC,.slice bD ((digs Y.2.1.d).length) bE]) rfl rfl) ?_
 refine W.a (.extract (v:= .int .i64 (Y.2.2)) rfl rfl) ?_
 refine W.ef rfl rfl rfl (Ef.allocA z61 fun bG bH aV (aW:Blk bH bG 61 #[.slice none 0 0,.slice none 0 0]) i=>(W.run 1 rfl (W.sA sz61 rfl rfl aW ?_)))
 intro bI cU l
 refine W.run 1 rfl (W.nx (WC.sr (W.run 2 rfl ?_)))
 have ap:=((an.le (f.trans i)).ch l (fun q hqq hF=>by cases hqq;have:=an.lt hF;have:=f.size;have:=aV;omega))
 have aq:=((ao.le (f.trans i)).ch l (fun q hq=>by cases hq;exact(fun he=>by have:=(ao.row he).2;have:=f.size;omega)))
 obtain⟨Z,ah⟩:∃z,z=(splitG sG (fun _=>none:MF) 0 1 80 50 0):=⟨_,rfl⟩
 have aX:=splitG_len (g:=sG) (m:=(fun _=>none:MF)) (fr:=0) (to:=1) (a:=80) (x:=50) (n:=0) (show GoodM (fun _=>none)from none_good)
 rw[<-ah]at aX;unfold LenF at aX
 refine W.cl go30 rfl rfl ((by have k:=spbest_ok (c:=2) 0 1 80 50 0 bI ap aq.vec (by omega) (by decide);rw[<-ah]at k;exact k)) ?_
 rintro _ cV ⟨bJ,bK,cW,bL,bM,bN,bO,rfl,cX,bP,cY,cZ,c0,h⟩
 have aY:=((aT.trans i).tb l aT aV).trans h
 have c1:=bP.1
 have aZ:Z.2.2=1:=ah▸sp3
 have aZ:Z.2.2=1:=ah▸sp3
 refine W.run 1 rfl (W.a (.extract (v:= .slice bJ Z.1.length bK) rfl rfl) ?_)
 refine W.a (.extract (v:= .agg #[.slice bL ((digs Z.2.1.n).length) bM,.slice bN ((digs Z.2.1.d).length) bO]) rfl rfl) ?_
 refine W.a (.extract (v:= .int .i64 (Z.2.2)) rfl rfl) ?_
 refine W.ef rfl rfl rfl (Ef.allocA z61 fun bQ bR a0 (a1:Blk bR bQ 61 #[.slice none 0 0,.slice none 0 0]) H=>(W.run 1 rfl (W.sA sz61 rfl rfl a1 ?_)))
 intro bS c2 I
 refine W.run 1 rfl (W.nx (WC.sr (W.run 2 rfl ?_)))
 have ar:=((ap.le (h.trans H)).ch I (fun q hqq hF=>by cases hqq;have:=ap.lt hF;have:=h.size;have:=a0;omega))
 have au:=((aq.le (h.trans H)).ch I (fun q hq=>by cases hq;exact(fun he=>by have:=(aq.row he).2;have:=h.size;omega)))
 obtain⟨b4,ai⟩:∃z,z=(splitG sG (fun _=>none:MF) 0 0 80 50 2):=⟨_,rfl⟩
 have a2:=splitG_len (g:=sG) (m:=(fun _=>none:MF)) (fr:=0) (to:=0) (a:=80) (x:=50) (n:=2) (show GoodM (fun _=>none)from none_good)
 rw[<-ai]at a2;unfold LenF at a2
 refine W.cl go30 rfl rfl ((by have k:=spbest_ok (c:=2) 0 0 80 50 2 bS ar au.vec (by omega) (by decide);rw[<-ai]at k;exact k)) ?_
 rintro _ c3 ⟨bT,bU,c4,bV,bW,bX,bY,rfl,c5,bZ,c6,c7,c8,A⟩
 have a3:=((aY.trans H).tb I aY a0).trans A
 have c9:=bZ.1
 have a4:b4.2.2=1:=ai▸sp4
 have a4:b4.2.2=1:=ai▸sp4
 refine W.run 1 rfl (W.a (.extract (v:= .slice bT b4.1.length bU) rfl rfl) ?_)
 refine W.a (.extract (v:= .agg #[.slice bV ((digs b4.2.1.n).length) bW,.slice bX ((digs b4.2.1.d).length) bY]) rfl rfl) ?_
 refine W.a (.extract (v:= .int .i64 (b4.2.2)) rfl rfl) ?_
 refine W.ef rfl rfl rfl (Ef.allocA z61 fun b0 b6 a5 (a6:Blk b6 b0 61 #[.slice none 0 0,.slice none 0 0]) L=>(W.run 1 rfl (W.sA sz61 rfl rfl a6 ?_)))
 intro b7 da N
 refine W.run 1 rfl (W.nx (WC.sr (W.run 2 rfl ?_)))
 have av:=((ar.le (A.trans L)).ch N (fun q hqq hF=>by cases hqq;have:=ar.lt hF;have:=A.size;have:=a5;omega))
 have aw:=((au.le (A.trans L)).ch N (fun q hq=>by cases hq;exact(fun he=>by have:=(au.row he).2;have:=A.size;omega)))
 obtain⟨K,aj⟩:∃z,z=(tryG sG (fun _=>none:MF) 0 1 30 50 1):=⟨_,rfl⟩
 have a7:=tryG_len (g:=sG) (m:=(fun _=>none:MF)) (fr:=0) (to:=1) (a:=30) (x:=50) (n:=1) (show GoodM (fun _=>none)from none_good)
 rw[<-aj]at a7;unfold LenF at a7
 refine W.cl go28 rfl rfl ((by have k:=sptry_ok (c:=2) 0 1 30 50 1 b7 av aw.vec (by omega) (by decide);rw[<-aj]at k;exact k)) ?_
 rintro _ db ⟨b8,b9,S,a8,a9,ba,bb,rfl,aa,bc,bd,be,dc,J⟩
 have bf:=((a3.trans L).tb N a3 a5).trans J
 have dd:=bc.1
 have Q:Sm5 K:=aj▸sp5
 have Q:Sm5 K:=aj▸sp5
 refine W.run 1 rfl (W.a (.extract (v:= .slice b8 K.1.length b9) rfl rfl) ?_)
 refine W.a (.extract (v:= .agg #[.slice a8 ((digs K.2.1.n).length) a9,.slice ba ((digs K.2.1.d).length) bb]) rfl rfl) ?_
 refine W.a (.extract (v:= .int .i64 (K.2.2)) rfl rfl) ?_
 refine W.ef rfl rfl rfl (Ef.allocA z61 fun bg ca bh (ax:Blk ca bg 61 #[.slice none 0 0,.slice none 0 0]) O=>(W.run 1 rfl (W.sA sz61 rfl rfl ax ?_)))
 intro bi ay P
 have ay:Blk bi bg 61 #[.slice a8 ((digs K.2.1.n).length) a9,.slice ba ((digs K.2.1.d).length) bb]:=ay
 have bj:=(bf.trans O).tb P bf bh
 refine W.run 1 rfl (W.nx (WC.seq (WC.sr ?_)))
 have l1:=F.len;have l5:=Q.len
 have az:=((((((((((aM.le s).chB u aQ (by decide) (by decide)).le (f.trans i)).chB l aW (by decide) (by decide)).le (h.trans H)).chB I a1 (by decide) (by decide)).le (A.trans L)).chB N a6 (by decide) (by decide)).le (J.trans O)).chB P ax (by decide) (by decide))
 have pa:=az.2 0 (by omega)
 have paa:=pa.amt;have paw:=pa.way.1;have pas:=pa.sent.1;have pat:=pa.till.1
 have pb:=az.2 1 (by omega)
 have pba:=pb.amt;have pbw:=pb.way.1;have pbs:=pb.sent.1;have pbt:=pb.till.1
 have cb:=((bc.le O).chB P ax (by decide) (by decide))
 have pc:=cb.2 0 (by omega)
 have pca:=pc.amt;have pcw:=pc.way.1;have pcs:=pc.sent.1;have pct:=pc.till.1
 have de:(C.1.getD 0 noPrt).way.length=1:=by rw[F.w0];rfl
 have dg:(C.1.getD 1 noPrt).way.length=1:=by rw[F.w1];rfl
 have dh:(K.1.getD 0 noPrt).way.length=1:=by rw[Q.w0];rfl
 refine W.run 1 rfl (W.r (.len underlying31 rfl) ?_)
 refine W.a (.dec (.neq rfl rfl) (dF (by omega))) ?_
 refine W.run 2 rfl (W.g (Any.rd (.idxS (0) underlying31 sz34 rfl rfl (D.vec.isSome prV_row (by omega)) (rfl) (by omega)) _) ?_)
 refine W.g (Any.rd (.vfield fa34_1 (D.vec.isSome prV_row (by omega)) rfl) _) ?_
 have ab:=((((((((((D.le s).ch u (fun q hq=>by cases hq;exact(fun he=>by have:=(D.row he).2;omega))).le (f.trans i)).ch l (fun q hq=>by cases hq;exact(fun he=>by have:=(D.row he).2;have:=s.size;have:=u.size;have:=f.size;omega))).le (h.trans H)).ch I (fun q hq=>by cases hq;exact(fun he=>by have:=(D.row he).2;have:=s.size;have:=u.size;have:=f.size;have:=i.size;have:=l.size;have:=h.size;omega))).le (A.trans L)).ch N (fun q hq=>by cases hq;exact(fun he=>by have:=(D.row he).2;have:=s.size;have:=u.size;have:=f.size;have:=i.size;have:=l.size;have:=h.size;have:=H.size;have:=I.size;have:=A.size;omega))).le (J.trans O)).ch P (fun q hq=>by cases hq;exact(fun he=>by have:=(D.row he).2;have:=s.size;have:=u.size;have:=f.size;have:=i.size;have:=l.size;have:=h.size;have:=H.size;have:=I.size;have:=A.size;have:=L.size;have:=N.size;have:=J.size;omega)))
 refine W.g (.vcell (j:=0) (o:=1) (v:= .slice ((y.getD 0 noPaR).wA) ((y.getD 0 noPaR).wN) ((y.getD 0 noPaR).wC)) na32 rfl ab.vec prV_row (getS y noPaR (by omega)) rfl) ?_
 refine W.g (.len underlying32 rfl) ?_
 refine W.g (Any.rd (.dec (.neq rfl rfl) (dF (by omega))) _) ?_
 refine W.run 3 rfl (W.g (Any.rd (.idxS (1) underlying31 sz34 rfl rfl (D.vec.isSome prV_row (by omega)) (rfl) (by omega)) _) ?_)
 refine W.g (Any.rd (.vfield fa34_1 (D.vec.isSome prV_row (by omega)) rfl) _) ?_
 refine W.g (.vcell (j:=1) (o:=1) (v:= .slice ((y.getD 1 noPaR).wA) ((y.getD 1 noPaR).wN) ((y.getD 1 noPaR).wC)) na32 rfl ab.vec prV_row (getS y noPaR (by omega)) rfl) ?_
 refine W.g (.len underlying32 rfl) ?_
 refine W.g (Any.rd (.dec (.neq rfl rfl) (dF (by omega))) _) ?_
 refine W.run 3 rfl (W.g (.len underlying31 rfl) ?_)
 refine W.g (Any.rd (.dec (.neq rfl rfl) (dF (by omega))) _) ?_
 refine W.run 3 rfl (W.g (Any.rd (.idxS (0) underlying31 sz34 rfl rfl (aa.vec.isSome prV_row (by omega)) (rfl) (by omega)) _) ?_)
 refine W.g (Any.rd (.vfield fa34_1 (aa.vec.isSome prV_row (by omega)) rfl) _) ?_
 have bk:=((aa.le O).ch P (fun q hq=>by cases hq;exact(fun he=>by have:=(aa.row he).2;omega)))
 refine W.g (.vcell (j:=0) (o:=1) (v:= .slice ((S.getD 0 noPaR).wA) ((S.getD 0 noPaR).wN) ((S.getD 0 noPaR).wC)) na32 rfl bk.vec prV_row (getS S noPaR (by omega)) rfl) ?_
 refine W.g (.len underlying32 rfl) ?_
 refine W.g (Any.rd (.dec (.neq rfl rfl) (dF (by omega))) _) ?_
 refine W.run 1 rfl (W.nx (WC.condF rfl (WC.sn (WC.sr (W.run 1 rfl (W.a (.idxS (0) underlying31 sz34 rfl rfl (D.vec.isSome prV_row (by omega)) (rfl) (by omega)) ?_))))))
 refine W.a (.vfield fa34_0 (D.vec.isSome prV_row (by omega)) rfl) ?_
 refine W.r (.vcell (j:=0) (o:=0) (v:= .int .i64 ((y.getD 0 noPaR).amt)) na3 rfl ab.vec prV_row (getS y noPaR (by omega)) rfl) ?_
 refine W.a (.dec (.eql rfl rfl) (dT (by rw[paa];exact F.amt))) ?_
 refine W.run 2 rfl (W.g (Any.rd (.idxS (0) underlying31 sz34 rfl rfl (D.vec.isSome prV_row (by omega)) (rfl) (by omega)) _) ?_)
 refine W.g (Any.rd (.vfield fa34_1 (D.vec.isSome prV_row (by omega)) rfl) _) ?_
 refine W.g (.vcell (j:=0) (o:=1) (v:= .slice ((y.getD 0 noPaR).wA) ((y.getD 0 noPaR).wN) ((y.getD 0 noPaR).wC)) na32 rfl ab.vec prV_row (getS y noPaR (by omega)) rfl) ?_
 refine W.g (Any.rd (.idxS (0) underlying32 sz81 rfl rfl (pa.way.vec.isSome edgeV_row (by omega)) (rfl) (by omega)) _) ?_
 refine W.g (Any.rd (.vfield fa81_2 (pa.way.vec.isSome edgeV_row (by omega)) rfl) _) ?_
 refine W.g (.vcell (j:=0) (o:=2) (v:= .int .i64 ((((C.1.getD 0 noPrt).way).getD 0 noEdge).c)) na3 rfl pa.way.vec edgeV_row (getS ((C.1.getD 0 noPrt).way) noEdge (by first|omega|(simp only[List.length_cons,List.length_nil];omega))) rfl) ?_
 refine W.g (Any.rd (.dec (.eql rfl rfl) (dT (by rw[F.w0];rfl))) _) ?_
 refine W.run 3 rfl (W.g (Any.rd (.idxS (1) underlying31 sz34 rfl rfl (D.vec.isSome prV_row (by omega)) (rfl) (by omega)) _) ?_)
 refine W.g (Any.rd (.vfield fa34_1 (D.vec.isSome prV_row (by omega)) rfl) _) ?_
 refine W.g (.vcell (j:=1) (o:=1) (v:= .slice ((y.getD 1 noPaR).wA) ((y.getD 1 noPaR).wN) ((y.getD 1 noPaR).wC)) na32 rfl ab.vec prV_row (getS y noPaR (by omega)) rfl) ?_
 refine W.g (Any.rd (.idxS (0) underlying32 sz81 rfl rfl (pb.way.vec.isSome edgeV_row (by omega)) (rfl) (by omega)) _) ?_
 refine W.g (Any.rd (.vfield fa81_2 (pb.way.vec.isSome edgeV_row (by omega)) rfl) _) ?_
 refine W.g (.vcell (j:=0) (o:=2) (v:= .int .i64 ((((C.1.getD 1 noPrt).way).getD 0 noEdge).c)) na3 rfl pb.way.vec edgeV_row (getS ((C.1.getD 1 noPrt).way) noEdge (by first|omega|(simp only[List.length_cons,List.length_nil];omega))) rfl) ?_
 refine W.g (Any.rd (.dec (.eql rfl rfl) (dT (by rw[F.w1];rfl))) _) ?_
 refine W.run 2 rfl ?_
 have cc:=((((((((U.le (f.trans i)).cn l (by have:=U.lt;have:=f.size;omega)).le (h.trans H)).cn I (by have:=U.lt;have:=f.size;have:=i.size;have:=l.size;have:=h.size;omega)).le (A.trans L)).cn N (by have:=U.lt;have:=f.size;have:=i.size;have:=l.size;have:=h.size;have:=H.size;have:=I.size;have:=A.size;omega)).le (J.trans O)).cn P (by have:=U.lt;have:=f.size;have:=i.size;have:=l.size;have:=h.size;have:=H.size;have:=I.size;have:=A.size;have:=L.size;have:=N.size;have:=J.size;omega))
 refine W.g (.loadAll ag61 (by rfl) rfl cc) ?_
 have cd:=((((((((((V.le s).ch u (fun q hq=>by cases hq;exact(fun he=>by have:=(V.row he).2;omega))).le (f.trans i)).ch l (fun q hq=>by cases hq;exact(fun he=>by have:=(V.row he).2;have:=s.size;have:=u.size;have:=f.size;omega))).le (h.trans H)).ch I (fun q hq=>by cases hq;exact(fun he=>by have:=(V.row he).2;have:=s.size;have:=u.size;have:=f.size;have:=i.size;have:=l.size;have:=h.size;omega))).le (A.trans L)).ch N (fun q hq=>by cases hq;exact(fun he=>by have:=(V.row he).2;have:=s.size;have:=u.size;have:=f.size;have:=i.size;have:=l.size;have:=h.size;have:=H.size;have:=I.size;have:=A.size;omega))).le (J.trans O)).ch P (fun q hq=>by cases hq;exact(fun he=>by have:=(V.row he).2;have:=s.size;have:=u.size;have:=f.size;have:=i.size;have:=l.size;have:=h.size;have:=H.size;have:=I.size;have:=A.size;have:=L.size;have:=N.size;have:=J.size;omega)))
 have ce:=((((((((((X.le s).ch u (fun q hq=>by cases hq;exact(fun he=>by have:=(X.row he).2;omega))).le (f.trans i)).ch l (fun q hq=>by cases hq;exact(fun he=>by have:=(X.row he).2;have:=s.size;have:=u.size;have:=f.size;omega))).le (h.trans H)).ch I (fun q hq=>by cases hq;exact(fun he=>by have:=(X.row he).2;have:=s.size;have:=u.size;have:=f.size;have:=i.size;have:=l.size;have:=h.size;omega))).le (A.trans L)).ch N (fun q hq=>by cases hq;exact(fun he=>by have:=(X.row he).2;have:=s.size;have:=u.size;have:=f.size;have:=i.size;have:=l.size;have:=h.size;have:=H.size;have:=I.size;have:=A.size;omega))).le (J.trans O)).ch P (fun q hq=>by cases hq;exact(fun he=>by have:=(X.row he).2;have:=s.size;have:=u.size;have:=f.size;have:=i.size;have:=l.size;have:=h.size;have:=H.size;have:=I.size;have:=A.size;have:=L.size;have:=N.size;have:=J.size;omega)))
 refine W.efg rfl rfl rfl (rfl) rfl rfl (Ef.call go71 rfl rfl (ftext_ok bi (hT.le bj) cd.vec ce.vec (by omega) (by omega) (by rw[F.on,F.od];decide+kernel) (by rw[F.on];decide) (by rw[F.od];decide)) ?_)
 rintro _ cf ⟨rfl,R⟩
 refine⟨_,rfl,?_⟩
 refine W.g (Any.rd (.eqlYes (a:=textF C.2.1.n C.2.1.d) (b:=([49,47,53]:List UInt8)) rfl rfl ((by rw[F.on,F.od];exact stx3))) _) ?_
 refine W.run 3 rfl (W.efg rfl rfl rfl (rfl) rfl rfl (Ef.call go42 rfl rfl (sptotal_ok (c:=aH) cf (ab.le R).vec (az.le R) (by omega) F.ok) ?_))
 rintro _ di ⟨rfl,T⟩
 refine⟨_,rfl,?_⟩
 refine W.g (Any.rd (.dec (.eql rfl rfl) (dT (F.t))) _) ?_
 refine W.run 2 rfl (W.nx (WC.sr (W.run 2 rfl (W.a (.idxS (0) underlying32 sz81 rfl rfl (aE.vec.isSome edgeV_row (by omega)) (rfl) (by omega)) ?_))))
 have cg:=(((aw.le (J.trans O)).ch P (fun q hq=>by cases hq;exact(fun he=>by have:=(aw.row he).2;have:=J.size;omega))).le (R.trans T))
 refine W.r (.vload ag81 rfl cg.vec edgeV_row (getS sG noEdge (show 0<sG.length by decide))) ?_
 have ci:=(((av.le (J.trans O)).ch P (fun q hqq hF=>by cases hqq;have:=av.lt hF;have:=J.size;have:=bh;omega)).le (R.trans T))
 refine W.cl go72 rfl rfl (bnd_mind (sG.getD 0 noEdge) ci) ?_
 rintro _ cj ⟨rfl,ac⟩
 have bl:=((bj.trans R).trans T).trans ac
 refine W.run 1 rfl (W.a (.extract (v:= .int .i64 ((bndM (fun _=>none:MF) (sG.getD 0 noEdge)).1)) rfl rfl) ?_)
 refine W.a (.extract (v:= .int .i64 ((bndM (fun _=>none:MF) (sG.getD 0 noEdge)).2)) rfl rfl) ?_
 refine W.run 2 rfl (W.nx (WC.sr (W.run 1 rfl (W.a (.dec (.eql rfl rfl) (dT (F.e))) ?_))))
 refine W.run 2 rfl (W.g (Any.rd (.dec (.eql rfl rfl) (dT (aU))) _) ?_)
 refine W.run 3 rfl (W.g (Any.rd (.dec (.eql rfl rfl) (dT (aZ))) _) ?_)
 refine W.run 3 rfl (W.g (Any.rd (.dec (.eql rfl rfl) (dT (a4))) _) ?_)
 refine W.run 3 rfl (W.g (Any.rd (.dec (.eql rfl rfl) (dT (Q.e))) _) ?_)
 refine W.run 6 rfl (W.g (Any.rd (.idxS (0) underlying31 sz34 rfl rfl (aa.vec.isSome prV_row (by omega)) (rfl) (by omega)) _) ?_)
 refine W.g (Any.rd (.vfield fa34_1 (aa.vec.isSome prV_row (by omega)) rfl) _) ?_
 refine W.g (.vcell (j:=0) (o:=1) (v:= .slice ((S.getD 0 noPaR).wA) ((S.getD 0 noPaR).wN) ((S.getD 0 noPaR).wC)) na32 rfl (bk.le (R.trans (T.trans ac))).vec prV_row (getS S noPaR (by omega)) rfl) ?_
 refine W.g (Any.rd (.idxS (0) underlying32 sz81 rfl rfl (pc.way.vec.isSome edgeV_row (by omega)) (rfl) (by omega)) _) ?_
 refine W.g (Any.rd (.vfield fa81_2 (pc.way.vec.isSome edgeV_row (by omega)) rfl) _) ?_
 refine W.g (.vcell (j:=0) (o:=2) (v:= .int .i64 ((((K.1.getD 0 noPrt).way).getD 0 noEdge).c)) na3 rfl (pc.way.le (R.trans (T.trans ac))).vec edgeV_row (getS ((K.1.getD 0 noPrt).way) noEdge (by first|omega|(simp only[List.length_cons,List.length_nil];omega))) rfl) ?_
 refine W.g (Any.rd (.dec (.eql rfl rfl) (dT (by rw[Q.w0];rfl))) _) ?_
 refine W.run 2 rfl (W.g (.loadAll ag61 (by rfl) rfl (ay.le (R.trans (T.trans ac)))) ?_)
 have ck:=(((bd.le O).ch P (fun q hq=>by cases hq;exact(fun he=>by have:=(bd.row he).2;omega))).le (R.trans (T.trans ac)))
 have cm:=(((be.le O).ch P (fun q hq=>by cases hq;exact(fun he=>by have:=(be.row he).2;omega))).le (R.trans (T.trans ac)))
 refine W.efg rfl rfl rfl (rfl) rfl rfl (Ef.call go71 rfl rfl (ftext_ok cj (hT.le bl) ck.vec cm.vec (by omega) (by omega) (by rw[Q.on,Q.od];decide+kernel) (by rw[Q.on];decide) (by rw[Q.od];decide)) ?_)
 rintro _ co ⟨rfl,cp⟩
 refine⟨_,rfl,?_⟩
 refine W.g (Any.rd (.eqlYes (a:=textF K.2.1.n K.2.1.d) (b:=([55,47,49,48]:List UInt8)) rfl rfl ((by rw[Q.on,Q.od];exact stx4))) _) ?_
 refine W.run 2 rfl (W.efg rfl rfl rfl (rfl) rfl rfl (Ef.call go14 rfl rfl (shares_ok 10 4 co (by omega)) ?_))
 rintro _ cq ⟨dj,cr,rfl,cs,dk,ct⟩
 refine⟨_,rfl,?_⟩
 refine W.efg rfl rfl rfl (rfl) rfl rfl (Ef.buildSliceV (len:=4) [_,_,_,_] underlying23 el3 rfl (by simp[Value.cells]) rfl (by decide) (by decide) ?_)
 intro bm aA cu aB bn
 have aB:Blk aA bm 3 (([3,3,2,2]).map iv).flatten.toArray:=aB
 have cv:OVec aA cq.heap.size 3 iv 1 (some ⟨bm,0,none⟩) 4 4 ([3,3,2,2]):=aB.ovec cu iv_row rfl rfl (by decide)
 refine W.efg rfl rfl rfl (rfl) rfl rfl (Ef.call go34 rfl rfl ((by have q:=ints_ok (c:=cr) (d:=4) aA (cs.le bn).vec cv.vec (by decide);rw[dT (show sharesL 10 4=[3,3,2,2] by decide)]at q;exact q)) ?_)
 rintro _ cw ⟨rfl,cx⟩
 refine⟨_,rfl,?_⟩
 refine W.run 2 rfl (W.efg rfl rfl rfl (rfl) rfl rfl (Ef.call go14 rfl rfl (shares_ok 3 4 cw (by omega)) ?_))
 rintro _ cy ⟨dl,dm,rfl,dn,dp,cz⟩
 refine⟨_,rfl,?_⟩
 refine W.g (.len underlying23 rfl) ?_
 refine W.g (Any.rd (.dec (.eql rfl rfl) (dT (by decide))) _) ?_
 refine W.run 2 rfl (W.efg rfl rfl rfl (rfl) rfl rfl (Ef.call go14 rfl rfl (shares_ok 3 0 cy (by omega)) ?_))
 rintro _ cA ⟨dq,dr,rfl,ds,du,cB⟩
 refine⟨_,rfl,?_⟩
 refine W.g (.len underlying23 rfl) ?_
 refine W.g (Any.rd (.dec (.eql rfl rfl) (dT (by decide))) _) ?_
 refine W.run 3 rfl (W.g (Any.rd (.dec (.eql rfl rfl) (dT (by decide))) _) ?_)
 refine W.run 3 rfl (W.g (Any.rd (.dec (.eql rfl rfl) (dT (by decide))) _) ?_)
 refine W.run 2 rfl (W.g (Any.rd (.buildA (cells:=((List.replicate 32 0#8).map u8v).toArray) underlying30 sz5 z30 rfl rfl) _) ?_)
 refine W.efg rfl rfl rfl (rfl) rfl rfl (Ef.call go16 rfl rfl (plans_ok (c:=0) 1 (show(List.replicate 32 0#8).length=32 from rfl) cA (Vec.nil _ _ _ _) (by omega)) ?_)
 rintro _ dw ⟨dx,dy,dz,rfl,dA,cC,cD⟩
 refine⟨_,rfl,?_⟩
 have dB:=cC.1
 refine W.g (.len underlying37 rfl) ?_
 refine W.g (Any.rd (.dec (.eql rfl rfl) (dT (by rw[show(([]:List PaR).map (·.wN))=[]from rfl,plansL_nil];rfl))) _) ?_
 refine W.run 2 rfl (W.nx (WC.ret (E.retG1 rfl rfl ?_)))
 exact⟨rfl,(((((((bl.trans cp).trans ct).trans bn).trans cx).trans cz).trans cB).trans cD)⟩
end Go.Proofs.YtocheaahlpiajaaGreatDoor

namespace Go.Sx
theorem Any.rem8 {P:Program}{env:Env}{n:Nat}{d:Option Nat}{T:TypeId}{p:String}{af:Array Edge}{g:Option (Nat×Bool)}{t ty:TypeId}{x y:Operand}{a b:Int}(hx:ev env x=some (.int .u8 a))(hy:ev env y=some (.int .u8 b))(hb:0<=a/\1<=b):
    Any P env n ⟨d,.binOp .rem t x y ty,T,p,af,g⟩ (.int .u8 (a%b)):= .int hx hy fun w=>by
  have:b≠0:=by omega
  simp[binOp,Op.intDiv,this,IntWalk.rem_in _ b hb.1]
end Go.Sx
namespace Go.Proofs.YtocheaahlpiajaaGreatDoor
open Go Go.Sx Go.Hsp Go.Num Go.Osp Go.Gsp Go.Nsp Go.Msp Go.Rtp
set_option maxRecDepth 20000
theorem sum_next {l:List Int}{k:Nat}(h:k<l.length):sumI (l.take (k+1))=sumI (l.take k)+l.getD k 0:=by
  rw[List.take_add_one,sumI_app]
  simp[List.getD,h,sumI]
theorem sum_part {l:List Int}(h:∀s∈l,0<=s):∀k:Nat,0<=sumI (l.take k)/\sumI (l.take k)<=sumI l:=by
  have hp:∀l:List Int,(∀s∈l,0<=s)->0<=sumI l:=fun l=>by
    induction l with
    |nil=>intro _;exact Int.le_refl _
    |cons y l ih=>intro h;have:=ih (fun s hs=>h s (List.mem_cons_of_mem _ hs));have:=h y (List.mem_cons_self ..);show 0<=y+sumI l;omega
  intro k
  have c:=hp (l.take k) (fun s hs=>h s (List.mem_of_mem_take hs))
  have d:=hp (l.drop k) (fun s hs=>h s (List.mem_of_mem_drop hs))
  have b:=sumI_app (l.take k) (l.drop k)
  rw[List.take_append_drop]at b
  omega
end Go.Proofs.YtocheaahlpiajaaGreatDoor

namespace Go.Proofs.YtocheaahlpiajaaGreatDoor
open Tryz
open Go Go.Sx Go.Hsp Go.Num Go.Osp Go.Gsp Go.Nsp Go.Msp Go.Rtp
set_option maxRecDepth 20000
theorem few_T39 {n n2:Nat}(h:(decide (n<=8)&&decide (n2<=20))=true):n<=8/\n2<=20:=by simpa using h
def MPk (kn:Nat)(w:World)(base gp:Nat)(F:Nat->Prop)(m:MF):Prop:=MPool w base gp F m/\∃gm la ca,Blk w gp 188 #[.map (some gm)]/\MapG w wyf ntf gm la ca/\la.length=kn/\F gp/\F gm
section
variable {w w' : World} {base gp kn : Nat} {F : Nat -> Prop} {m : MF}
theorem MPk.chP {F':Nat->Prop}(h:MPk kn w base gp F m)(hc:ChP w w' F')(hne:∀k,F k->¬F' k):MPk kn w' base gp F m:=by
  obtain⟨d,gm,la,ca,e,f,i,b,c⟩:=h
  exact⟨d.chP hc hne,gm,la,ca,e.chP hc (hne _ b),f.chP hc (hne _ c),i,b,c⟩
theorem MPk.ch {r:Option Nat}(h:MPk kn w base gp F m)(hc:Ch w w' r)(hne:∀k,r=some k->¬F k):MPk kn w' base gp F m:=h.chP (hc.chP (F:=fun k=>r=some k) (fun i hi=>hi)) (fun k hk hr=>hne k hr hk)
theorem MPk.le (h:MPk kn w base gp F m)(hl:Le w w'):MPk kn w' base gp F m:=h.chP (hl.chP (fun _=>False)) (fun _ _ hf=>hf)
theorem MPk.lt (h:MPk kn w base gp F m){k:Nat}(hk:F k):k<w.heap.size:=h.1.lt hk
theorem MPk.good (h:MPk kn w base gp F m):GoodM m:=h.1.good
theorem MPk.old (h:MPk kn w base gp F m){k:Nat}(hk:F k):base<=k:=h.1.old hk
theorem MPk.size (h:MPk kn w base gp F m):base<=w.heap.size:=h.1.size
end
section
variable {g : List Gsp.Edge} {m : MF} {fr to a x : Int}
theorem spl_err (hm:GoodM m){n:Int}(h:(splitG g m fr to a x n).2.2≠0):(splitG g m fr to a x n).1.length=0/\((splitG g m fr to a x n).2.2=1\/(splitG g m fr to a x n).2.2=19):=by
  rcases splitG_spec (g:=g) (fr:=fr) (to:=to) (a:=a) (x:=x) hm (n:=n)with⟨e,_⟩|⟨e,_⟩|⟨s,k,e,_⟩
  · rw[e];exact⟨rfl,.inl rfl⟩
  · rw[e];exact⟨rfl,.inr rfl⟩
  · rw[e]at h;exact absurd rfl h
theorem prt_lens {p:Prt}(h:PrtOk g fr to x p):p.sent.length=p.way.length/\p.way.length<=8/\1<=p.way.length/\p.till.length=p.way.length:=by
  have cs:=costs_of (w:=p.way) (a:=p.amt) (x:=x) (by rw[h.cost])
  have b:=cs.lenS
  have c:=cs.lenT
  have d:=cs.len
  rw[h.cost]at b c
  exact⟨b,d.2,d.1,c⟩
theorem sent_ok {p:Prt}(h:PrtOk g fr to x p){i:Nat}(hi:i<p.way.length):0<=p.sent.getD i 0/\p.sent.getD i 0<=1125899906842624:=by
  have hc:(costG p.way p.amt x).2.2=0:=by rw[h.cost]
  have k:=Cand.some hc hi
  rw[h.cost]at k
  obtain⟨b,c,d⟩:=someM_T k
  obtain⟨_,_,_,_,e,f⟩:=mayM_T b
  simp only at c d
  omega
structure AllOk (g : List Gsp.Edge) (fr to a x n : Int) (b : List Prt × Fr × Int) : Prop where
  parts : ∀ i, i < b.1.length -> PrtOk g fr to x (b.1.getD i noPrt)
  okf : okF b.2.1
  pos : 0 < b.2.1.n
  le1 : b.2.1.n <= b.2.1.d
  net : ∀ e ∈ g, netP e b.1 <= e.r
  sum : sumI (b.1.map (·.amt)) = a
  amt : ∀ s ∈ b.1.map (·.amt), 0 <= s
  ab : a <= 1125899906842624
  len : (b.1.length : Int) <= n /\ b.1.length <= 8
  tot : TotOk b.1
theorem spl_all (hm:GoodM m){n:Int}(h:(splitG g m fr to a x n).2.2=0):AllOk g fr to a x n (splitG g m fr to a x n):=by
  have c:=(splitG_len (g:=g) (fr:=fr) (to:=to) (a:=a) (x:=x) hm (n:=n)).2
  rcases splitG_spec (g:=g) (fr:=fr) (to:=to) (a:=a) (x:=x) hm (n:=n)with⟨e,_⟩|⟨e,_⟩|⟨s,k,e,b,d,f,v,A,j,l⟩
  · rw[e]at h;cases h
  · rw[e]at h;cases h
  · rw[e]at c ⊢
    have hb:badR g fr to a x=false:=by
      cases hb:badR g fr to a x
      · rfl
      · exact absurd (by rw[bestR_bad hb]) l
    have hbT:=bad_T hb
    obtain⟨o,t,u,C⟩:=sharesL_ok (a:=a) (n:=k) f (by omega) j
    have hln:=congrArg List.length d
    rw[List.length_map,o]at hln
    refine⟨fun i hi=>b.parts _ (getD_mem (z:=noPrt) hi),b.odds.1,b.odds.2.1,b.odds.2.2,fun e he=>?_,by simp only;rw[d,t],fun y hy=>?_,hbT.2.2.2.2.1.2,⟨by simp only;omega,c⟩,c,fun p hp y hy=>?_⟩
    · have k1:=b.net e he
      obtain⟨i,hi,rfl⟩:=List.mem_iff_getElem.1 he
      have:=hiM_pos b.good (e:=g[i]) (by have:=(right_pw hbT.1).1 i hi;rwa [show g.getD i noEdge=g[i] by simp[List.getD,hi]]at this)
      show netP g[i] s.out<=g[i].r
      omega
    · simp only at hy
      rw[d]at hy
      obtain⟨i,hi,rfl⟩:=List.mem_iff_getElem.1 hy
      have k1:=u i (by omega)
      have k2:=(share_le f j i).1
      rw[show(sharesL a k)[i]=(sharesL a k).getD i 0 by simp[List.getD,hi],k1]
      omega
    · have hpo:=b.parts p hp
      have hl:=prt_lens hpo
      obtain⟨i,hi,rfl⟩:=List.mem_iff_getElem.1 hy
      have:=sent_ok hpo (i:=i) (by omega)
      rwa [show p.sent.getD i 0=p.sent[i] by simp[List.getD,hi]]at this
theorem amt_next {ps:List Prt}{k:Nat}(h:k<ps.length):sumI ((ps.take (k+1)).map (·.amt))=sumI ((ps.take k).map (·.amt))+(ps.getD k noPrt).amt:=by
  rw[List.map_take,List.map_take,sum_next (by simpa using h)]
  simp[List.getD,h]
theorem netP_next (e:Gsp.Edge){ps:List Prt}{k:Nat}(h:k<ps.length):netP e (ps.take (k+1))=netP e (ps.take k)+flowK e (ps.getD k noPrt).way (ps.getD k noPrt).sent (ps.getD k noPrt).way.length:=by
  rw[List.take_add_one,netP_app]
  simp[List.getD,h,netP]
theorem fits_net {g:List Gsp.Edge}{ps:List Prt}(h:∀e∈g,netP e ps<=e.r){e:Gsp.Edge}(he:e∈g){k:Nat}(hk:ps.length<=k):netP e (ps.take k)<=e.r:=by
  rw[List.take_of_length_le hk]
  exact h e he
theorem flowK_b (e:Gsp.Edge){w:List Gsp.Edge}{s:List Int}:∀k:Nat,(∀i,i<k->0<=s.getD i 0/\s.getD i 0<=1125899906842624)-> -(k*1125899906842624:Int)<=flowK e w s k/\flowK e w s k<=k*1125899906842624
  |0,_=>by show-(((0:Nat):Int)*_)<=(0:Int)/\(0:Int)<=((0:Nat):Int)*_;omega
  |k+1,h=>by
    have ih:=flowK_b e (w:=w) k (fun i hi=>h i (by omega))
    have hk:=h k (by omega)
    show _<=flowK e w s k+flow1 e (w.getD k noEdge) (s.getD k 0)/\flowK e w s k+flow1 e (w.getD k noEdge) (s.getD k 0)<=_
    unfold flow1
    split
    · omega
    · split<;>omega
theorem netP_b (e:Gsp.Edge){ps:List Prt}(hp:∀i,i<ps.length->(ps.getD i noPrt).way.length<=8/\∀j,j<(ps.getD i noPrt).way.length->0<=(ps.getD i noPrt).sent.getD j 0/\(ps.getD i noPrt).sent.getD j 0<=1125899906842624):
    ∀k:Nat,k<=ps.length-> -(k*9007199254740992:Int)<=netP e (ps.take k)/\netP e (ps.take k)<=k*9007199254740992
  |0,_=>by show-(((0:Nat):Int)*_)<=(0:Int)/\(0:Int)<=((0:Nat):Int)*_;omega
  |k+1,h=>by
    have ih:=netP_b e hp k (by omega)
    have hk:=hp k (by omega)
    have hf:=flowK_b e (w:=(ps.getD k noPrt).way) _ hk.2
    rw[netP_next e (show k<ps.length by omega)]
    omega
theorem cmp_pos {p q:Nat}(hok:okF ⟨p,q⟩)(hp:0<p):0<cmpF (takF (⟨p,q⟩:Fr)) (takF (⟨(lowF 0 1).n,(lowF 0 1).d⟩:Fr)):=by
  have e:(⟨(lowF 0 1).n,(lowF 0 1).d⟩:Fr)=⟨0,1⟩:=lowF_zero (by decide)
  rw[e,takF_id hok,show takF ⟨0,1⟩=⟨0,1⟩from by decide,cmpF_pos]
  unfold ltF
  simp only[Nat.zero_mul,Nat.mul_one]
  omega
theorem cmp_one {p q:Nat}(hok:okF ⟨p,q⟩)(hp:p<=q):cmpF (takF (⟨p,q⟩:Fr)) (takF (⟨(lowF 1 1).n,(lowF 1 1).d⟩:Fr))<=0:=by
  have e:(⟨(lowF 1 1).n,(lowF 1 1).d⟩:Fr)=⟨1,1⟩:=lowF_self (by decide)
  rw[e,takF_id hok,show takF ⟨1,1⟩=⟨1,1⟩from by decide,cmpF_le]
  show p*1<=1*q
  omega
end
theorem SplitFits_ok (fr to a x:Int)(mq:Nat){A A2:Option Addr}{n c n2 c2:Nat}{g:List Gsp.Edge}{l:List Kn}(w:World)(hT:Tab w)(hV:Vec w edgeV 9 A n g)(hL:Vec w knV 3 A2 n2 l)(hgl:∀q∈l,I64n q.d)(hnc:n<=c)(hn:n<=9223372036854775807)(hn2:n2<=9223372036854775807)(ha:I64n a)(hq:mq<256):Calls prog 6 #[.slice A n c,.slice A2 n2 c2,.int .i64 (fr),.int .i64 (to),.int .i64 (a),.int .i64 (x),.int .u8 (((mq:Nat):Int))] w fun r w'=>r= .returned (.bool true)/\Le w w':=by
 have hl:=hV.1;have cL:=hL.1
 have hgm:GoodM (mindG g l):=mindG_good g l _ none_good
 unfold I64n at ha
 refine enter func6 rfl rfl ?_
 have L0:=Le.refl w
 refine WC.sr (W.run 1 rfl (W.nx (WC.sr (W.cl go13 rfl rfl (small39_ok w (hT.le L0)) ?_))))
 rintro _ bS ⟨rfl,aH⟩
 refine W.run 1 rfl (W.nx (WC.seq (WC.sr (W.run 2 rfl (W.cl go25 rfl rfl (few_ok bS) ?_)))))
 rintro _ bT ⟨rfl,aI⟩
 have L2:=(L0.trans aH).trans aI
 refine W.run 1 rfl (W.nx ?_)
 by_cases c0:(decide (n<=8)&&decide (n2<=20))=true
 ·refine WC.condN rfl (congrArg not (c0)) ?_
  obtain⟨cM,cN⟩:=few_T39 (n:=n) (n2:=n2) (by assumption)
  refine WC.sn (WC.sr (W.run 2 rfl (W.cl go26 rfl rfl (mind_ok bT (hV.le L2) (hL.le L2) hgl (by omega) (by omega)) ?_)))
  rintro _ s ⟨cO,cP,rfl,bU,aJ⟩
  have L3:=L2.trans aJ
  refine W.run 1 rfl (W.nx (WC.seq (WC.sr (W.run 1 rfl (W.a (.dec (.isNilP (by kernel_rfl) rfl) rfl) ?_)))))
  refine W.nx (WC.condF rfl (WC.sn (WC.sr (W.run 1 rfl (W.a (.rem8 rfl rfl (by omega)) ?_)))))
  refine W.r (.idI (isS underlying5) underlying3 rfl (IntWalk.i64_in _ (by omega))) ?_
  refine W.a (.add rfl rfl (by omega)) ?_
  refine W.run 1 rfl (W.nx (WC.sr (W.run 7 rfl ?_)))
  obtain⟨b,heb⟩:∃z,z=(splitG g (mindG g l) fr to a x (1+(((mq:Nat):Int)%4))):=⟨_,rfl⟩
  have hlb:=splitG_len (g:=g) (m:=(mindG g l)) (fr:=fr) (to:=to) (a:=a) (x:=x) (n:=(1+(((mq:Nat):Int)%4))) hgm
  rw[<-heb]at hlb;unfold LenF at hlb
  refine W.cl go30 rfl rfl ((by have k:=spbest_ok (c:=c) fr to a x (1+(((mq:Nat):Int)%4)) s bU (hV.le L3) (by omega) (by omega);rw[<-heb]at k;exact k)) ?_
  rintro _ cQ ⟨aj,af,e,aa,R,ac,S,rfl,T,a1,a2,a3,cR,al⟩
  have L4:=L3.trans al
  have cS:=a1.1
  refine W.run 2 rfl (W.a (.extract (v:= .agg #[.slice aa ((digs b.2.1.n).length) R,.slice ac ((digs b.2.1.d).length) S]) rfl rfl) ?_)
  refine W.run 1 rfl (W.ef rfl rfl rfl (Ef.allocA z61 fun ad bV bW (a4:Blk bV ad 61 #[.slice none 0 0,.slice none 0 0]) U=>(W.run 1 rfl (W.sA sz61 rfl rfl a4 ?_))))
  intro a5 aK V
  have aK:Blk a5 ad 61 #[.slice aa ((digs b.2.1.n).length) R,.slice ac ((digs b.2.1.d).length) S]:=aK
  have L6:=(L4.trans U).tb V L4 bW
  refine W.run 1 rfl (W.nx (WC.seq (WC.sr (W.run 2 rfl (W.nx ?_)))))
  by_cases c2:b.2.2≠0
  ·refine WC.condY rfl (decide_eq_true c2) ?_
   have hbe:=spl_err (g:=g) (fr:=fr) (to:=to) (a:=a) (x:=x) hgm (n:=(1+(((mq:Nat):Int)%4)))
   simp only[<-heb]at hbe
   have hbe:=hbe (by assumption)
   refine WC.sr (W.run 3 rfl (W.g (.len underlying31 rfl) ?_))
   refine W.g (Any.rd (.dec (.eql rfl rfl) (dT (by have:=hbe.1;omega))) _) ?_
   refine W.run 4 rfl ?_
   by_cases a6:b.2.2=1
   ·refine W.g (Any.rd (.dec (.move rfl) (decide_eq_true a6)) _) ?_
    refine W.run 2 rfl (W.g (Any.rd (.pickT rfl rfl rfl) _) ?_)
    refine W.run 2 rfl (W.nx (WC.ret (E.thenR (E.retG1 rfl rfl ?_))))
    exact⟨rfl,L6⟩
   refine W.g (Any.rd (.dec (.move rfl) (decide_eq_false a6)) _) ?_
   refine W.run 2 rfl (W.g (Any.rd (.pickF rfl rfl rfl) _) ?_)
   refine W.run 2 rfl (W.nx (WC.ret (E.thenR (E.retG1 rfl rfl ?_))))
   exact⟨rB (dT (by omega)),L6⟩
  refine WC.condN rfl (decide_eq_false c2) ?_
  have hA:=spl_all (g:=g) (fr:=fr) (to:=to) (a:=a) (x:=x) hgm (n:=(1+(((mq:Nat):Int)%4)))
  simp only[<-heb]at hA
  have hA:=hA (by omega)
  have cT:(digs (lowF 0 1).n).length<=1/\(digs (lowF 0 1).d).length<=1:=by rw[lowF_zero (by decide)];exact⟨digs_len_one (by decide),digs_len_one (by decide)⟩
  have cU:(digs (lowF 1 1).n).length<=1/\(digs (lowF 1 1).d).length<=1:=by rw[lowF_self (by decide)];exact⟨digs_len_one (by decide),digs_len_one (by decide)⟩
  have hAl:=hA.len;have hAb:=hA.ab
  have hsm:=sum_part hA.amt;rw[hA.sum]at hsm
  have htt:=totP_ok hA.tot
  have hpw:∀i,i<b.1.length->(b.1.getD i noPrt).way.length<=8/\∀j,j<(b.1.getD i noPrt).way.length->0<=(b.1.getD i noPrt).sent.getD j 0/\(b.1.getD i noPrt).sent.getD j 0<=1125899906842624:=fun i hi=>⟨(prt_lens (hA.parts i hi)).2.1,fun j hj=>sent_ok (hA.parts i hi) hj⟩
  refine WC.sn (WC.sr (W.run 1 rfl (W.nx (WC.sr (W.run 1 rfl (W.nx (WC.seq (WC.sr (W.run 1 rfl (W.nx (WC.block ?_)))))))))))
  have f7:=((T.le U).ch V (fun q hq=>by cases hq;exact(fun he=>by have:=(T.row he).2;omega)))
  have f9:=((a2.le U).ch V (fun q hq=>by cases hq;exact(fun he=>by have:=(a2.row he).2;omega)))
  have bX:=((a3.le U).ch V (fun q hq=>by cases hq;exact(fun he=>by have:=(a3.row he).2;omega)))
  refine WC.loop (ι:=Nat) (fun i=>[(0,.slice A n c),(2,.int .i64 (fr)),(3,.int .i64 (to)),(4,.int .i64 (a)),(5,.int .i64 (x)),(15,.bool true),(17,.int .i64 ((1+(((mq:Nat):Int)%4)))),(18,.slice aj b.1.length af),(19,.pointer (some ⟨ad,0,none⟩)),(21,.int .i64 ((sumI ((b.1.take i).map (·.amt))))),(22,.int .i64 ((totP (b.1.take i)))),(23,.int .i64 (((i:Nat):Int)))]) (fun i L=>(i<=b.1.length)/\Le w L/\a5.heap.size<=L.heap.size/\OVec L s.heap.size 34 prV 4 aj b.1.length af e/\PasAt L s.heap.size e b.1/\Blk L ad 61 #[.slice aa ((digs b.2.1.n).length) R,.slice ac ((digs b.2.1.d).length) S]/\OVec L s.heap.size 273 dv 1 aa ((digs b.2.1.n).length) R (digs b.2.1.n)/\OVec L s.heap.size 273 dv 1 ac ((digs b.2.1.d).length) S (digs b.2.1.d)) (fun i=>b.1.length-i) 0 ?_ ?_ ?_
  ·exact .cons rfl (.cons rfl (.cons rfl (.cons rfl (.cons rfl (.cons rfl (.cons rfl (.cons rfl (.cons rfl (.cons rfl (.cons rfl (.cons rfl (.nil _))))))))))))
  ·exact⟨Nat.zero_le _,L6,Nat.le_refl _,f7,((a1.le U).chB V a4 (by decide) (by decide)),aK,f9,bX⟩
  rintro i L ⟨hi,aL,aM,av,a7,aO,aP,aQ⟩
  have cV:s.heap.size<=L.heap.size:=by have:=al.size;have:=U.size;have:=V.size;omega
  have cW:s.heap.size<=L.heap.size:=by have:=al.size;have:=U.size;have:=V.size;omega
  have cX:s.heap.size<=L.heap.size:=by have:=al.size;have:=U.size;have:=V.size;omega
  have aw:s.heap.size<=L.heap.size:=by have:=al.size;have:=U.size;have:=V.size;omega
  refine WC.seq (WC.sr (W.run 2 rfl (W.r (.len underlying31 rfl) ?_)))
  refine W.run 1 rfl (W.nx ?_)
  by_cases c3:((i:Nat):Int)<((b.1.length:Nat):Int)
  ·refine WC.condY rfl (decide_eq_true c3) (WC.sn (WC.seq (WC.block (WC.sr (W.run 2 rfl (W.a (.idxS (i) underlying31 sz34 rfl rfl (T.vec.isSome prV_row (by omega)) (rfl) (by omega)) ?_))))))
   refine W.r (.vload ag34 rfl av.vec prV_row (getS e noPaR (by omega))) ?_
   refine W.ef rfl rfl rfl (Ef.allocA z34 fun a8 bY bZ (a9:Blk bY a8 34 (prV noPaR).toArray) am=>(W.ef0 rfl rfl (Ef.storeAll sz34 (by rfl) rfl rfl a9 (by simp only[List.size_toArray,prV_row.len]) (prV_row.one (e.getD i noPaR)) ?_)))
   intro ba ar an
   have ar:Blk ba a8 34 (prV (e.getD i noPaR)).toArray:=ar
   refine W.nx (WC.sr ?_)
   have bb:=((a7.le am).chB an a9 (by decide) (by decide))
   have pi:=bb.2 i (by omega)
   have pia:=pi.amt;have piw:=pi.way.1;have pis:=pi.sent.1;have pit:=pi.till.1
   have hpo:=hA.parts i (by omega)
   have hle:=prt_lens hpo
   have hco:costG (b.1.getD i noPrt).way (e.getD i noPaR).amt x=((b.1.getD i noPrt).sent,(b.1.getD i noPrt).till,0):=by rw[pia];exact hpo.cost
   have cY:(costG (b.1.getD i noPrt).way (e.getD i noPaR).amt x).1.length=(b.1.getD i noPrt).way.length:=by rw[hco];exact hle.1
   have cZ:(costG (b.1.getD i noPrt).way (e.getD i noPaR).amt x).2.1.length=(b.1.getD i noPrt).way.length:=by rw[hco];exact hle.2.2.2
   refine W.a (.field0 fa34_1 rfl) ?_
   refine W.r (.loadB (v:= .slice ((e.getD i noPaR).wA) ((e.getD i noPaR).wN) ((e.getD i noPaR).wC)) na32 rfl ar rfl) ?_
   refine W.a (.field0 fa34_0 rfl) ?_
   refine W.r (.loadB (v:= .int .i64 ((e.getD i noPaR).amt)) na3 rfl ar rfl) ?_
   refine W.run 1 rfl (W.cl go38 rfl rfl (cost_ok ((e.getD i noPaR).amt) x ba pi.way.vec (by omega)) ?_)
   rintro _ b0 ⟨c1,b1,c4,b2,rfl,aR,b3,X⟩
   refine W.run 7 rfl (W.nx (WC.seq (WC.sr (W.run 1 rfl (W.a (.dec (.neq rfl rfl) (dF (fun h=>h (by rw[hco])))) ?_)))))
   refine W.run 2 rfl (W.g (Any.rd (.field0 fa34_2 rfl) _) ?_)
   have bc:=(ar.le X)
   refine W.g (.loadB (v:= .slice ((e.getD i noPaR).sA) ((e.getD i noPaR).sN) ((e.getD i noPaR).sC)) na23 rfl bc rfl) ?_
   refine W.efg rfl rfl rfl (rfl) rfl rfl (Ef.call go34 rfl rfl ((by have q:=ints_ok (c:=b1) (d:=((e.getD i noPaR).sC)) b0 aR.vec (pi.sent.le X).vec (by omega);rw[dT (show(costG (b.1.getD i noPrt).way (e.getD i noPaR).amt x).1=(b.1.getD i noPrt).sent by rw[hco])]at q;exact q)) ?_)
   rintro _ b4 ⟨rfl,O⟩
   refine⟨_,rfl,?_⟩
   refine W.run 4 rfl (W.g (Any.rd (.field0 fa34_3 rfl) _) ?_)
   have bd:=(bc.le O)
   refine W.g (.loadB (v:= .slice ((e.getD i noPaR).tA) ((e.getD i noPaR).tN) ((e.getD i noPaR).tC)) na23 rfl bd rfl) ?_
   refine W.efg rfl rfl rfl (rfl) rfl rfl (Ef.call go34 rfl rfl ((by have q:=ints_ok (c:=b2) (d:=((e.getD i noPaR).tC)) b4 (b3.le O).vec (pi.till.le (X.trans O)).vec (by omega);rw[dT (show(costG (b.1.getD i noPrt).way (e.getD i noPaR).amt x).2.1=(b.1.getD i noPrt).till by rw[hco])]at q;exact q)) ?_)
   rintro _ da ⟨rfl,ae⟩
   refine⟨_,rfl,?_⟩
   refine W.run 3 rfl (W.g (Any.rd (.field0 fa34_1 rfl) _) ?_)
   have au:=(bd.le ae)
   refine W.g (.loadB (v:= .slice ((e.getD i noPaR).wA) ((e.getD i noPaR).wN) ((e.getD i noPaR).wC)) na32 rfl au rfl) ?_
   refine W.g (.len underlying32 rfl) ?_
   refine W.g (Any.rd (.dec (.lss rfl rfl) (dF (by omega))) _) ?_
   refine W.run 2 rfl (W.g (Any.rd (.field0 fa34_1 rfl) _) ?_)
   refine W.g (.loadB (v:= .slice ((e.getD i noPaR).wA) ((e.getD i noPaR).wN) ((e.getD i noPaR).wC)) na32 rfl au rfl) ?_
   refine W.g (Any.rd (.idxS (0) underlying32 sz81 rfl rfl (pi.way.vec.isSome edgeV_row (by omega)) (rfl) (by omega)) _) ?_
   refine W.g (Any.rd (.vfield fa81_0 (pi.way.vec.isSome edgeV_row (by omega)) rfl) _) ?_
   have be:=(pi.way.le (X.trans (O.trans ae)))
   refine W.g (.vcell (j:=0) (o:=0) (v:= .int .i64 ((((b.1.getD i noPrt).way).getD 0 noEdge).f)) na3 rfl be.vec edgeV_row (getS ((b.1.getD i noPrt).way) noEdge (by first|omega|(simp only[List.length_cons,List.length_nil];omega))) rfl) ?_
   refine W.run 1 rfl (W.g (Any.rd (.dec (.neq rfl rfl) (dF (fun h=>h hpo.fst))) _) ?_)
   refine W.run 2 rfl (W.g (Any.rd (.field0 fa34_1 rfl) _) ?_)
   refine W.g (.loadB (v:= .slice ((e.getD i noPaR).wA) ((e.getD i noPaR).wN) ((e.getD i noPaR).wC)) na32 rfl au rfl) ?_
   refine W.g (Any.rd (.field0 fa34_1 rfl) _) ?_
   refine W.g (.loadB (v:= .slice ((e.getD i noPaR).wA) ((e.getD i noPaR).wN) ((e.getD i noPaR).wC)) na32 rfl au rfl) ?_
   refine W.g (.len underlying32 rfl) ?_
   refine W.g (Any.rd (.sub rfl rfl (by omega)) _) ?_
   refine W.g (Any.rd (.idxS (((b.1.getD i noPrt).way.length-1)) underlying32 sz81 rfl rfl (pi.way.vec.isSome edgeV_row (by omega)) (by omega) (by omega)) _) ?_
   refine W.g (Any.rd (.vfield fa81_1 (pi.way.vec.isSome edgeV_row (by omega)) rfl) _) ?_
   refine W.g (.vcell (j:=((b.1.getD i noPrt).way.length-1)) (o:=1) (v:= .int .i64 ((((b.1.getD i noPrt).way).getD ((b.1.getD i noPrt).way.length-1) noEdge).t)) na3 rfl be.vec edgeV_row (getS ((b.1.getD i noPrt).way) noEdge (by first|omega|(simp only[List.length_cons,List.length_nil];omega))) rfl) ?_
   refine W.run 1 rfl (W.g (Any.rd (.dec (.neq rfl rfl) (dF (fun h=>h hpo.lst))) _) ?_)
   refine W.run 1 rfl (W.nx (WC.condF rfl (WC.sn (WC.sr (W.run 1 rfl (W.a (.field0 fa34_0 rfl) ?_))))))
   refine W.r (.loadB (v:= .int .i64 ((e.getD i noPaR).amt)) na3 rfl au rfl) ?_
   have b5:=hsm (i+1);have b6:=htt (i+1)
   rw[<-List.map_take,amt_next (by omega),<-pia]at b5
   rw[totP_next (by omega)]at b6
   have b7:=hsm i;have db:=htt i
   rw[<-List.map_take]at b7
   refine W.a (.add rfl rfl (by omega)) ?_
   refine W.run 1 rfl (W.nx (WC.region (W.run 2 rfl (W.a (.idxS (0) underlying23 sz3 rfl rfl (aR.vec.isSome iv_row (by omega)) (rfl) (by omega)) ?_))))
   refine W.r (.vone (v:= .int .i64 ((((costG ((b.1.getD i noPrt).way) ((e.getD i noPaR).amt) x).1).getD 0 0))) na3 rfl (aR.le (O.trans ae)).vec iv_row (getS ((costG ((b.1.getD i noPrt).way) ((e.getD i noPaR).amt) x).1) 0 (by first|omega|(simp only[List.length_cons,List.length_nil];omega))) rfl) ?_
   have hsc:(costG (b.1.getD i noPrt).way (e.getD i noPaR).amt x).1.getD 0 0=(b.1.getD i noPrt).sent.getD 0 0:=by rw[hco]
   refine W.a (.add rfl rfl (by omega)) ?_
   refine W.run 1 rfl (W.nil (E.blkN (E.thenN (WC.region (W.run 1 rfl (W.a (.add rfl rfl (by omega)) ?_))))))
   refine W.run 1 rfl (W.nil ?_)
   have b8:=(((av.le am).ch an (fun q hq=>by cases hq;exact(fun he=>by have:=(av.row he).2;omega))).le (X.trans (O.trans ae)))
   have b9:=(((aO.le am).cn an (by have:=aO.lt;omega)).le (X.trans (O.trans ae)))
   have ca:=(((aP.le am).ch an (fun q hq=>by cases hq;exact(fun he=>by have:=(aP.row he).2;omega))).le (X.trans (O.trans ae)))
   have cb:=(((aQ.le am).ch an (fun q hq=>by cases hq;exact(fun he=>by have:=(aQ.row he).2;omega))).le (X.trans (O.trans ae)))
   refine E.again (i+1) (.cons rfl (.cons rfl (.cons rfl (.cons rfl (.cons rfl (.cons rfl (.cons rfl (.cons rfl (.cons rfl (.cons' rfl (int_eq (by rw[amt_next (by omega),pia])) (.cons' rfl (int_eq (by rw[totP_next (by omega),hco])) (.cons rfl (.nil _))))))))))))) ?_ ?_
   ·exact⟨by omega,(((((aL.trans am).tb an aL bZ).trans X).trans O).trans ae),by have:=aM;have:=am.size;have:=an.size;have:=X.size;have:=O.size;have:=ae.size;omega,b8,(bb.le (X.trans (O.trans ae))),b9,ca,cb⟩
   first|omega|(simp only[];omega)
  refine WC.condN rfl (decide_eq_false c3) (WC.exit (E.thenX (E.thenX (E.blkH (E.thenN (WC.seq (WC.sr (W.run 1 rfl (W.nx (WC.block ?_))))))))))
  refine WC.loop (ι:=Nat) (fun q=>[(0,.slice A n c),(4,.int .i64 (a)),(15,.bool true),(17,.int .i64 ((1+(((mq:Nat):Int)%4)))),(18,.slice aj b.1.length af),(19,.pointer (some ⟨ad,0,none⟩)),(21,.int .i64 ((sumI ((b.1.take i).map (·.amt))))),(22,.int .i64 ((totP (b.1.take i)))),(28,.int .i64 (((q:Nat):Int)))]) (fun q H=>(q<=n)/\Le w H/\L.heap.size<=H.heap.size/\OVec H s.heap.size 34 prV 4 aj b.1.length af e/\PasAt H s.heap.size e b.1/\Blk H ad 61 #[.slice aa ((digs b.2.1.n).length) R,.slice ac ((digs b.2.1.d).length) S]/\OVec H s.heap.size 273 dv 1 aa ((digs b.2.1.n).length) R (digs b.2.1.n)/\OVec H s.heap.size 273 dv 1 ac ((digs b.2.1.d).length) S (digs b.2.1.d)) (fun q=>n-q) 0 ?_ ?_ ?_
  ·exact .cons rfl (.cons rfl (.cons rfl (.cons rfl (.cons rfl (.cons rfl (.cons rfl (.cons rfl (.cons rfl (.nil _)))))))))
  ·exact⟨Nat.zero_le _,aL,Nat.le_refl _,av,a7,aO,aP,aQ⟩
  rintro q H ⟨dc,bf,bg,ax,bh,ay,az,aA⟩
  have dd:s.heap.size<=H.heap.size:=Nat.le_trans aw (by omega)
  have de:s.heap.size<=H.heap.size:=Nat.le_trans aw (by omega)
  have dg:s.heap.size<=H.heap.size:=Nat.le_trans aw (by omega)
  have aB:s.heap.size<=H.heap.size:=Nat.le_trans aw (by omega)
  refine WC.seq (WC.sr (W.run 2 rfl (W.r (.len underlying32 rfl) ?_)))
  refine W.run 1 rfl (W.nx ?_)
  by_cases c5:((q:Nat):Int)<((n:Nat):Int)
  ·refine WC.condY rfl (decide_eq_true c5) (WC.sn (WC.seq (WC.block (WC.sr (W.run 1 rfl (W.nx (WC.seq (WC.sr (W.run 1 rfl (W.nx (WC.block ?_)))))))))))
   refine WC.loop (ι:=Nat) (fun k=>[(0,.slice A n c),(4,.int .i64 (a)),(15,.bool true),(17,.int .i64 ((1+(((mq:Nat):Int)%4)))),(18,.slice aj b.1.length af),(19,.pointer (some ⟨ad,0,none⟩)),(21,.int .i64 ((sumI ((b.1.take i).map (·.amt))))),(22,.int .i64 ((totP (b.1.take i)))),(28,.int .i64 (((q:Nat):Int))),(29,.int .i64 ((netP (g.getD q noEdge) (b.1.take k)))),(30,.int .i64 (((k:Nat):Int)))]) (fun k N=>(k<=b.1.length)/\Le w N/\H.heap.size<=N.heap.size/\OVec N s.heap.size 34 prV 4 aj b.1.length af e/\PasAt N s.heap.size e b.1/\Blk N ad 61 #[.slice aa ((digs b.2.1.n).length) R,.slice ac ((digs b.2.1.d).length) S]/\OVec N s.heap.size 273 dv 1 aa ((digs b.2.1.n).length) R (digs b.2.1.n)/\OVec N s.heap.size 273 dv 1 ac ((digs b.2.1.d).length) S (digs b.2.1.d)) (fun k=>b.1.length-k) 0 ?_ ?_ ?_
   ·exact .cons rfl (.cons rfl (.cons rfl (.cons rfl (.cons rfl (.cons rfl (.cons rfl (.cons rfl (.cons rfl (.cons rfl (.cons rfl (.nil _)))))))))))
   ·exact⟨Nat.zero_le _,bf,Nat.le_refl _,ax,bh,ay,az,aA⟩
   rintro k N ⟨hk,aS,bi,bj,bk,bl,bm,bn⟩
   have dh:s.heap.size<=N.heap.size:=Nat.le_trans aB (by omega)
   have di:s.heap.size<=N.heap.size:=Nat.le_trans aB (by omega)
   have dj:s.heap.size<=N.heap.size:=Nat.le_trans aB (by omega)
   have aC:s.heap.size<=N.heap.size:=Nat.le_trans aB (by omega)
   have hnb:=netP_b (g.getD q noEdge) hpw k hk
   refine WC.seq (WC.sr (W.run 2 rfl (W.r (.len underlying31 rfl) ?_)))
   refine W.run 1 rfl (W.nx ?_)
   by_cases c6:((k:Nat):Int)<((b.1.length:Nat):Int)
   ·refine WC.condY rfl (decide_eq_true c6) (WC.sn (WC.seq (WC.block (WC.sr (W.run 1 rfl (W.nx (WC.block ?_)))))))
    refine WC.loop (ι:=Nat) (fun j=>[(0,.slice A n c),(4,.int .i64 (a)),(15,.bool true),(17,.int .i64 ((1+(((mq:Nat):Int)%4)))),(18,.slice aj b.1.length af),(19,.pointer (some ⟨ad,0,none⟩)),(21,.int .i64 ((sumI ((b.1.take i).map (·.amt))))),(22,.int .i64 ((totP (b.1.take i)))),(28,.int .i64 (((q:Nat):Int))),(29,.int .i64 (((netP (g.getD q noEdge) (b.1.take k))+(flowK (g.getD q noEdge) (b.1.getD k noPrt).way (b.1.getD k noPrt).sent j)))),(30,.int .i64 (((k:Nat):Int))),(31,.int .i64 (((j:Nat):Int)))]) (fun j P=>(j<=(b.1.getD k noPrt).way.length)/\Le w P/\N.heap.size<=P.heap.size/\OVec P s.heap.size 34 prV 4 aj b.1.length af e/\PasAt P s.heap.size e b.1/\Blk P ad 61 #[.slice aa ((digs b.2.1.n).length) R,.slice ac ((digs b.2.1.d).length) S]/\OVec P s.heap.size 273 dv 1 aa ((digs b.2.1.n).length) R (digs b.2.1.n)/\OVec P s.heap.size 273 dv 1 ac ((digs b.2.1.d).length) S (digs b.2.1.d)) (fun j=>(b.1.getD k noPrt).way.length-j) 0 ?_ ?_ ?_
    ·exact .cons rfl (.cons rfl (.cons rfl (.cons rfl (.cons rfl (.cons rfl (.cons rfl (.cons rfl (.cons rfl (.cons' rfl (int_eq (by show _=_+(0:Int);omega)) (.cons rfl (.cons rfl (.nil _))))))))))))
    ·exact⟨Nat.zero_le _,aS,Nat.le_refl _,bj,bk,bl,bm,bn⟩
    rintro j P ⟨hj,aT,aE,ah,ak,ao,ap,aq⟩
    have dk:s.heap.size<=P.heap.size:=Nat.le_trans aC (by omega)
    have dl:s.heap.size<=P.heap.size:=Nat.le_trans aC (by omega)
    have dm:s.heap.size<=P.heap.size:=Nat.le_trans aC (by omega)
    have dn:s.heap.size<=P.heap.size:=Nat.le_trans aC (by omega)
    refine WC.seq (WC.sr ?_)
    have pk:=ak.2 k (by omega)
    have pka:=pk.amt;have pkw:=pk.way.1;have pks:=pk.sent.1;have pkt:=pk.till.1
    have hpk:=hpw k (by omega)
    have hlk:=prt_lens (hA.parts k (by omega))
    have hfb:=flowK_b (g.getD q noEdge) (w:=(b.1.getD k noPrt).way) j (fun i hi=>hpk.2 i (by omega))
    have hsj:=hpk.2 j
    refine W.run 3 rfl (W.a (.idxS (k) underlying31 sz34 rfl rfl (T.vec.isSome prV_row (by omega)) (rfl) (by omega)) ?_)
    refine W.a (.vfield fa34_1 (T.vec.isSome prV_row (by omega)) rfl) ?_
    refine W.r (.vcell (j:=k) (o:=1) (v:= .slice ((e.getD k noPaR).wA) ((e.getD k noPaR).wN) ((e.getD k noPaR).wC)) na32 rfl ah.vec prV_row (getS e noPaR (by omega)) rfl) ?_
    refine W.r (.len underlying32 rfl) ?_
    refine W.run 1 rfl (W.nx ?_)
    by_cases c7:((j:Nat):Int)<(((e.getD k noPaR).wN:Nat):Int)
    ·refine WC.condY rfl (decide_eq_true c7) (WC.sn (WC.seq (WC.block (WC.sr (W.run 2 rfl (W.a (.idxS (k) underlying31 sz34 rfl rfl (T.vec.isSome prV_row (by omega)) (rfl) (by omega)) ?_))))))
     refine W.a (.vfield fa34_1 (T.vec.isSome prV_row (by omega)) rfl) ?_
     refine W.r (.vcell (j:=k) (o:=1) (v:= .slice ((e.getD k noPaR).wA) ((e.getD k noPaR).wN) ((e.getD k noPaR).wC)) na32 rfl ah.vec prV_row (getS e noPaR (by omega)) rfl) ?_
     refine W.run 1 rfl (W.a (.idxS (j) underlying32 sz81 rfl rfl (pk.way.vec.isSome edgeV_row (by omega)) (rfl) (by omega)) ?_)
     refine W.r (.vload ag81 rfl pk.way.vec edgeV_row (getS ((b.1.getD k noPrt).way) noEdge (by first|omega|(simp only[List.length_cons,List.length_nil];omega)))) ?_
     refine W.ef rfl rfl rfl (Ef.allocA z81 fun bo cc aF (ce:Blk cc bo 81 (edgeV noEdge).toArray) y=>(W.ef0 rfl rfl (Ef.storeAll sz81 (by rfl) rfl rfl ce (by simp only[List.size_toArray,edgeV_row.len]) (edgeV_row.one (((b.1.getD k noPrt).way).getD j noEdge)) ?_)))
     intro cf aU C
     have aU:Blk cf bo 81 (edgeV (((b.1.getD k noPrt).way).getD j noEdge)).toArray:=aU
     refine W.nx (WC.seq (WC.draw [0,1,2,3,4,5] mixed (by kernel_rfl) fun dp u=>?_))
     have aV:=((aT.trans y).tb C aT aF).trans u
     have bp:=(aU.le u)
     refine G.r rfl (.loadAll ag81 (by rfl) rfl bp) ?_
     refine G.run 2 rfl (G.a rfl (.idxS (q) underlying32 sz81 rfl rfl (hV.isSome edgeV_row (by omega)) (rfl) (by omega)) ?_)
     refine G.r rfl (.vload ag81 rfl (hV.le aV) edgeV_row (getS g noEdge (by omega))) ?_
     refine G.a rfl (.eqA eg81 rfl rfl (eqv_edge (d:=9997) _ _)) ?_
     refine G.nil (E.thenN ?_)
     by_cases c8:(((b.1.getD k noPrt).way).getD j noEdge)=(g.getD q noEdge)
     ·refine WC.condY rfl (decide_eq_true c8) (WC.region (W.run 3 rfl (W.a (.idxS (k) underlying31 sz34 rfl rfl (T.vec.isSome prV_row (by omega)) (rfl) (by omega)) ?_)))
      refine W.a (.vfield fa34_2 (T.vec.isSome prV_row (by omega)) rfl) ?_
      have bq:=(((ah.le y).ch C (fun q hq=>by cases hq;exact(fun he=>by have:=(ah.row he).2;omega))).le u)
      refine W.r (.vcell (j:=k) (o:=2) (v:= .slice ((e.getD k noPaR).sA) ((e.getD k noPaR).sN) ((e.getD k noPaR).sC)) na23 rfl bq.vec prV_row (getS e noPaR (by omega)) rfl) ?_
      refine W.run 1 rfl (W.a (.idxS (j) underlying23 sz3 rfl rfl (pk.sent.vec.isSome iv_row (by omega)) (rfl) (by omega)) ?_)
      have cg:=(((pk.sent.le y).ch C (fun q hq=>by cases hq;exact(fun he=>by have:=(pk.sent.row he).2;omega))).le u)
      refine W.r (.vone (v:= .int .i64 ((((b.1.getD k noPrt).sent).getD j 0))) na3 rfl cg.vec iv_row (getS ((b.1.getD k noPrt).sent) 0 (by first|omega|(simp only[List.length_cons,List.length_nil];omega))) rfl) ?_
      have hsj:=hsj (by omega)
      refine W.a (.add rfl rfl (by omega)) ?_
      refine W.run 1 rfl (W.nil (E.blkN (E.thenN (WC.region (W.run 1 rfl (W.a (.add rfl rfl (by omega)) ?_))))))
      refine W.run 1 rfl (W.nil ?_)
      have ci:=(((ak.le y).chNew ak C (fun q hq=>by cases hq;have:=aF;omega)).le u)
      have cj:=(((ao.le y).cn C (by have:=ao.lt;omega)).le u)
      have ck:=(((ap.le y).ch C (fun q hq=>by cases hq;exact(fun he=>by have:=(ap.row he).2;omega))).le u)
      have cm:=(((aq.le y).ch C (fun q hq=>by cases hq;exact(fun he=>by have:=(aq.row he).2;omega))).le u)
      refine E.again (j+1) (.cons rfl (.cons rfl (.cons rfl (.cons rfl (.cons rfl (.cons rfl (.cons rfl (.cons rfl (.cons rfl (.cons' rfl (int_eq (by show _=(netP (g.getD q noEdge) (b.1.take k))+(flowK (g.getD q noEdge) (b.1.getD k noPrt).way (b.1.getD k noPrt).sent j+flow1 (g.getD q noEdge) ((b.1.getD k noPrt).way.getD j noEdge) ((b.1.getD k noPrt).sent.getD j 0));unfold flow1;first|(rw[if_pos (by assumption)];omega)|(rw[if_neg (by assumption),if_pos (by assumption)];omega)|(rw[if_neg (by assumption),if_neg (by assumption)];omega))) (.cons rfl (.cons rfl (.nil _))))))))))))) ?_ ?_
      ·exact⟨by omega,aV,by have:=aE;have:=y.size;have:=C.size;have:=u.size;omega,bq,ci,cj,ck,cm⟩
      first|omega|(simp only[];omega)
     refine WC.condN rfl (decide_eq_false c8) (WC.seq (WC.draw [0,1,2,3,4,5,6,7] mixed (by kernel_rfl) fun dq F=>?_))
     have aW:=aV.trans F
     refine G.a rfl (.field0 fa81_2 rfl) ?_
     refine G.r rfl (.loadB (v:= .int .i64 ((((b.1.getD k noPrt).way).getD j noEdge).c)) na3 rfl (bp.le F) rfl) ?_
     refine G.run 2 rfl (G.a rfl (.idxS (q) underlying32 sz81 rfl rfl (hV.isSome edgeV_row (by omega)) (rfl) (by omega)) ?_)
     refine G.a rfl (.vfield fa81_2 (hV.isSome edgeV_row (by omega)) rfl) ?_
     refine G.r rfl (.vcell (j:=q) (o:=2) (v:= .int .i64 ((g.getD q noEdge).c)) na3 rfl (hV.le aW) edgeV_row (getS g noEdge (by omega)) rfl) ?_
     refine G.run 1 rfl (G.nil (E.thenN ?_))
     by_cases c9:((((b.1.getD k noPrt).way).getD j noEdge).c)=((g.getD q noEdge).c)
     ·refine WC.condY rfl (decide_eq_true c9) (WC.region (W.run 3 rfl (W.a (.idxS (k) underlying31 sz34 rfl rfl (T.vec.isSome prV_row (by omega)) (rfl) (by omega)) ?_)))
      refine W.a (.vfield fa34_2 (T.vec.isSome prV_row (by omega)) rfl) ?_
      have bs:=(((ah.le y).ch C (fun q hq=>by cases hq;exact(fun he=>by have:=(ah.row he).2;omega))).le (u.trans F))
      refine W.r (.vcell (j:=k) (o:=2) (v:= .slice ((e.getD k noPaR).sA) ((e.getD k noPaR).sN) ((e.getD k noPaR).sC)) na23 rfl bs.vec prV_row (getS e noPaR (by omega)) rfl) ?_
      refine W.run 1 rfl (W.a (.idxS (j) underlying23 sz3 rfl rfl (pk.sent.vec.isSome iv_row (by omega)) (rfl) (by omega)) ?_)
      have co:=(((pk.sent.le y).ch C (fun q hq=>by cases hq;exact(fun he=>by have:=(pk.sent.row he).2;omega))).le (u.trans F))
      refine W.r (.vone (v:= .int .i64 ((((b.1.getD k noPrt).sent).getD j 0))) na3 rfl co.vec iv_row (getS ((b.1.getD k noPrt).sent) 0 (by first|omega|(simp only[List.length_cons,List.length_nil];omega))) rfl) ?_
      have hsj:=hsj (by omega)
      refine W.a (.sub rfl rfl (by omega)) ?_
      refine W.run 1 rfl (W.nil (E.blkN (E.thenN (WC.region (W.run 1 rfl (W.a (.add rfl rfl (by omega)) ?_))))))
      refine W.run 1 rfl (W.nil ?_)
      have cp:=(((ak.le y).chNew ak C (fun q hq=>by cases hq;have:=aF;omega)).le (u.trans F))
      have cq:=(((ao.le y).cn C (by have:=ao.lt;omega)).le (u.trans F))
      have cr:=(((ap.le y).ch C (fun q hq=>by cases hq;exact(fun he=>by have:=(ap.row he).2;omega))).le (u.trans F))
      have cs:=(((aq.le y).ch C (fun q hq=>by cases hq;exact(fun he=>by have:=(aq.row he).2;omega))).le (u.trans F))
      refine E.again (j+1) (.cons rfl (.cons rfl (.cons rfl (.cons rfl (.cons rfl (.cons rfl (.cons rfl (.cons rfl (.cons rfl (.cons' rfl (int_eq (by show _=(netP (g.getD q noEdge) (b.1.take k))+(flowK (g.getD q noEdge) (b.1.getD k noPrt).way (b.1.getD k noPrt).sent j+flow1 (g.getD q noEdge) ((b.1.getD k noPrt).way.getD j noEdge) ((b.1.getD k noPrt).sent.getD j 0));unfold flow1;first|(rw[if_pos (by assumption)];omega)|(rw[if_neg (by assumption),if_pos (by assumption)];omega)|(rw[if_neg (by assumption),if_neg (by assumption)];omega))) (.cons rfl (.cons rfl (.nil _))))))))))))) ?_ ?_
      ·exact⟨by omega,aW,by have:=aE;have:=y.size;have:=C.size;have:=u.size;have:=F.size;omega,bs,cp,cq,cr,cs⟩
      first|omega|(simp only[];omega)
     refine WC.condN rfl (decide_eq_false c9) (WC.skip (E.blkN (E.thenN (WC.region (W.run 1 rfl (W.a (.add rfl rfl (by omega)) ?_))))))
     refine W.run 1 rfl (W.nil ?_)
     have ct:=(((ah.le y).ch C (fun q hq=>by cases hq;exact(fun he=>by have:=(ah.row he).2;omega))).le (u.trans F))
     have cu:=(((ak.le y).chNew ak C (fun q hq=>by cases hq;have:=aF;omega)).le (u.trans F))
     have cv:=(((ao.le y).cn C (by have:=ao.lt;omega)).le (u.trans F))
     have cw:=(((ap.le y).ch C (fun q hq=>by cases hq;exact(fun he=>by have:=(ap.row he).2;omega))).le (u.trans F))
     have cx:=(((aq.le y).ch C (fun q hq=>by cases hq;exact(fun he=>by have:=(aq.row he).2;omega))).le (u.trans F))
     refine E.again (j+1) (.cons rfl (.cons rfl (.cons rfl (.cons rfl (.cons rfl (.cons rfl (.cons rfl (.cons rfl (.cons rfl (.cons' rfl (int_eq (by show _=(netP (g.getD q noEdge) (b.1.take k))+(flowK (g.getD q noEdge) (b.1.getD k noPrt).way (b.1.getD k noPrt).sent j+flow1 (g.getD q noEdge) ((b.1.getD k noPrt).way.getD j noEdge) ((b.1.getD k noPrt).sent.getD j 0));unfold flow1;first|(rw[if_pos (by assumption)];omega)|(rw[if_neg (by assumption),if_pos (by assumption)];omega)|(rw[if_neg (by assumption),if_neg (by assumption)];omega))) (.cons rfl (.cons rfl (.nil _))))))))))))) ?_ ?_
     ·exact⟨by omega,aW,by have:=aE;have:=y.size;have:=C.size;have:=u.size;have:=F.size;omega,ct,cu,cv,cw,cx⟩
     first|omega|(simp only[];omega)
    refine WC.condN rfl (decide_eq_false c7) (WC.exit (E.thenX (E.thenX (E.blkH (E.blkN (E.thenN (WC.region (W.run 1 rfl (W.a (.add rfl rfl (by omega)) ?_)))))))))
    refine W.run 1 rfl (W.nil (E.again (k+1) (.cons rfl (.cons rfl (.cons rfl (.cons rfl (.cons rfl (.cons rfl (.cons rfl (.cons rfl (.cons rfl (.cons' rfl (int_eq (by rw[netP_next _ (show k<b.1.length by omega),show(b.1.getD k noPrt).way.length=j by omega])) (.cons rfl (.nil _)))))))))))) ?_ ?_))
    ·exact⟨by omega,aT,by have:=bi;have:=aM;have:=bg;have:=aE;have:=aH.size;have:=aI.size;have:=aJ.size;have:=al.size;have:=U.size;have:=V.size;omega,ah,ak,ao,ap,aq⟩
    first|omega|(simp only[];omega)
   refine WC.condN rfl (decide_eq_false c6) (WC.exit (E.thenX (E.thenX (E.blkH (E.thenN (WC.sr (W.run 3 rfl (W.a (.idxS (q) underlying32 sz81 rfl rfl (hV.isSome edgeV_row (by omega)) (rfl) (by omega)) ?_))))))))
   refine W.a (.vfield fa81_3 (hV.isSome edgeV_row (by omega)) rfl) ?_
   refine W.r (.vcell (j:=q) (o:=3) (v:= .int .i64 ((g.getD q noEdge).r)) na3 rfl (hV.le aS) edgeV_row (getS g noEdge (by omega)) rfl) ?_
   refine W.a (.dec (.gtr rfl rfl) (dF (Int.not_lt.2 (fits_net hA.net (getD_mem (z:=noEdge) (by omega)) (by omega))))) ?_
   refine W.nx (WC.condF rfl (WC.skip (E.blkN (E.thenN (WC.region (W.run 1 rfl (W.a (.add rfl rfl (by omega)) ?_)))))))
   refine W.run 1 rfl (W.nil (E.again (q+1) (.cons rfl (.cons rfl (.cons rfl (.cons rfl (.cons rfl (.cons rfl (.cons rfl (.cons rfl (.cons rfl (.nil _)))))))))) ?_ ?_))
   ·exact⟨by omega,aS,by have:=bg;have:=aM;have:=bi;have:=aH.size;have:=aI.size;have:=aJ.size;have:=al.size;have:=U.size;have:=V.size;omega,bj,bk,bl,bm,bn⟩
   first|omega|(simp only[];omega)
  refine WC.condN rfl (decide_eq_false c5) (WC.exit (E.thenX (E.thenX (E.blkH (E.thenN (WC.sr (W.cl go39 rfl rfl (fof_ok 0 1 H (by omega) (by omega) (by omega)) ?_)))))))
  rintro _ dr ⟨bt,bu,bv,bw,rfl,aX,aY,I⟩
  have bx:=bf.trans I
  refine W.run 1 rfl (W.a (.extract (v:= .agg #[.slice bt ((digs ((lowF 0 1).n)).length) bu,.slice bv ((digs ((lowF 0 1).d)).length) bw]) rfl rfl) ?_)
  refine W.run 1 rfl (W.ef rfl rfl rfl (Ef.allocA z61 fun bz cy cz (bA:Blk cy bz 61 #[.slice none 0 0,.slice none 0 0]) J=>(W.sA sz61 rfl rfl bA ?_)))
  intro bB aG K
  have aG:Blk bB bz 61 #[.slice bt ((digs ((lowF 0 1).n)).length) bu,.slice bv ((digs ((lowF 0 1).d)).length) bw]:=aG
  refine W.run 1 rfl (W.nx (WC.sr (W.cl go39 rfl rfl (fof_ok 1 1 bB (by omega) (by omega) (by omega)) ?_)))
  rintro _ ds ⟨bC,bD,bE,bF,rfl,bG,bH,D⟩
  have bI:=((bx.trans J).tb K bx cz).trans D
  refine W.run 1 rfl (W.a (.extract (v:= .agg #[.slice bC ((digs ((lowF 1 1).n)).length) bD,.slice bE ((digs ((lowF 1 1).d)).length) bF]) rfl rfl) ?_)
  refine W.run 1 rfl (W.ef rfl rfl rfl (Ef.allocA z61 fun bJ cA cB (bK:Blk cA bJ 61 #[.slice none 0 0,.slice none 0 0]) Y=>(W.sA sz61 rfl rfl bK ?_)))
  intro bL aZ Z
  have aZ:Blk bL bJ 61 #[.slice bC ((digs ((lowF 1 1).n)).length) bD,.slice bE ((digs ((lowF 1 1).d)).length) bF]:=aZ
  refine W.run 1 rfl (W.nx (WC.sr (W.run 4 rfl (W.g (Any.rd (.dec (.eql rfl rfl) (dT (by rw[List.take_of_length_le (by omega)];exact hA.sum))) _) ?_))))
  refine W.run 3 rfl (W.g (.len underlying31 rfl) ?_)
  refine W.run 1 rfl (W.g (Any.rd (.dec (.leq rfl rfl) (dT (by omega))) _) ?_)
  refine W.run 2 rfl ?_
  have bM:=((((ay.le (I.trans J)).cn K (by have:=ay.lt;have:=I.size;omega)).le (D.trans Y)).cn Z (by have:=ay.lt;have:=I.size;have:=J.size;have:=K.size;have:=D.size;omega))
  refine W.g (.loadAll ag61 (by rfl) rfl bM) ?_
  have bN:=((((az.le (I.trans J)).ch K (fun q hq=>by cases hq;exact(fun he=>by have:=(az.row he).2;have:=I.size;omega))).le (D.trans Y)).ch Z (fun q hq=>by cases hq;exact(fun he=>by have:=(az.row he).2;have:=I.size;have:=J.size;have:=K.size;have:=D.size;omega)))
  have bO:=((((aA.le (I.trans J)).ch K (fun q hq=>by cases hq;exact(fun he=>by have:=(aA.row he).2;have:=I.size;omega))).le (D.trans Y)).ch Z (fun q hq=>by cases hq;exact(fun he=>by have:=(aA.row he).2;have:=I.size;have:=J.size;have:=K.size;have:=D.size;omega)))
  refine W.efg rfl rfl rfl (rfl) rfl rfl (Ef.call go40 rfl rfl ((by have q:=frcright_ok (cn:=R) (cd:=S) bL bN.vec bO.vec (by omega) (by omega);rw[show okB b.2.1.n b.2.1.d=true from okB_iff.2 hA.okf]at q;exact q)) ?_)
  rintro _ cC ⟨rfl,Q⟩
  refine⟨_,rfl,?_⟩
  refine W.run 2 rfl ?_
  have bP:=(bM.le Q)
  refine W.g (.loadAll ag61 (by rfl) rfl bP) ?_
  refine W.g (.loadAll ag61 (by rfl) rfl (((aG.le (D.trans Y)).cn Z (by have:=aG.lt;have:=D.size;omega)).le Q)) ?_
  have bQ:=(bN.le Q)
  have bR:=(bO.le Q)
  have cD:=(((((aX.le J).ch K (fun q hq=>by cases hq;exact(fun he=>by have:=(aX.row he).2;omega))).le (D.trans Y)).ch Z (fun q hq=>by cases hq;exact(fun he=>by have:=(aX.row he).2;have:=J.size;have:=K.size;have:=D.size;omega))).le Q)
  have cE:=(((((aY.le J).ch K (fun q hq=>by cases hq;exact(fun he=>by have:=(aY.row he).2;omega))).le (D.trans Y)).ch Z (fun q hq=>by cases hq;exact(fun he=>by have:=(aY.row he).2;have:=J.size;have:=K.size;have:=D.size;omega))).le Q)
  refine W.efg rfl rfl rfl (rfl) rfl rfl (Ef.call go41 rfl rfl (fcmp_ok cC bQ.vec bR.vec (by omega) (by omega) cD.vec cE.vec (by omega) (by omega)) ?_)
  rintro _ cF ⟨rfl,ai⟩
  refine⟨_,rfl,?_⟩
  refine W.g (Any.rd (.dec (.gtr rfl rfl) (dT (cmp_pos hA.okf hA.pos))) _) ?_
  refine W.run 2 rfl (W.g (.loadAll ag61 (by rfl) rfl (bP.le ai)) ?_)
  refine W.g (.loadAll ag61 (by rfl) rfl (aZ.le (Q.trans ai))) ?_
  have cG:=(((bG.le Y).ch Z (fun q hq=>by cases hq;exact(fun he=>by have:=(bG.row he).2;omega))).le (Q.trans ai))
  have cH:=(((bH.le Y).ch Z (fun q hq=>by cases hq;exact(fun he=>by have:=(bH.row he).2;omega))).le (Q.trans ai))
  refine W.efg rfl rfl rfl (rfl) rfl rfl (Ef.call go41 rfl rfl (fcmp_ok cF (bQ.le ai).vec (bR.le ai).vec (by omega) (by omega) cG.vec cH.vec (by omega) (by omega)) ?_)
  rintro _ cI ⟨rfl,a0⟩
  refine⟨_,rfl,?_⟩
  refine W.g (Any.rd (.dec (.leq rfl rfl) (dT (cmp_one hA.okf hA.le1))) _) ?_
  refine W.run 3 rfl ?_
  have cJ:=(((((ax.le (I.trans J)).ch K (fun q hq=>by cases hq;exact(fun he=>by have:=(ax.row he).2;have:=I.size;omega))).le (D.trans Y)).ch Z (fun q hq=>by cases hq;exact(fun he=>by have:=(ax.row he).2;have:=I.size;have:=J.size;have:=K.size;have:=D.size;omega))).le (Q.trans (ai.trans a0)))
  refine W.efg rfl rfl rfl (rfl) rfl rfl (Ef.call go42 rfl rfl (sptotal_ok (c:=af) cI cJ.vec (((((bh.le (I.trans J)).chB K bA (by decide) (by decide)).le (D.trans Y)).chB Z bK (by decide) (by decide)).le (Q.trans (ai.trans a0))) (by omega) hA.tot) ?_)
  rintro _ du ⟨rfl,cK⟩
  refine⟨_,rfl,?_⟩
  refine W.run 1 rfl (W.g (Any.rd (.dec (.eql rfl rfl) (dT (by rw[List.take_of_length_le (by omega)]))) _) ?_)
  refine W.run 2 rfl (W.nx (WC.ret (E.retG1 rfl rfl ?_)))
  exact⟨rfl,((((((bI.trans Y).tb Z bI cB).trans Q).trans ai).trans a0).trans cK)⟩
 refine WC.condY rfl (congrArg not ((Bool.eq_false_iff.2 c0))) (WC.sr (W.run 2 rfl (W.nx (WC.ret (E.thenR (E.retG1 rfl rfl ?_))))))
 exact⟨rfl,L2⟩
end Go.Proofs.YtocheaahlpiajaaGreatDoor

