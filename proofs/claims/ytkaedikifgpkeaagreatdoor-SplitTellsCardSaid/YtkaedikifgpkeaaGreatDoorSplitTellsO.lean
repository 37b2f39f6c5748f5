/- SplitTells: for every input the law answers true and leaves its arguments as they were. -/
import Derived.Test.YtkaedikifgpkeaaGreatDoorSplitTellsN
set_option linter.unusedVariables false
set_option linter.unusedSimpArgs false
namespace Go.Proofs.YtkaedikifgpkeaaGreatDoor
open Tryz
open Go Go.Sx Go.Num Go.fO Go.oF Go.uI
set_option maxRecDepth 20000
theorem CP (e:fO.Edge)(w:World):Calls prog 83 #[.agg (fD e).toArray] w fun r w'=>r= .returned (.agg (sZ (nK e)).toArray)/\Le w w':=by
 refine enter func83 rfl rfl (Sr (W.ef rfl rfl rfl (Ef.iM rfl fun j k y (l:fA k j 66 (fD e).toArray) m=>?_)))
 have d:=(Le.refl w).trans m
 refine W.ef rfl rfl rfl (Ef.fI Tt fun f n o (s:fA n f 112 (sZ XC).toArray) h=>(Nx (Sr (Wa (.eZ jK rfl) rfl ?_))))
 have i:=(l.le h)
 refine Wr (.fe (v:= .int .i64 e.t) gM rfl i rfl) rfl (Wa (.eZ iY rfl) rfl (Wr (.fe (v:= .int .i64 e.c) gM rfl i rfl) rfl (Wa (.gF (sZ (⟨e.t,e.c⟩:Wy)) VM Tt rfl rfl) rfl (W.iO rfl rfl (Ef.storeAll PS (by rfl) rfl rfl s (by simp only[List.size_toArray,AU.len]) (AU.one (⟨e.t,e.c⟩:Wy)) ?_)))))
 intro u b x
 have b:fA u f 112 (sZ (⟨e.t,e.c⟩:Wy)).toArray:=b
 refine Nx (Rt (E.fu rfl (iB rfl b PT (by rfl)) ?_))
 exact⟨rfl,((d.trans h).tb x d o)⟩

theorem Uy {gp gm ca:Nat}{la:Un}(e:fO.Edge)(a:Int)(w:World)(hp0:fA w gp 102 #[.map (some gm)])(hM0:kM w zh IX gm la ca)(hg:∀k v,gB k la=some v->j3 v)(n1:gp≠gm):Calls prog 36 #[.pointer (some ⟨gp,0,none⟩),.agg (fD e).toArray,.int .i64 (a)] w fun r w'=>r= .returned (.tuple #[])/\∃la' Q3,kM w' zh IX gm la' Q3/\(∀k,gB k la'=qY (fun k=>gB k la) e a k)/\jU w w' (fun k=>k=gm):=by
 refine enter func36 rfl rfl (Sr (W.ef rfl rfl rfl (Ef.iM rfl fun ap ab a4 (ac:fA ab ap 66 (fD e).toArray) d=>(Nx (Sq (Sr (Wr (.fB iJ (by rfl) rfl ac) rfl ?_)))))))
 refine Wn 1 rfl (W.cl WM rfl rfl (Co e a ab) ?_)
 rintro _ a5 ⟨rfl,c⟩
 have L2:=((jU.refl w (fun k=>k=gm)).le d).le c
 refine Wn 1 rfl (Nx ?_)
 by_cases T:(jJ e a)=true
 ·refine Cn rfl (congrArg not T) ?_
  have hsm:=l9 (by assumption:jJ e a=true)
  have hmz:=lv hsm.1
  refine Sn (Sq (WC.XM [0,1,3,4,6,7,9,10] [2,5,8,11,12,13] [14,15] (fun i=>bif Nat.beq i 5 then[2]else bif Nat.beq i 11 then[8]else[]) mixed (by kernel_rfl) fun t f=>?_))
  have U:=L2.le f
  refine Gn 1 rfl ?_
  have z:=(ac.le (c.trans f))
  refine Gd rfl (.fB iJ (by rfl) rfl z) ?_
  refine Ga rfl (.eZ iF rfl) (Gd rfl (.fe (v:= .int .i64 e.r) gM rfl z rfl) (Gn 1 rfl (Gd rfl (.fB iJ (by rfl) rfl z) ?_)))
  refine Ga rfl (.eZ iF rfl) (Gd rfl (.fe (v:= .int .i64 e.r) gM rfl z rfl) (G.nil ?_))
  refine E.free ⟨by rfl,fun i=>(bif Nat.beq i 2 then(fun v _=>v= .agg (sZ (iC e)).toArray)else(bif Nat.beq i 5 then(fun v _=>v= .agg (rG (cnt (gB (iC e) la) e.r)).toArray)else(bif Nat.beq i 8 then(fun v _=>v= .agg (sZ (nK e)).toArray)else(bif Nat.beq i 11 then(fun v _=>v= .agg (rG (cnt (gB (nK e) la) e.r)).toArray)else(bif Nat.beq i 12 then(fun v w'=>∃g,v= .pointer (some ⟨g,0,none⟩)/\fA w' g 109 (rG DJ).toArray)else(bif Nat.beq i 13 then(fun v w'=>∃g,v= .pointer (some ⟨g,0,none⟩)/\fA w' g 109 (rG DJ).toArray)else(fun _ _=>True))))))),?_,?_,?_⟩
  ·intro i hi v o t hv hle
   simp only[List.mem_cons,List.not_mem_nil,or_false]at hi
   rcases hi with rfl|rfl|rfl|rfl|rfl|rfl
   ·exact hv
   ·exact hv
   ·exact hv
   ·exact hv
   ·obtain⟨g,V,l⟩:=hv;exact⟨g,V,l.le hle⟩
   obtain⟨g,V,l⟩:=hv;exact⟨g,V,l.le hle⟩
  ·intro i hi
   simp only[List.mem_cons,List.not_mem_nil,or_false]at hi
   rcases hi with rfl|rfl|rfl|rfl|rfl|rfl
   ·refine Step.JN rfl rfl fun o hle=>(Ef.call Kg rfl rfl (oq e o) ?_)
    rintro _ t ⟨rfl,l⟩
    exact⟨_,rfl,l,rfl,fun k hk=>hk.elim⟩
   ·refine Step.Ta (j:=2) rfl rfl rfl fun v o hle (hv:v= .agg (sZ (iC e)).toArray)=>?_
    subst hv
    refine Ef.call P5 rfl rfl (Cq (iC e) e.r o (hp0.le (d.trans (c.trans (f.trans hle)))) (hM0.le (d.trans (c.trans (f.trans hle)))) hg (by omega) (by omega)) ?_
    rintro _ t ⟨rfl,l⟩
    exact⟨_,rfl,l,rfl,fun k hk=>hk.elim⟩
   ·refine Step.JN rfl rfl fun o hle=>(Ef.call WO rfl rfl (CP e o) ?_)
    rintro _ t ⟨rfl,l⟩
    exact⟨_,rfl,l,rfl,fun k hk=>hk.elim⟩
   ·refine Step.Ta (j:=8) rfl rfl rfl fun v o hle (hv:v= .agg (sZ (nK e)).toArray)=>?_
    subst hv
    refine Ef.call P5 rfl rfl (Cq (nK e) e.r o (hp0.le (d.trans (c.trans (f.trans hle)))) (hM0.le (d.trans (c.trans (f.trans hle)))) hg (by omega) (by omega)) ?_
    rintro _ t ⟨rfl,l⟩
    exact⟨_,rfl,l,rfl,fun k hk=>hk.elim⟩
   ·refine Step.JN rfl rfl ?_;intro o hle;refine Ef.fI z109 ?_;intro g t hg b l;exact⟨l,⟨g,rfl,b⟩,fun k hk=>(show g=k from hk)▸⟨hg,b.lt⟩⟩
   refine Step.JN rfl rfl ?_;intro o hle;refine Ef.fI z109 ?_;intro g t hg b l;exact⟨l,⟨g,rfl,b⟩,fun k hk=>(show g=k from hk)▸⟨hg,b.lt⟩⟩
  intro DI W_2 h_2 nR u6 Q4
  have aq:DI 2= .agg (sZ (iC e)).toArray:=nR 2 (by decide)
  have ar:DI 5= .agg (rG (cnt (gB (iC e) la) e.r)).toArray:=nR 5 (by decide)
  have au:DI 8= .agg (sZ (nK e)).toArray:=nR 8 (by decide)
  have av:DI 11= .agg (rG (cnt (gB (nK e) la) e.r)).toArray:=nR 11 (by decide)
  obtain⟨F,X,aw⟩:=nR 12 (by decide)
  have ax:t.heap.size<=F:=(u6 12 (by decide) F (by rw[X];rfl)).1
  obtain⟨J,Y,ay⟩:=nR 13 (by decide)
  have az:t.heap.size<=J:=(u6 13 (by decide) J (by rw[Y];rfl)).1
  have ad:F≠J:=fun h=>Q4 12 (by decide) 13 (by decide) (by decide) F (by rw[X];rfl) (by rw[Y,h];rfl)
  show G _ _ _ _ _ ((15,DI 2)::(18,DI 5)::(21,DI 8)::(24,DI 11)::(6,DI 12)::(7,DI 13)::_) _
  rw[aq,ar,au,av,X,Y]
  have aA:=U.le h_2
  have aB:=yt (fun n hn=>hg (iC e) n hn) (show 0<e.r by omega) (show e.r<=1125899906842624 by omega)
  unfold j3 at aB
  have aC:=yt (fun n hn=>hg (nK e) n hn) (show 0<e.r by omega) (show e.r<=1125899906842624 by omega)
  unfold j3 at aC
  refine G.iO rfl rfl rfl rfl (Ef.storeAll vQ (by rfl) rfl rfl aw (by simp only[List.size_toArray,jE.len]) (jE.one (cnt (gB (iC e) la) e.r)) ?_)
  intro ae Z C
  refine noT (by kernel_rfl) ?_
  have Z:fA ae F 109 (rG (cnt (gB (iC e) la) e.r)).toArray:=Z
  have aE:jU w ae (fun k=>k=gm):=aA.ch C (fun i hi hlt=>by cases hi;exact absurd hlt (by have:=U.size;have:=ax;omega))
  refine G.iO rfl rfl rfl rfl (Ef.storeAll vQ (by rfl) rfl rfl (ay.ch C (fun h=>ad (oI h))) (by simp only[List.size_toArray,jE.len]) (jE.one (cnt (gB (nK e) la) e.r)) ?_)
  intro af K D
  refine noT (by kernel_rfl) ?_
  have K:fA af J 109 (rG (cnt (gB (nK e) la) e.r)).toArray:=K
  have aF:jU w af (fun k=>k=gm):=aE.ch D (fun i hi hlt=>by cases hi;exact absurd hlt (by have:=U.size;have:=az;omega))
  refine G.nil (E.eY (Sr (Wa (.eZ pE rfl) rfl ?_)))
  have ah:=(Z.ch D (fun h=>(Ne.symm ad) (oI h)))
  refine Wr (.fe (v:= .int .i64 ((cnt (gB (iC e) la) e.r).lo)) gM rfl ah rfl) rfl (Wn 1 rfl (Wa (.sub rfl rfl (by omega)) rfl (Wr (.max2 rfl rfl) rfl (Wn 1 rfl (Nx (Sq (WC.draw [0,1,2,3,4,6,7,8,9,10,11,12,13,14,15,16,5,17] mixed (by kernel_rfl) ?_)))))))
  intro w4 x
  refine Gn 1 rfl (Ga rfl (.nilCheck rfl) (Ga rfl (.eZ su rfl) ?_))
  have aa:=((((hp0.le (d.trans (c.trans (f.trans h_2)))).cn C (by have:=hp0.lt;have:=d.size;have:=c.size;have:=f.size;omega)).cn D (by have:=hp0.lt;have:=d.size;have:=c.size;have:=f.size;omega)).le x)
  refine Gd rfl (.fe (v:= .map (some gm)) BP rfl aa rfl) ?_
  have L:=((((z.le h_2).cn C (by have:=z.lt;omega)).cn D (by have:=z.lt;omega)).le x)
  refine Gd rfl (.fB iJ (by rfl) rfl L) ?_
  refine Gn 1 rfl (Ga rfl (.eZ qK rfl) (Gd rfl (.fe (v:= .int .i64 ((cnt (gB (iC e) la) e.r).hi)) gM rfl (ah.le x) rfl) (Gn 1 rfl (Ga rfl (.sub rfl rfl (by omega)) (Gn 1 rfl ?_)))))
  refine Ga rfl (.add rfl rfl (by omega)) (Gd rfl (.max2 rfl rfl) (Ga rfl (.eZ iF rfl) (Gd rfl (.fe (v:= .int .i64 e.r) gM rfl L rfl) (Ga rfl (.gF (rG (⟨(max (((cnt (gB (iC e) la) e.r).lo)-a) 0),(max (((cnt (gB (iC e) la) e.r).hi)-a) ((max (((cnt (gB (iC e) la) e.r).lo)-a) 0)+1)),e.r⟩:Nt)) Es z109 rfl rfl) (G.ef rfl rfl rfl rfl rfl ?_)))))
  refine Ef.call Kg rfl rfl (oq e w4) ?_
  rintro _ a6 ⟨rfl,s⟩
  refine⟨_,rfl,?_⟩
  refine⟨fun _=>s,?_⟩
  have ai:=(aF.le x).le s
  rcases optG (gB (iC e) la)with A|⟨a7,A⟩
  ·have aG:=((((hM0.le (d.trans (c.trans (f.trans h_2)))).cn C (by have:=hM0.lt;have:=d.size;have:=c.size;have:=f.size;omega)).cn D (by have:=hM0.lt;have:=d.size;have:=c.size;have:=f.size;omega)).le (x.trans s))
   refine G.iO rfl rfl rfl rfl (Ef.xC (key:=(iC e)) (u:=(⟨(max (((cnt (gB (iC e) la) e.r).lo)-a) 0),(max (((cnt (gB (iC e) la) e.r).hi)-a) ((max (((cnt (gB (iC e) la) e.r).lo)-a) 0)+1)),e.r⟩:Nt)) underlying100 OH rfl rfl rfl aG A fun aH aj N=>(noT (by kernel_rfl) ?_))
   have aI:jU w aH (fun k=>k=gm):=ai.ch N (fun i hi _=>by cases hi;exact rfl)
   refine G.nil (E.eY (WC.draw [0,1,2,3,4,6,7,8,9,10,11,12,13,14,15,16,17,18,19,20,21,22,23,5,24] mixed (by kernel_rfl) fun w5 m=>(Gn 1 rfl (Ga rfl (.nilCheck rfl) (Ga rfl (.eZ su rfl) (Gd rfl (.fe (v:= .map (some gm)) BP rfl (((aa.le s).ch N (fun h=>(Ne.symm n1) (oI h))).le m) rfl) ?_))))))
   have O:=(((L.le s).cn N (by have:=hM0.lt;omega)).le m)
   refine Gd rfl (.fB iJ (by rfl) rfl O) ?_
   refine Ga rfl (.eZ pE rfl) ?_
   have ak:=(((K.le (x.trans s)).cn N (by have:=hM0.lt;have:=d.size;have:=c.size;have:=f.size;omega)).le m)
   refine Gd rfl (.fe (v:= .int .i64 ((cnt (gB (nK e) la) e.r).lo)) gM rfl ak rfl) (Gn 1 rfl (Ga rfl (.add rfl rfl (by omega)) (Ga rfl (.eZ iF rfl) (Gd rfl (.fe (v:= .int .i64 e.r) gM rfl O rfl) (Gd rfl (.min2 rfl rfl) ?_)))))
   refine Ga rfl (.eZ qK rfl) (Gd rfl (.fe (v:= .int .i64 ((cnt (gB (nK e) la) e.r).hi)) gM rfl ak rfl) (Gn 1 rfl (Ga rfl (.add rfl rfl (by omega)) (Ga rfl (.eZ iF rfl) (Gd rfl (.fe (v:= .int .i64 e.r) gM rfl O rfl) ?_)))))
   refine Ga rfl (.add rfl rfl (by omega)) (Gd rfl (.min2 rfl rfl) (Ga rfl (.eZ iF rfl) (Gd rfl (.fe (v:= .int .i64 e.r) gM rfl O rfl) (Ga rfl (.gF (rG (⟨(min (((cnt (gB (nK e) la) e.r).lo)+a) e.r),(min (((cnt (gB (nK e) la) e.r).hi)+a) (e.r+1)),e.r⟩:Nt)) Es z109 rfl rfl) (G.ef rfl rfl rfl rfl rfl ?_)))))
   refine Ef.call WO rfl rfl (CP e w5) ?_
   rintro _ a8 ⟨rfl,P⟩
   refine⟨_,rfl,?_⟩
   refine⟨fun _=>P,?_⟩
   have al:=(aI.le m).le P
   rcases optG (gB (nK e) (la++[(ca,(iC e),(⟨(max (((cnt (gB (iC e) la) e.r).lo)-a) 0),(max (((cnt (gB (iC e) la) e.r).hi)-a) ((max (((cnt (gB (iC e) la) e.r).lo)-a) 0)+1)),e.r⟩:Nt))]))with H|⟨a9,H⟩
   ·have aJ:=(aj.le (m.trans P))
    refine G.iO rfl rfl rfl rfl (Ef.xC (key:=(nK e)) (u:=(⟨(min (((cnt (gB (nK e) la) e.r).lo)+a) e.r),(min (((cnt (gB (nK e) la) e.r).hi)+a) (e.r+1)),e.r⟩:Nt)) underlying100 OH rfl rfl rfl aJ H fun aK aL aM=>(noT (by kernel_rfl) ?_))
    have aO:jU w aK (fun k=>k=gm):=al.ch aM (fun i hi _=>by cases hi;exact rfl)
    refine G.nil (E.end_ (E.nO rfl ?_))
    have hf:qY (fun k=>gB k la) e a=nV (nV (fun k=>gB k la) (iC e) (zy e a (ofM (fun k=>gB k la) (iC e) e.r))) (nK e) (zA e a (ofM (fun k=>gB k la) (nK e) e.r)):=if_pos (by assumption)
    rw[hf]
    exact⟨rfl,_,_,aL,fun k=>by rw[pQ H,pQ A];rfl,aO⟩
   refine G.iO rfl rfl rfl rfl (Ef.xD (key:=(nK e)) (u:=(⟨(min (((cnt (gB (nK e) la) e.r).lo)+a) e.r),(min (((cnt (gB (nK e) la) e.r).hi)+a) (e.r+1)),e.r⟩:Nt)) underlying100 OH rfl rfl rfl (aj.le (m.trans P)) xK H fun aP aQ aR=>(noT (by kernel_rfl) ?_))
   have aS:jU w aP (fun k=>k=gm):=al.ch aR (fun i hi _=>by cases hi;exact rfl)
   refine G.nil (E.end_ (E.nO rfl ?_))
   have hf:qY (fun k=>gB k la) e a=nV (nV (fun k=>gB k la) (iC e) (zy e a (ofM (fun k=>gB k la) (iC e) e.r))) (nK e) (zA e a (ofM (fun k=>gB k la) (nK e) e.r)):=if_pos (by assumption)
   rw[hf]
   exact⟨rfl,_,_,aQ,fun k=>by rw[rD ⟨_,H⟩,pQ A];rfl,aS⟩
  refine G.iO rfl rfl rfl rfl (Ef.xD (key:=(iC e)) (u:=(⟨(max (((cnt (gB (iC e) la) e.r).lo)-a) 0),(max (((cnt (gB (iC e) la) e.r).hi)-a) ((max (((cnt (gB (iC e) la) e.r).lo)-a) 0)+1)),e.r⟩:Nt)) underlying100 OH rfl rfl rfl ((((hM0.le (d.trans (c.trans (f.trans h_2)))).cn C (by have:=hM0.lt;have:=d.size;have:=c.size;have:=f.size;omega)).cn D (by have:=hM0.lt;have:=d.size;have:=c.size;have:=f.size;omega)).le (x.trans s)) xK A ?_)
  intro aT am Q
  refine noT (by kernel_rfl) ?_
  have aU:jU w aT (fun k=>k=gm):=ai.ch Q (fun i hi _=>by cases hi;exact rfl)
  refine G.nil (E.eY (WC.draw [0,1,2,3,4,6,7,8,9,10,11,12,13,14,15,16,17,18,19,20,21,22,23,5,24] mixed (by kernel_rfl) fun w5 m=>(Gn 1 rfl (Ga rfl (.nilCheck rfl) (Ga rfl (.eZ su rfl) (Gd rfl (.fe (v:= .map (some gm)) BP rfl (((aa.le s).ch Q (fun h=>(Ne.symm n1) (oI h))).le m) rfl) ?_))))))
  have R:=(((L.le s).cn Q (by have:=hM0.lt;omega)).le m)
  refine Gd rfl (.fB iJ (by rfl) rfl R) ?_
  refine Ga rfl (.eZ pE rfl) ?_
  have an:=(((K.le (x.trans s)).cn Q (by have:=hM0.lt;have:=d.size;have:=c.size;have:=f.size;omega)).le m)
  refine Gd rfl (.fe (v:= .int .i64 ((cnt (gB (nK e) la) e.r).lo)) gM rfl an rfl) (Gn 1 rfl (Ga rfl (.add rfl rfl (by omega)) (Ga rfl (.eZ iF rfl) (Gd rfl (.fe (v:= .int .i64 e.r) gM rfl R rfl) (Gd rfl (.min2 rfl rfl) ?_)))))
  refine Ga rfl (.eZ qK rfl) (Gd rfl (.fe (v:= .int .i64 ((cnt (gB (nK e) la) e.r).hi)) gM rfl an rfl) (Gn 1 rfl (Ga rfl (.add rfl rfl (by omega)) (Ga rfl (.eZ iF rfl) (Gd rfl (.fe (v:= .int .i64 e.r) gM rfl R rfl) ?_)))))
  refine Ga rfl (.add rfl rfl (by omega)) (Gd rfl (.min2 rfl rfl) (Ga rfl (.eZ iF rfl) (Gd rfl (.fe (v:= .int .i64 e.r) gM rfl R rfl) (Ga rfl (.gF (rG (⟨(min (((cnt (gB (nK e) la) e.r).lo)+a) e.r),(min (((cnt (gB (nK e) la) e.r).hi)+a) (e.r+1)),e.r⟩:Nt)) Es z109 rfl rfl) (G.ef rfl rfl rfl rfl rfl ?_)))))
  refine Ef.call WO rfl rfl (CP e w5) ?_
  rintro _ ba ⟨rfl,S⟩
  refine⟨_,rfl,?_⟩
  refine⟨fun _=>S,?_⟩
  have ao:=(aU.le m).le S
  rcases optG (gB (nK e) (la.map fun y=>if y.2.1=(iC e)then(y.1,(iC e),(⟨(max (((cnt (gB (iC e) la) e.r).lo)-a) 0),(max (((cnt (gB (iC e) la) e.r).hi)-a) ((max (((cnt (gB (iC e) la) e.r).lo)-a) 0)+1)),e.r⟩:Nt))else y))with I|⟨bb,I⟩
  ·have aV:=(am.le (m.trans S))
   refine G.iO rfl rfl rfl rfl (Ef.xC (key:=(nK e)) (u:=(⟨(min (((cnt (gB (nK e) la) e.r).lo)+a) e.r),(min (((cnt (gB (nK e) la) e.r).hi)+a) (e.r+1)),e.r⟩:Nt)) underlying100 OH rfl rfl rfl aV I fun aW aX aY=>(noT (by kernel_rfl) ?_))
   have aZ:jU w aW (fun k=>k=gm):=ao.ch aY (fun i hi _=>by cases hi;exact rfl)
   refine G.nil (E.end_ (E.nO rfl ?_))
   have hf:qY (fun k=>gB k la) e a=nV (nV (fun k=>gB k la) (iC e) (zy e a (ofM (fun k=>gB k la) (iC e) e.r))) (nK e) (zA e a (ofM (fun k=>gB k la) (nK e) e.r)):=if_pos (by assumption)
   rw[hf]
   exact⟨rfl,_,_,aX,fun k=>by rw[pQ I,rD ⟨_,A⟩];rfl,aZ⟩
  refine G.iO rfl rfl rfl rfl (Ef.xD (key:=(nK e)) (u:=(⟨(min (((cnt (gB (nK e) la) e.r).lo)+a) e.r),(min (((cnt (gB (nK e) la) e.r).hi)+a) (e.r+1)),e.r⟩:Nt)) underlying100 OH rfl rfl rfl (am.le (m.trans S)) xK I fun a0 a1 a2=>(noT (by kernel_rfl) ?_))
  have a3:jU w a0 (fun k=>k=gm):=ao.ch a2 (fun i hi _=>by cases hi;exact rfl)
  refine G.nil (E.end_ (E.nO rfl ?_))
  have hf:qY (fun k=>gB k la) e a=nV (nV (fun k=>gB k la) (iC e) (zy e a (ofM (fun k=>gB k la) (iC e) e.r))) (nK e) (zA e a (ofM (fun k=>gB k la) (nK e) e.r)):=if_pos (by assumption)
  rw[hf]
  exact⟨rfl,_,_,a1,fun k=>by rw[rD ⟨_,I⟩,rD ⟨_,A⟩];rfl,a3⟩
 refine Cy rfl (congrArg not (Bool.eq_false_iff.2 T)) (Rt (E.eX (E.nO rfl ?_)))
 have hf:qY (fun k=>gB k la) e a=(fun k=>gB k la):=if_neg (by simp[T])
 rw[hf]
 exact⟨rfl,_,_,(hM0.le (d.trans c)),fun k=>rfl,L2⟩

theorem Rb {w:World}{base gp:Nat}{F:Nat->Prop}{m:MF}(e:fO.Edge)(a:Int)(h:iN w base gp F m):Calls prog 36 #[.pointer (some ⟨gp,0,none⟩),.agg (fD e).toArray,.int .i64 a] w (KD w base gp F (qY m e a)):=by
  obtain⟨gm,la,ca,c,j,rfl,d,b,f,l,n⟩:=h
  refine Calls.mono (Uy e a w c j (EC d) b) ?_
  rintro r w' ⟨hr,la',Q3,k1,k2,i⟩
  exact⟨hr,⟨gm,la',Q3,c.iQ i b,k1,funext k2,EK d e a,b,f,l,n⟩,fun k hk=> .inl hk,i.mono fun k hk _=>(f k).2 (.inr hk)⟩
end Go.Proofs.YtkaedikifgpkeaaGreatDoor

namespace Go.tH
open Go.fO Go.oF Go.uI Go.Proofs.YtkaedikifgpkeaaGreatDoor
variable {g:List fO.Edge}{m:MF}{fr to a x:Int}
theorem qp {α:Type}{l:List α}{z:α}{k:Nat}(h:k<l.length):l.getD k z∈l:=by
  have:l.getD k z=l[k]:=by simp[List.getD,h]
  rw[this];exact List.getElem_mem h
def hiM (m:MF)(e:fO.Edge):Int:=(ofM m (iC e) e.r).hi
theorem CQ (h:ko g=true){p q:fO.Edge}(hp:p∈g)(hq:q∈g)(hc:p.c=q.c):p=q\/(p.f=q.t/\p.t=q.f/\p.r=q.r):=by
  obtain⟨_,b⟩:=uw h
  obtain⟨i,hi,rfl⟩:=List.mem_iff_getElem.1 hp
  obtain⟨j,hj,rfl⟩:=List.mem_iff_getElem.1 hq
  have ei:g.getD i eO=g[i]:=by simp[List.getD,hi]
  have ej:g.getD j eO=g[j]:=by simp[List.getD,hj]
  rcases Nat.lt_trichotomy i j with k|k|k
  · have:=(b i j k hj).2
    rw[ei,ej]at this
    exact .inr (this hc)
  · subst k;exact .inl rfl
  · have:=(b j i k hi).2
    rw[ei,ej]at this
    obtain⟨k1,k2,d⟩:=this hc.symm
    exact .inr ⟨k2.symm,k1.symm,d.symm⟩
theorem Rc (hm:ic m){y:fO.Edge}{s:Int}(hs:jJ y s=true)(hh:s<hiM m y):
    hiM (qY (lG m y s) y s) y=hiM m y-s/\(∀e:fO.Edge,e.f=y.t->e.c=y.c->e.r=y.r->hiM (qY (lG m y s) y s) e<=hiM m e+s)/\(∀e:fO.Edge,e.c≠y.c->hiM (qY (lG m y s) y s) e=hiM m e):=by
  obtain⟨k,o,u⟩:=l9 hs
  obtain⟨_,_,hft,_,i,j⟩:=lv k
  have ho:=oO hm (iC y) i j
  have hb:=oO hm (nK y) i j
  have hne:nK y≠iC y:=fun h=>hft (congrArg Wy.f h).symm
  have b:lG m y s=nV m (iC y) (wU y s (ofM m (iC y) y.r)):=if_pos hs
  have l:ofM (lG m y s) (iC y) y.r=cnt (some (wU y s (ofM m (iC y) y.r))) y.r:=by rw[b];unfold ofM;rw[yM]
  have n:ofM (lG m y s) (nK y) y.r=ofM m (nK y) y.r:=by rw[b];unfold ofM;rw[qm m _ hne]
  have d:qY (lG m y s) y s=nV (nV (lG m y s) (iC y) (zy y s (ofM (lG m y s) (iC y) y.r))) (nK y) (zA y s (ofM (lG m y s) (nK y) y.r)):=if_pos hs
  refine⟨?_,fun e hf hc hr=>?_,fun e hc=>?_⟩
  · have:ofM (qY (lG m y s) y s) (iC y) y.r=cnt (some (zy y s (cnt (some (wU y s (ofM m (iC y) y.r))) y.r))) y.r:=by
      rw[d,l]
      unfold ofM
      rw[qm _ _ (Ne.symm hne),yM]
    unfold hiM at*
    rw[this]
    generalize ofM m (iC y) y.r=N at*
    unfold j3 at ho
    simp only[cnt,zy,wU]
    omega
  · have hk:iC e=nK y:=by unfold iC nK;rw[hf,hc]
    have:ofM (qY (lG m y s) y s) (iC e) e.r=cnt (some (zA y s (ofM m (nK y) y.r))) y.r:=by
      rw[d,n,hk,hr]
      unfold ofM
      rw[yM]
    unfold hiM at*
    rw[this,hk,hr]
    generalize ofM m (nK y) y.r=N at*
    unfold j3 at hb
    simp only[cnt,zA]
    omega
  · have k1:iC e≠iC y:=fun h=>hc (congrArg Wy.c h)
    have k2:iC e≠nK y:=fun h=>hc (congrArg Wy.c h)
    unfold hiM ofM
    rw[d,qm _ _ k2,qm _ _ k1,b,qm _ _ k1]
def Re (e x:fO.Edge)(s:Int):Int:=if x=e then s else if x.c=e.c then-s else 0
def I5 (e:fO.Edge)(w:List fO.Edge)(s:List Int):Nat->Int
  |0=>0
  |k+1=>I5 e w s k+Re e (w.getD k eO) (s.getD k 0)
theorem Rf (hg:ko g=true){w:List fO.Edge}(hw:nH w=true)(hsub:∀e∈w,e∈g){i j:Nat}(hji:j<i)(hi:i<w.length):(w.getD j eO).c≠(w.getD i eO).c:=by
  intro hc
  have ho:=wR hw hji hi
  have b:w.getD j eO∈g:=hsub _ (qp (z:=eO) (by omega))
  have d:w.getD i eO∈g:=hsub _ (qp (z:=eO) hi)
  rcases CQ hg b d hc with h|h
  · exact ho.1 (congrArg fO.Edge.f h)
  · exact ho.2.2 h.1
theorem CR (hg:ko g=true)(hm:ic m){w:List fO.Edge}{s:List Int}(hw:nH w=true)(hsub:∀e∈w,e∈g)(hs:∀i,i<w.length->jJ (w.getD i eO) (s.getD i 0)=true)(hh:∀i,i<w.length->s.getD i 0<hiM m (w.getD i eO)):
    ∀k,k<=w.length->(∀e∈g,hiM (tq m w s k) e<=hiM m e-I5 e w s k)/\(∀e:fO.Edge,(∀i,i<k->(w.getD i eO).c≠e.c)->hiM (tq m w s k) e=hiM m e)
  |0,_=>⟨fun e _=>by show hiM m e<=hiM m e-0;omega,fun _ _=>rfl⟩
  |k+1,hk=>by
    obtain⟨i1,i2⟩:=CR hg hm hw hsub hs hh k (by omega)
    have hy:=i2 (w.getD k eO) (fun i hi=>Rf hg hw hsub hi (by omega))
    obtain⟨d,f,b⟩:=Rc (sH hm w s k) (hs k (by omega)) (by rw[hy];exact hh k (by omega))
    have my:w.getD k eO∈g:=hsub _ (qp (z:=eO) (by omega))
    refine⟨fun e he=>?_,fun e hc=>?_⟩
    · have ie:=i1 e he
      show hiM (qY (lG (tq m w s k) (w.getD k eO) (s.getD k 0)) (w.getD k eO) (s.getD k 0)) e<=hiM m e-(I5 e w s k+Re e (w.getD k eO) (s.getD k 0))
      unfold Re
      by_cases hc:(w.getD k eO).c=e.c
      · rcases CQ hg he my hc.symm with h|⟨h,h',h''⟩
        · rw[if_pos h.symm,h,d]
          rw[h]at ie
          omega
        · have hn:¬w.getD k eO=e:=fun hq=>by
            have:=(lv (l9 (hs k (by omega))).1).2.2.1
            rw[hq]at this h
            exact this h
          have:=f e h hc.symm h''
          rw[if_neg hn,if_pos hc]
          omega
      · have hn:¬w.getD k eO=e:=fun hq=>hc (by rw[hq])
        rw[if_neg hn,if_neg hc,b e (fun h=>hc h.symm)]
        omega
    · show hiM (qY (lG (tq m w s k) (w.getD k eO) (s.getD k 0)) (w.getD k eO) (s.getD k 0)) e=hiM m e
      rw[b e (fun h=>hc k (Nat.lt_succ_self k) h.symm)]
      exact i2 e (fun i hi=>hc i (by omega))
theorem Uz (hm:ic m){e:fO.Edge}{s:Int}(h:(fE (gN m e s)).n≠0):s<hiM m e:=by
  refine Decidable.byContradiction fun hn=>h ?_
  unfold gN
  split
  · rename_i hg
    simp only[lT,Bool.and_eq_true,decide_eq_true_eq]at hg
    have hb:=wW hm hg.1.1
    have b:(mK m e).2=hiM m e:=by unfold mK;rw[if_pos hg.1.1];rfl
    have hN:Bv m e s=0:=by unfold Bv;omega
    rw[hN,show(0:Int).toNat=0 from rfl,yN (by unfold DK;omega)]
    decide
  · decide
theorem UA (hm:ic m){w:List fO.Edge}(h:mU g m fr to a x w){i:Nat}(hi:i<w.length):(fq w a x).1.getD i 0<hiM m (w.getD i eO):=by
  refine Uz hm fun hz=>h.pos ?_
  rw[CG h.cost,MQ hz w.length hi]
  show 0/_=0
  exact Nat.zero_div _
def yO (e:fO.Edge):List tK->Int
  |[]=>0
  |p::ps=>I5 e p.way p.sent p.way.length+yO e ps
theorem I6 (e:fO.Edge):∀ps qs:List tK,yO e (ps++qs)=yO e ps+yO e qs
  |[],qs=>by show yO e qs=0+yO e qs;omega
  |p::ps,qs=>by
    show _+yO e (ps++qs)=_+yO e ps+yO e qs
    rw[I6 e ps qs];omega
structure MR (g:List fO.Edge)(fr to x:Int)(p:tK):Prop where
  cost:fq p.way p.vX x=(p.sent,p.till,0)
  ne:p.way≠[]
  sub:∀e∈p.way,e∈g
  fst:(p.way.getD 0 eO).f=fr
  VR:(p.way.getD (p.way.length-1) eO).t=to
structure KL (g:List fO.Edge)(fr to x:Int)(s:AV):Prop where
  good:ic s.m
  fQ:okF s.fQ/\0<s.fQ.n/\s.fQ.n<=s.fQ.d
  parts:∀p∈s.out,MR g fr to x p
  net:∀e∈g,hiM s.m e<=e.r+1-yO e s.out
theorem Oh {p q:Fr}(hp:okF p/\0<p.n/\p.n<=p.d)(hq:okF q/\0<q.n/\q.n<=q.d):okF (jW p q)/\0<(jW p q).n/\(jW p q).n<=(jW p q).d:=by
  refine⟨Aj hp.1 hq.1,?_,yL (Nat.mul_le_mul hp.2.2 hq.2.2)⟩
  have b:0<p.n*q.n:=Nat.mul_pos hp.2.1 hq.2.1
  exact Nat.div_pos (Nat.gcd_le_left _ b) (Nat.gcd_pos_of_pos_left _ b)
theorem vg (hm:ic m)(h:(gz g m fr to a x).2.2=0):okF (gz g m fr to a x).2.1/\0<(gz g m fr to a x).2.1.n/\(gz g m fr to a x).2.1.n<=(gz g m fr to a x).2.1.d:=by
  obtain⟨_,b,c,_⟩:=ql hm h
  rw[c]
  refine⟨qj b.ok,Nat.pos_of_ne_zero b.pos,?_⟩
  rw[CG b.cost]
  exact yL (KF hm _ _ _)
theorem UB {s t:AV}(h:KL g fr to x s){share:Int}(hs:oK g fr to x (some s) share=some t):KL g fr to x t/\∃p,t.out=s.out++[p]/\p.vX=share:=by
  unfold oK at hs
  simp only at hs
  split at hs
  · rename_i b
    cases hs
    obtain⟨hbad,hc,_,_⟩:=ql h.good b
    have hrg:=(zm hbad).1
    refine⟨⟨sH h.good _ _ _,Oh h.fQ (vg h.good b),fun p hp=>?_,fun e he=>?_⟩,_,rfl,rfl⟩
    · rcases List.mem_append.1 hp with hp|hp
      · exact h.parts p hp
      · rw[List.mem_singleton.1 hp]
        exact⟨Prod.ext rfl (Prod.ext rfl hc.cost),hc.ne,hc.sub,hc.fst,hc.VR⟩
    · have k:=(CR hrg h.good hc.way hc.sub (fun i hi=>mU.some hc.cost hi) (fun i hi=>UA h.good hc hi) _ (Nat.le_refl _)).1 e he
      have k2:=h.net e he
      rw[I6]
      show _<=e.r+1-(yO e s.out+(I5 e _ _ _+0))
      simp only
      omega
  · cases hs
theorem MS (hm:ic m){e:fO.Edge}(he:edgeOk e=true):1<=hiM m e/\hiM m e<=e.r+1:=by
  have hr:=(lK he).2.2.2.2.1
  have:=(oO hm (iC e) (show 0<e.r by omega) hr.2)
  unfold j3 at this
  unfold hiM
  omega
theorem qw:∀l:List Int,l.foldl (oK g fr to x) none=none
  |[]=>rfl
  |_::l=>qw l
theorem I7:∀(l:List Int) {s t:AV},KL g fr to x s->l.foldl (oK g fr to x) (some s)=some t->KL g fr to x t/\t.out.map (·.vX)=s.out.map (·.vX)++l
  |[],s,t,h,ht=>by cases ht;exact⟨h,by simp⟩
  |y::l,s,t,h,ht=>by
    rw[List.foldl_cons]at ht
    cases hq:oK g fr to x (some s) y with
    |none=>rw[hq,qw]at ht;cases ht
    |some u=>
      rw[hq]at ht
      obtain⟨h1,p,h2,h3⟩:=UB h hq
      obtain⟨k1,k2⟩:=I7 l h1 ht
      refine⟨k1,?_⟩
      rw[k2,h2,List.map_append,List.append_assoc]
      simp[h3]
def yP:List Int->Int
  |[]=>0
  |y::l=>y+yP l
theorem I8:∀l k:List Int,yP (l++k)=yP l+yP k
  |[],k=>by show yP k=0+yP k;omega
  |y::l,k=>by
    show y+yP (l++k)=y+yP l+yP k
    rw[I8 l k];omega
theorem CS (q r:Int)(hr:0<=r):∀k:Nat,yP ((List.range k).map fun i:Nat=>q+(if(i:Int)<r then 1 else 0))=k*q+min (k:Int) r
  |0=>by show(0:Int)=((0:Nat):Int)*q+_;simp;omega
  |k+1=>by
    rw[List.range_succ,List.map_append,I8,CS q r hr k]
    have e:((k+1:Nat):Int)*q=k*q+q:=by rw[show((k+1:Nat):Int)=(k:Int)+1 by omega,Int.add_mul];omega
    rw[e]
    generalize (k:Int)*q=z
    show z+min (k:Int) r+((q+if(k:Int)<r then 1 else 0)+0)=_
    split<;>omega
theorem qx {a n:Int}(h1:1<=n)(h2:n<=8)(h3:n<=a):(fw a n).length=n.toNat/\yP (fw a n)=a/\(∀i,i<n.toNat->(fw a n).getD i 0=kX a n i)/\fw a n≠[]:=by
  have e:fw a n=(List.range n.toNat).map (kX a n):=by unfold fw;rw[if_neg (by omega)]
  rw[e]
  refine⟨by simp,?_,fun i hi=>by simp[List.getD,hi],fun hh=>by have:=congrArg List.length hh;simp at this;omega⟩
  have hm:=Int.emod_nonneg a (show n≠0 by omega)
  have hl:=Int.emod_lt_of_pos a (show 0<n by omega)
  have k:=CS (a/n) (a%n) hm n.toNat
  have hd:=Int.mul_ediv_add_emod a n
  have hn:((n.toNat:Nat):Int)=n:=by omega
  rw[hn]at k
  show yP ((List.range n.toNat).map fun i:Nat=>a/n+(if(i:Int)<a%n then 1 else 0))=a
  rw[k,show min n (a%n)=a%n by omega]
  exact hd
theorem Rh:okF (⟨1,1⟩:Fr)/\0<(⟨1,1⟩:Fr).n/\(⟨1,1⟩:Fr).n<=(⟨1,1⟩:Fr).d:=by unfold okF;decide
theorem Oi (hm:ic m)(hg:ko g=true):KL g fr to x ⟨[],⟨1,1⟩,m⟩:=⟨hm,Rh,(fun p hp=>by cases hp),fun e he=>by
  obtain⟨i,hi,rfl⟩:=List.mem_iff_getElem.1 he
  have:=MS hm (e:=g[i]) (by have:=(uw hg).1 i hi;rwa [show g.getD i eO=g[i] by simp[List.getD,hi]]at this)
  show hiM m g[i]<=g[i].r+1-0
  omega⟩
theorem yQ (hm:ic m){n:Int}:(jk g m fr to a x n=([],⟨0,0⟩,1)/\(n<1\/8<n\/(gz g m fr to a x).2.2=1))\/(jk g m fr to a x n=([],⟨0,0⟩,19)/\1<=n/\n<=8/\(gz g m fr to a x).2.2≠1)\/
    (∃s:AV,jk g m fr to a x n=(s.out,s.fQ,0)/\KL g fr to x s/\s.out.map (·.vX)=fw a n/\1<=n/\n<=8/\n<=a/\(gz g m fr to a x).2.2≠1):=by
  unfold jk
  split
  · rename_i h;exact .inl ⟨rfl,h⟩
  · rename_i h
    have hb:mR g fr to a x=false:=by
      cases hb:mR g fr to a x
      · rfl
      · exact absurd (by rw[iT hb]) (fun hh=>h (.inr (.inr hh)))
    split
    · exact .inr (.inl ⟨rfl,by omega,by omega,fun hh=>h (.inr (.inr hh))⟩)
    · rename_i s hs
      split at hs
      · rw[qw]at hs;cases hs
      · rename_i hne
        obtain⟨k1,k2⟩:=I7 _ (Oi hm (zm hb).1) hs
        refine .inr (.inr ⟨s,rfl,k1,k2,by omega,by omega,?_,fun hh=>h (.inr (.inr hh))⟩)
        refine Decidable.byContradiction fun hna=>hne ?_
        unfold fw
        rw[if_pos (by omega)]
theorem yR (hm:ic m):∀k:Nat,((List.range k).foldl (nW g m fr to a x) ([],⟨0,0⟩,19)=([],⟨0,0⟩,19)/\∀j,j<k->(jk g m fr to a x (j+1)).2.2≠0)\/
    (∃j:Nat,j<k/\(List.range k).foldl (nW g m fr to a x) ([],⟨0,0⟩,19)=jk g m fr to a x (j+1)/\(jk g m fr to a x (j+1)).2.2=0)
  |0=> .inl ⟨rfl,fun j hj=>absurd hj (Nat.not_lt_zero _)⟩
  |k+1=>by
    rw[List.range_succ,List.foldl_append]
    show(nW g m fr to a x _ k=_/\_)\/∃j:Nat,j<k+1/\nW g m fr to a x _ k=_/\_
    rcases yR hm k with⟨h1,h2⟩|⟨j,h1,h2,h3⟩
    · rw[h1]
      unfold nW
      by_cases h0:(jk g m fr to a x (k+1)).2.2=0
      · rw[if_pos ⟨h0,.inl rfl⟩]
        exact .inr ⟨k,Nat.lt_succ_self k,rfl,h0⟩
      · rw[if_neg (fun hh=>h0 hh.1)]
        refine .inl ⟨rfl,fun j hj=>?_⟩
        rcases Nat.lt_or_ge j k with q|q
        · exact h2 j q
        · rw[show j=k by omega];exact h0
    · rw[h2]
      unfold nW
      split
      · rename_i hh
        exact .inr ⟨k,Nat.lt_succ_self k,rfl,hh.1⟩
      · exact .inr ⟨j,by omega,rfl,h3⟩
end Go.tH

namespace Go.tH
open Go.fO Go.oF Go.uI Go.Proofs.YtkaedikifgpkeaaGreatDoor
variable {g:List fO.Edge}{m:MF}{fr to a x:Int}
theorem MU (hm:ic m){n:Int}(h:(jk g m fr to a x n).2.2=0):(jk g m fr to a x n).1≠[]/\(jk g m fr to a x n).1.length=n.toNat/\okF (jk g m fr to a x n).2.1/\0<(jk g m fr to a x n).2.1.n/\(jk g m fr to a x n).2.1.n<=(jk g m fr to a x n).2.1.d:=by
  rcases yQ (g:=g) (fr:=fr) (to:=to) (a:=a) (x:=x) hm (n:=n)with⟨e,_⟩|⟨e,_⟩|⟨s,e,k1,k2,b,c,f,_⟩
  · rw[e]at h;cases h
  · rw[e]at h;cases h
  · rw[e]
    have hl:=congrArg List.length k2
    rw[List.length_map,(qx b c f).1]at hl
    refine⟨fun hh=>?_,hl,k1.fQ⟩
    simp only at hh
    rw[hh]at hl
    simp at hl
    omega
theorem Ri {a n:Int}(h1:1<=n)(h3:n<=a)(i:Nat):1<=kX a n i/\kX a n i<=(a+n-1)/n:=by
  have hm:=Int.emod_nonneg a (show n≠0 by omega)
  have hd:=Int.mul_ediv_add_emod a n
  have hq:1<=a/n:=(Int.le_ediv_iff_mul_le (by omega)).2 (by omega)
  have b:a/n<=(a+n-1)/n:=Int.ediv_le_ediv (by omega) (by omega)
  unfold kX
  split
  · refine⟨by omega,(Int.le_ediv_iff_mul_le (by omega)).2 ?_⟩
    rw[Int.add_mul,Int.mul_comm (a/n) n]
    omega
  · omega
end Go.tH

namespace Go.Proofs.YtkaedikifgpkeaaGreatDoor
open Go Go.fO Go.oF Go.uI Go.tH
theorem rJ {g:List fO.Edge}{m:MF}{fr to a x:Int}(hm:ic m):(gz g m fr to a x).1.length<=8/\(eP (gz g m fr to a x).2.1.n).length<=100/\(eP (gz g m fr to a x).2.1.d).length<=100:=by
  rcases KI (g:=g) (fr:=fr) (to:=to) (a:=a) (x:=x) hm with h|h|h
  · obtain⟨_,c,e,_⟩:=ql hm h
    have b:=yK hm (gz g m fr to a x).1 a x
    rw[<-e]at b
    exact⟨(kZ c.way).2,b⟩
  · rw[h];simp only[eT];decide
  · rw[h];simp only[eT];decide
def kP (f:Fr)(b:Nat):Prop:=(eP f.n).length<=b/\(eP f.d).length<=b
theorem kP.up {f:Fr}{b c:Nat}(h:kP f b)(k:b<=c):kP f c:=⟨Nat.le_trans h.1 k,Nat.le_trans h.2 k⟩
theorem kP.nil (b:Nat):kP ⟨0,0⟩ b:=by unfold kP;simp only[eT];exact⟨Nat.zero_le _,Nat.zero_le _⟩
theorem kP.mul {p q:Fr}{b c:Nat}(hp:kP p b)(hq:kP q c):kP (jW p q) (b+c):=
  ⟨Nat.le_trans (gZ (uY _ _).1) (Nat.le_trans (iR _ _) (Nat.add_le_add hp.1 hq.1)),Nat.le_trans (gZ (uY _ _).2) (Nat.le_trans (iR _ _) (Nat.add_le_add hp.2 hq.2))⟩
section
variable {g:List fO.Edge}{m:MF}{fr to a x:Int}
theorem Rj {s t:AV}(hm:ic s.m){b:Nat}(h:kP s.fQ b){share:Int}(hs:oK g fr to x (some s) share=some t):kP t.fQ (b+100)/\ic t.m:=by
  unfold oK at hs
  simp only at hs
  split at hs
  · cases hs
    exact⟨h.mul ((rJ hm).2),sH hm _ _ _⟩
  · cases hs
theorem MV:∀(l:List Int) {s t:AV} {b:Nat},ic s.m->kP s.fQ b->l.foldl (oK g fr to x) (some s)=some t->kP t.fQ (b+100*l.length)/\ic t.m
  |[],s,t,b,hm,h,ht=>by cases ht;exact⟨h,hm⟩
  |y::l,s,t,b,hm,h,ht=>by
    rw[List.foldl_cons]at ht
    cases hq:oK g fr to x (some s) y with
    |none=>rw[hq,qw]at ht;cases ht
    |some u=>
      rw[hq]at ht
      obtain⟨h1,h2⟩:=Rj hm h hq
      obtain⟨k1,k2⟩:=MV l h2 h1 ht
      exact⟨k1.up (by simp only[List.length_cons];omega),k2⟩
theorem xP {l:List Int}{s:AV}{k:Nat}(hk:k<l.length)(h:(l.take k).foldl (oK g fr to x) (some ⟨[],⟨1,1⟩,m⟩)=some s):(l.take (k+1)).foldl (oK g fr to x) (some ⟨[],⟨1,1⟩,m⟩)=oK g fr to x (some s) (l.getD k 0):=by
  rw[List.take_add_one,List.foldl_append,h]
  simp[List.getD,hk]
theorem I9 {l:List Int}{k:Nat}(h:(l.take k).foldl (oK g fr to x) (some ⟨[],⟨1,1⟩,m⟩)=none):l.foldl (oK g fr to x) (some ⟨[],⟨1,1⟩,m⟩)=none:=by
  rw[<-List.take_append_drop k l,List.foldl_append,h,qw]
theorem xQ {l:List Int}{s t:AV}(h:l.foldl (oK g fr to x) (some s)=some t):t.out.length=s.out.length+l.length:=by
  induction l generalizing s with
  |nil=>cases h;rfl
  |cons y l ih=>
    rw[List.foldl_cons]at h
    cases hq:oK g fr to x (some s) y with
    |none=>rw[hq,qw]at h;cases h
    |some u=>
      rw[hq]at h
      have:=ih h
      unfold oK at hq
      simp only at hq
      split at hq
      · cases hq;simp at this ⊢;omega
      · cases hq
theorem vk {n:Int}(h1:¬(n<1\/8<n\/(gz g m fr to a x).2.2=1))(h:fw a n=[]\/(fw a n).foldl (oK g fr to x) (some ⟨[],⟨1,1⟩,m⟩)=none):jk g m fr to a x n=([],⟨0,0⟩,19):=by
  unfold jk
  rw[if_neg h1]
  rcases h with h|h
  · rw[h];rfl
  · by_cases e:fw a n=[]
    · rw[e];rfl
    · rw[if_neg e,h]
theorem EL {n:Int}{s:AV}(h1:¬(n<1\/8<n\/(gz g m fr to a x).2.2=1))(h2:fw a n≠[])(h:(fw a n).foldl (oK g fr to x) (some ⟨[],⟨1,1⟩,m⟩)=some s):jk g m fr to a x n=(s.out,s.fQ,0):=by
  unfold jk
  rw[if_neg h1,if_neg h2,h]
theorem kv {n:Int}(h1:n<1\/8<n\/(gz g m fr to a x).2.2=1):jk g m fr to a x n=([],⟨0,0⟩,1):=by unfold jk;rw[if_pos h1]
theorem uy (hm:ic m){n:Int}:kP (jk g m fr to a x n).2.1 900/\(jk g m fr to a x n).1.length<=8:=by
  unfold jk
  split
  · exact⟨kP.nil _,Nat.zero_le _⟩
  · rename_i h
    split
    · exact⟨kP.nil _,Nat.zero_le _⟩
    · rename_i s hs
      split at hs
      · rw[qw]at hs;cases hs
      · rename_i hne
        have hna:n<=a:=Decidable.byContradiction fun hna=>hne (by unfold fw;rw[if_pos (by omega)])
        have hl:=(qx (by omega) (by omega) hna).1
        have b:kP (⟨1,1⟩:Fr) 1:=⟨gJ (by decide),gJ (by decide)⟩
        have k:=(MV _ (s:=⟨[],⟨1,1⟩,m⟩) hm b hs).1
        have kc:=xQ hs
        refine⟨k.up (by rw[hl];omega),?_⟩
        show s.out.length<=8
        rw[kc,hl]
        show 0+n.toNat<=8
        omega
theorem zn (hm:ic m){n:Int}:(gK g m fr to a x n=([],⟨0,0⟩,1)/\(n<1\/8<n\/(gz g m fr to a x).2.2=1))\/(gK g m fr to a x n=([],⟨0,0⟩,19)/\1<=n/\n<=8)\/
    (∃(s:AV) (k:Int),gK g m fr to a x n=(s.out,s.fQ,0)/\KL g fr to x s/\s.out.map (·.vX)=fw a k/\1<=k/\k<=n/\n<=8/\k<=a/\(gz g m fr to a x).2.2≠1):=by
  by_cases h:n<1\/8<n\/(gz g m fr to a x).2.2=1
  · left
    refine⟨?_,h⟩
    unfold gK
    rw[if_pos h]
  · right
    have e:gK g m fr to a x n=(List.range n.toNat).foldl (nW g m fr to a x) ([],⟨0,0⟩,19):=by unfold gK;rw[if_neg h]
    rw[e]
    rcases yR (g:=g) (fr:=fr) (to:=to) (a:=a) (x:=x) hm n.toNat with⟨c,_⟩|⟨j,c,d,b⟩
    · exact .inl ⟨c,by omega,by omega⟩
    · right
      rw[d]
      rcases yQ (g:=g) (fr:=fr) (to:=to) (a:=a) (x:=x) hm (n:=(j:Int)+1)with⟨k,_⟩|⟨k,_⟩|⟨s,k1,k2,f,i,t,l,o⟩
      · rw[k]at b;cases b
      · rw[k]at b;cases b
      · exact⟨s,_,k1,k2,f,i,by omega,by omega,l,o⟩
theorem Rk (hm:ic m):∀k:Nat,kP ((List.range k).foldl (nW g m fr to a x) ([],⟨0,0⟩,19)).2.1 900/\((List.range k).foldl (nW g m fr to a x) ([],⟨0,0⟩,19)).1.length<=8:=fun k=>by
  rcases yR (g:=g) (fr:=fr) (to:=to) (a:=a) (x:=x) hm k with⟨b,_⟩|⟨j,b,c,d⟩
  · rw[b];exact⟨kP.nil _,Nat.zero_le _⟩
  · rw[c];exact uy hm
theorem ou (hm:ic m){n:Int}:kP (gK g m fr to a x n).2.1 900/\(gK g m fr to a x n).1.length<=8:=by
  unfold gK
  split
  · exact⟨kP.nil _,Nat.zero_le _⟩
  · exact Rk hm _
end
end Go.Proofs.YtkaedikifgpkeaaGreatDoor

namespace Go.Proofs.YtkaedikifgpkeaaGreatDoor
open Tryz
open Go Go.Sx Go.oF
set_option maxRecDepth 20000
theorem Rl (n:Nat)(h:n<18446744073709551616):val [n%4294967296%4294967296,n/4294967296%4294967296]=n:=by
  simp only[val,B]
  omega
theorem UC (n:Nat):∀d∈[n%4294967296%4294967296,n/4294967296%4294967296],d<B:=fun d hd=>by
  have e:B=4294967296:=rfl
  simp only[List.mem_cons,List.not_mem_nil,or_false]at hd
  omega
theorem DV {q:Nat}(h:0<q):0<(eP q).length:=by rw[jP (by omega)];simp
theorem MW {a b:Nat}:(0<=lH a b↔b<=a):=by unfold lH;split<;>(try split)<;>omega
def QR (a b k Q r:Nat):Prop:=a/2^k=b*Q+r
theorem Oj {a b k Q r':Nat}(h:a/2^k=b*(2*Q)+r')(hb:b<=r'):QR a b k (2*Q+1) (r'-b):=by
  show a/2^k=b*(2*Q+1)+(r'-b)
  rw[h,Nat.mul_add,Nat.mul_one];omega
theorem Rn {q:List Nat}{Q k:Nat}(h:val q=Q*2^k)(hk:0<k):val q=2*Q*2^(k-1):=by
  obtain⟨j,rfl⟩:∃j,k=j+1:=⟨k-1,by omega⟩
  rw[h,Nat.add_sub_cancel,Nat.pow_succ,Nat.mul_comm 2 Q,Nat.mul_assoc,Nat.mul_comm 2]
theorem Ja {a b k Q r:Nat}{q:List Nat}(h:QR a b k Q r)(hv:val q=Q*2^k)(hr:r<b)(hk:k=0):val q=a/b/\val (eP r)=a%b:=by
  subst hk
  have c:a/2^0=b*Q+r:=h
  rw[Nat.pow_zero,Nat.div_one]at c
  rw[Nat.pow_zero,Nat.mul_one]at hv
  obtain⟨d,e⟩:=Lt c hr
  rw[hv,iV,d,e]
  exact⟨rfl,rfl⟩
theorem xR (a b:Nat):(eP (a+b)).length<=max (eP a).length (eP b).length+1:=by
  refine jS _ ?_
  have c:=Bz a (j:=max (eP a).length (eP b).length) (Nat.le_max_left _ _)
  have d:=Bz b (j:=max (eP a).length (eP b).length) (Nat.le_max_right _ _)
  rw[Nat.pow_succ]
  have e:B^(max (eP a).length (eP b).length)*2<=B^(max (eP a).length (eP b).length)*B:=Nat.mul_le_mul_left _ (by decide)
  omega
theorem wE {A:Option Addr}{n c a:Nat}(w:World)(hV:Vec w dv 1 A n (eP a))(hn:n<=1000000):Calls prog 197 #[.slice A n c] w fun r w'=>r= .returned (.bool true)/\Le w w':=by
 have hl:=hV.1
 refine enter func197 rfl rfl ?_
 have b:=Le.refl w
 refine Sr (Wn 1 rfl (Nx (Sr (Wn 1 rfl (Wr (.len underlying35 rfl) rfl (Wn 1 rfl ?_))))))
 by_cases d:((n:Nat):Int)=0
 ·refine Dt d rfl rfl (Wn 9 rfl (Nx (Rt (E.fu rfl rfl ?_))))
  exact⟨rfl,b⟩
 refine Df d rfl rfl (Wn 2 rfl (Wg (.len underlying35 rfl) rfl (Wg (Any.rd (.sub rfl rfl (by omega)) _) rfl (Wg (Any.rd (.fV (n-1) underlying35 fP rfl rfl (hV.isSome fF (by omega)) (by omega) (by omega)) _) rfl (Wg (.jB (v:= .int .u32 ((((eP a).getD (n-1) 0):Nat):Int)) gP rfl (hV.le b) fF (gD (eP a) 0 (by first|omega|(simp only[List.length_cons,List.length_nil];omega))) rfl) rfl ?_)))))
 refine Wg (Any.rd (.dec (.gtr rfl rfl) (dT (by have h:=Et a (by omega);rw[hl]at h;omega))) _) rfl ?_
 refine Wn 2 rfl (Nx (Rt (E.fu rfl rfl ?_)))
 exact⟨rfl,b⟩

theorem jL {A:Option Addr}{n c a:Nat}(w:World)(hV:Vec w dv 1 A n (eP a))(hn:n<=1000000):Calls prog 155 #[.slice A n c] w fun r w'=>r= .returned (.slice A n c)/\Le w w':=by
 have hl:=hV.1
 refine enter func155 rfl rfl ?_
 have b:=Le.refl w
 refine Sr (Wn 1 rfl (Nx (Sr (Wn 1 rfl (W.cl Qi rfl rfl (wE w (hV.le b) (by omega)) ?_)))))
 rintro _ e ⟨rfl,d⟩
 refine Wn 1 rfl (Nx (Sq (Sr (Wn 2 rfl (Nx (WC.iD rfl (Sn (Sr (Wn 2 rfl (Nx (Rt (E.fu rfl rfl ?_))))))))))))
 exact⟨rfl,(b.trans d)⟩

theorem iZ {A:Option Addr}{n c a:Nat}(i:Nat)(w:World)(hV:Vec w dv 1 A n (eP a))(hn:n<=1000000)(hi:i<=9000000000000000000):Calls prog 156 #[.slice A n c,.int .i64 ((i:Nat):Int)] w fun r w'=>r= .returned (.int .u64 (((eP a).getD i 0:Nat):Int))/\Le w w':=by
 have hl:=hV.1
 have hdl:=kW a i
 refine enter func156 rfl rfl ?_
 have b:=Le.refl w
 refine Sr (Wn 1 rfl (Nx (Sq (Sr (Wn 2 rfl (Wr (.len underlying35 rfl) rfl (Wn 1 rfl (Nx ?_))))))))
 by_cases d:((i:Nat):Int)<((n:Nat):Int)
 ·refine Cy rfl (dT d) (Sr (Wn 2 rfl (Wa (.fV i underlying35 fP rfl rfl (hV.isSome fF (by omega)) rfl (by omega)) rfl (Wr (.jB (v:= .int .u32 ((((eP a).getD i 0):Nat):Int)) gP rfl (hV.le b) fF (gD (eP a) 0 (by first|omega|(simp only[List.length_cons,List.length_nil];omega))) rfl) rfl ?_))))
  refine Wr (.yh (lY underlying143) underlying24 rfl (IntWalk.u64_in _ (by omega))) rfl (Wn 1 rfl (Nx (Rt (E.eX (E.fu rfl rfl ?_)))))
  exact⟨rfl,b⟩
 refine Cn rfl (dF d) (Sn (Sr (Wn 1 rfl (Nx (Rt (E.fu rfl rfl ?_))))))
 exact⟨by rw[getD_none (by omega)];rfl,b⟩

theorem sI {A:Option Addr}{n c:Nat}{xs:List Nat}(w:World)(hV:Vec w dv 1 A n xs)(hb:∀d∈xs,d<B)(hnc:n<=c)(hn:n<=1000000):Calls prog 150 #[.slice A n c] w fun r w'=>∃A' c',r= .returned (.slice A' (eP (val xs)).length c')/\eU w' w.heap.size 143 dv 1 A' (eP (val xs)).length c' (eP (val xs))/\Le w w':=by
 have hl:=hV.1
 refine enter func150 rfl rfl (Sr (Wn 1 rfl (Nx (Sr (Wn 1 rfl (Wr (.len underlying35 rfl) rfl (Wn 1 rfl (Nx (Sq (WC.block (WC.loop (ι:=Nat) (fun k=>[(0,.slice A n c),(3,.int .i64 ((k:Nat):Int))]) (fun k f=>(k<=n)/\(∀j,k<=j->xs.getD j 0=0)/\Le w f/\w.heap.size<=f.heap.size) (fun k=>k) n ?_ ?_ ?_)))))))))))
 ·exact .of rfl
 ·exact⟨Nat.le_refl _,(fun j hj=>getD_none (by omega)),(Le.refl w),Nat.le_refl _⟩
 rintro k f ⟨hk,hz,b,D⟩
 refine Sq (Sr (Wn 2 rfl ?_))
 by_cases l:0<((k:Nat):Int)
 ·refine Dt l rfl rfl (Wn 2 rfl (Wg (Any.rd (.sub rfl rfl (by omega)) _) rfl (Wg (Any.rd (.fV (k-1) underlying35 fP rfl rfl (hV.isSome fF (by omega)) (by omega) (by omega)) _) rfl (Wg (.jB (v:= .int .u32 (((xs.getD (k-1) 0):Nat):Int)) gP rfl (hV.le b) fF (gD xs 0 (by omega)) rfl) rfl (Wn 2 rfl (Nx ?_))))))
  by_cases m:(((xs.getD (k-1) 0):Nat):Int)=0
  ·refine Cy rfl (dT m) (Sn (WC.block (WC.region (Wn 1 rfl (Wa (.sub rfl rfl (by omega)) rfl (Wn 1 rfl (W.nil (E.gI (E.again (k-1) (.cons rfl (.cons' rfl (int_eq (by omega)) (.nil _))) ?_ ?_)))))))))
   ·exact⟨by omega,(fun j hj=>by rcases Nat.lt_or_ge j k with h|h;(rw[show j=k-1 by omega];omega);exact hz j h),b,by have:=D;omega⟩
   show k-1<k;omega
  refine Cn rfl (dF m) (WC.exit (E.fC (E.fC (E.gW (E.eY (Sr (W.ef rfl rfl rfl (Ef.kU underlying35 jH fun F H S T o=>?_))))))))
  have s:=b.trans o
  have t:eU H f.heap.size 143 dv 1 (some ⟨F,0,none⟩) 0 0 []:=eU.nil _ _ _ _ _ _
  refine Wn 2 rfl ?_
  have u:=hV.zu k (by omega) fF
  have U:=u.1
  refine Wa (.zu k underlying35 fP rfl rfl rfl (by omega)) rfl (W.ef rfl rfl rfl (Ef.Nu underlying35 jH underlying35 fF rfl t rfl (u.le s) (by omega) (by unfold maxLen;omega) (by have:=o.size;omega) ?_))
  intro V X Y I J Z
  have K:=s.gG J (fun q hq=>Nat.le_trans b.size (t.row hq).1)
  refine Wn 1 rfl (Nx (Rt (E.fu rfl rfl ?_)))
  have e:xs.take k=eP (val xs):=uH hb (by omega) hz (fun L=>by first|(exfalso;omega)|omega)
  have hq:=(I.mono b.size)
  rw[List.nil_append,e]at hq
  have i:=hq.1
  exact⟨_,_,by rw[i],hq.cast i.symm rfl,K⟩
 refine Df l rfl rfl (Wn 7 rfl (Nx (WC.iD rfl (WC.exit (E.fC (E.fC (E.gW (E.eY (Sr (W.ef rfl rfl rfl (Ef.kU underlying35 jH fun N O aa ab x=>?_)))))))))))
 have y:=b.trans x
 have z:eU O f.heap.size 143 dv 1 (some ⟨N,0,none⟩) 0 0 []:=eU.nil _ _ _ _ _ _
 refine Wn 2 rfl ?_
 have C:=hV.zu k (by omega) fF
 have ac:=C.1
 refine Wa (.zu k underlying35 fP rfl rfl rfl (by omega)) rfl (W.ef rfl rfl rfl (Ef.Nu underlying35 jH underlying35 fF rfl z rfl (C.le y) (by omega) (by unfold maxLen;omega) (by have:=x.size;omega) ?_))
 intro ad ae af P Q ah
 have R:=y.gG Q (fun q hq=>Nat.le_trans b.size (z.row hq).1)
 refine Wn 1 rfl (Nx (Rt (E.fu rfl rfl ?_)))
 have e:xs.take k=eP (val xs):=uH hb (by omega) hz (fun L=>by first|(exfalso;omega)|omega)
 have hq:=(P.mono b.size)
 rw[List.nil_append,e]at hq
 have i:=hq.1
 exact⟨_,_,by rw[i],hq.cast i.symm rfl,R⟩

theorem xS (a:Nat)(ha:a<18446744073709551616)(w:World):Calls prog 89 #[.int .u64 ((a:Nat):Int)] w fun r w'=>∃A c,r= .returned (.slice A (eP a).length c)/\eU w' w.heap.size 143 dv 1 A (eP a).length c (eP a)/\Le w w':=by
 refine enter func89 rfl rfl (Sr (Wn 1 rfl (Nx (Sr (Wn 1 rfl (Wa (.om a 4294967296 (a%4294967296) rfl rfl rfl rfl (by omega) rfl) rfl (Wr (.toU32 (a%4294967296) (lY underlying24) underlying143 rfl rfl) rfl (Wn 1 rfl (Wa (.tF a 4294967296 (a/4294967296) rfl rfl rfl rfl (by omega) (by omega) rfl) rfl ?_)))))))))
 refine Wr (.toU32 (a/4294967296) (lY underlying24) underlying143 rfl rfl) rfl (W.ef rfl rfl rfl (Ef.gq (len:=2) [_,_] underlying35 jH rfl (by simp[Value.cells]) rfl (by decide) (by decide) ?_))
 intro e b j d k
 have f:=(Le.refl w).trans k
 have d:fA b e 143 (([((a%4294967296)%4294967296),((a/4294967296)%4294967296)]).map dv).flatten.toArray:=d
 have i:eU b w.heap.size 143 dv 1 (some ⟨e,0,none⟩) 2 2 ([((a%4294967296)%4294967296),((a/4294967296)%4294967296)]):=d.kL j fF rfl rfl (by decide)
 refine W.cl BR rfl rfl (by have h:=sI (c:=2) b i.vec (UC a) i.cap.1 (by omega);rw[show val ([((a%4294967296)%4294967296),((a/4294967296)%4294967296)])=a from Rl a ha]at h;exact h) ?_
 rintro _ n ⟨o,s,rfl,l,m⟩
 refine Wn 1 rfl (Nx (Rt (E.fu rfl rfl ?_)))
 exact⟨_,_,rfl,(l.mono f.size),(f.trans m)⟩

theorem xU {A A2:Option Addr}{n c m c2 a b:Nat}(w:World)(hV:Vec w dv 1 A n (eP a))(hW:Vec w dv 1 A2 m (eP b))(hn:n<=100000)(hm:m<=100000):Calls prog 98 #[.slice A n c,.slice A2 m c2] w fun r w'=>r= .returned (.int .i64 (lH a b))/\Le w w':=by
 have hl:=hV.1
 have P:=hW.1
 have hB:B=4294967296:=rfl
 refine enter func98 rfl rfl ?_
 have h:=Le.refl w
 refine Sr (Wn 1 rfl (Nx (Sr (Wn 1 rfl (W.cl sW rfl rfl (jL w (hV.le h) (by omega)) ?_)))))
 rintro _ F ⟨rfl,H⟩
 have i:=h.trans H
 refine Wn 1 rfl (Nx (Sr (Wn 1 rfl (W.cl sW rfl rfl (jL F (hW.le i) (by omega)) ?_))))
 rintro _ I ⟨rfl,J⟩
 refine Wn 1 rfl (Nx (Sq (Sr (Wn 1 rfl (Wr (.len underlying35 rfl) rfl (Wn 1 rfl (Wr (.len underlying35 rfl) rfl (Wr (.max2 rfl rfl) rfl (Wa (.sub rfl rfl (by omega)) rfl ?_)))))))))
 refine Wn 1 rfl (Nx (WC.block (WC.loop (ι:=Nat) (fun k=>[(5,.slice A n c),(6,.slice A2 m c2),(7,.int .i64 (((k:Nat):Int)-1))]) (fun k d=>(k<=max n m)/\(QEq a b k)/\Le w d/\I.heap.size<=d.heap.size) (fun k=>k) (max n m) ?_ ?_ ?_)))
 ·exact .cons rfl (.cons rfl (.cons' rfl (int_eq (by omega)) (.nil _)))
 ·exact⟨Nat.le_refl _,(show a/B^(max n m)=b/B^(max n m)from by rw[Fg a (by omega),Fg b (by omega)]),(i.trans J),Nat.le_refl _⟩
 rintro k d ⟨hk,hq,e,K⟩
 refine Sq (Sr (Wn 2 rfl (Nx ?_)))
 by_cases l:0<=(((k:Nat):Int)-1)
 ·refine Cy rfl (dT l) (Sn (Sq (WC.block (Sq (Sr (Wn 1 rfl (Wa (.as (.move rfl) (int_eq (b:=((k-1:Nat):Int)) (by omega))) rfl (W.cl oZ rfl rfl (iZ (k-1) d (hV.le e) (by omega) (by omega)) ?_))))))))
  rintro _ L ⟨rfl,o⟩
  have s:=e.trans o
  refine Wn 1 rfl (Wa (.as (.move rfl) (int_eq (b:=((k-1:Nat):Int)) (by omega))) rfl (W.cl oZ rfl rfl (iZ (k-1) L (hW.le s) (by omega) (by omega)) ?_))
  rintro _ N ⟨rfl,t⟩
  have f:=s.trans t
  refine Wn 1 rfl (Nx ?_)
  by_cases u:((((eP a).getD (k-1) 0):Nat):Int)<((((eP b).getD (k-1) 0):Nat):Int)
  ·refine Cy rfl (dT u) (Sr (Wn 1 rfl (Nx (Rt (E.eX (E.gT (E.eX (E.eX (E.gT (E.eX (E.fu rfl rfl ?_)))))))))))
   exact⟨congrArg (fun v=>Ending.returned (Value.int .i64 v)) (uV (Lx (j:=k-1) (by rw[show k-1+1=k by omega];exact hq) (by omega))).symm,f⟩
  refine Cn rfl (dF u) (Sn (Sr (Wn 1 rfl (Wa (.as (.move rfl) (int_eq (b:=((k-1:Nat):Int)) (by omega))) rfl (W.cl oZ rfl rfl (iZ (k-1) N (hV.le f) (by omega) (by omega)) ?_)))))
  rintro _ O ⟨rfl,x⟩
  have y:=f.trans x
  refine Wn 1 rfl (Wa (.as (.move rfl) (int_eq (b:=((k-1:Nat):Int)) (by omega))) rfl (W.cl oZ rfl rfl (iZ (k-1) O (hW.le y) (by omega) (by omega)) ?_))
  rintro _ Q ⟨rfl,z⟩
  have C:=y.trans z
  refine Wn 1 rfl (Nx ?_)
  by_cases c2:((((eP b).getD (k-1) 0):Nat):Int)<((((eP a).getD (k-1) 0):Nat):Int)
  ·refine Cy rfl (dT c2) (Sr (Wn 1 rfl (Nx (Rt (E.gT (E.eX (E.eX (E.gT (E.eX (E.fu rfl rfl ?_))))))))))
   exact⟨congrArg (fun v=>Ending.returned (Value.int .i64 v)) (uW (Lx (j:=k-1) (by rw[show k-1+1=k by omega];exact hq.symm) (by omega))).symm,C⟩
  refine Cn rfl (dF c2) (WC.skip (E.gI (E.eY (WC.region (Wn 1 rfl (Wa (.sub rfl rfl (by omega)) rfl (Wn 1 rfl (W.nil (E.again (k-1) (.cons rfl (.cons rfl (.cons' rfl (int_eq (by omega)) (.nil _)))) ?_ ?_)))))))))
  ·exact⟨by omega,SE (j:=k-1) (by rw[show k-1+1=k by omega];exact hq) (by omega),C,by have:=K;have:=o.size;have:=t.size;have:=x.size;have:=z.size;omega⟩
  show k-1<k;omega
 refine Cn rfl (dF l) (WC.exit (E.fC (E.fC (E.gW (E.eY (Sr (Wn 1 rfl (Nx (Rt (E.fu rfl rfl ?_))))))))))
 exact⟨congrArg (fun v=>Ending.returned (Value.int .i64 v)) (show lH a b=0 from by have D:a/B^k=b/B^k:=hq;rw[show k=0 by omega,Nat.pow_zero,Nat.div_one,Nat.div_one]at D;rw[D];exact Ez b).symm,e⟩

theorem Jb {A A2:Option Addr}{n c m c2 a b:Nat}(w:World)(hV:Vec w dv 1 A n (eP a))(hW:Vec w dv 1 A2 m (eP b))(hn:n<=100000)(hm:m<=100000):Calls prog 193 #[.slice A n c,.slice A2 m c2] w fun r w'=>∃A c,r= .returned (.slice A (eP (a+b)).length c)/\eU w' w.heap.size 143 dv 1 A (eP (a+b)).length c (eP (a+b))/\Le w w':=by
 have hl:=hV.1
 have aK:=hW.1
 have hB:B=4294967296:=rfl
 refine enter func193 rfl rfl ?_
 have N:=Le.refl w
 refine Sr (Wn 1 rfl (Nx (Sr (Wn 1 rfl (W.cl sW rfl rfl (jL w (hV.le N) (by omega)) ?_)))))
 rintro _ ai ⟨rfl,aj⟩
 have O:=N.trans aj
 refine Wn 1 rfl (Nx (Sr (Wn 1 rfl (W.cl sW rfl rfl (jL ai (hW.le O) (by omega)) ?_))))
 rintro _ j ⟨rfl,ak⟩
 have s:=O.trans ak
 refine Wn 1 rfl (Nx (Sr (Wn 1 rfl (Nx (Sr (Wn 1 rfl (Nx (Sq (Sr (Wn 1 rfl (Nx (WC.block ?_))))))))))))
 refine WC.loop (ι:=Nat×Nat×(List Nat)×(Option Addr)×Nat) (fun⟨i,cy,out,Ao,co⟩=>[(5,.slice A n c),(6,.slice A2 m c2),(7,.slice Ao i co),(8,.int .u64 ((cy:Nat):Int)),(9,.int .i64 ((i:Nat):Int))]) (fun⟨i,cy,out,Ao,co⟩ e=>(i<=max n m+1)/\(out.length=i)/\(∀d∈out,d<B)/\(val out+B^i*cy=a%B^i+b%B^i)/\(cy<=1)/\(i=max n m+1->cy=0)/\Le w e/\j.heap.size<=e.heap.size/\eU e j.heap.size 143 dv 1 Ao i co out) (fun⟨i,cy,out,Ao,co⟩=>max n m+1-i) (0,0,[],none,0) ?_ ?_ ?_
 ·exact .of rfl
 ·exact⟨Nat.zero_le _,rfl,(fun d hd=>by cases hd),by simp[val,Nat.mod_one],by decide,fun h=>by omega,s,Nat.le_refl _,(eU.nil j j.heap.size 143 dv 1 none)⟩
 rintro⟨i,cy,out,Ao,co⟩ e ⟨hi,hol,BA,hov,hcy,hce,f,K,k⟩
 have L:j.heap.size<=e.heap.size:=by omega
 refine Sq (Sr (Wn 2 rfl (Wr (.len underlying35 rfl) rfl (Wn 1 rfl ?_))))
 by_cases P:((i:Nat):Int)<((n:Nat):Int)
 ·refine Dt P rfl rfl (Wn 9 rfl (Nx (WC.gL rfl ?_)))
  have hx:=kW a i
  have hy:=kW b i
  have l:n<=i->((eP a).getD i 0)=0:=fun h=>getD_none (by omega)
  have o:m<=i->((eP b).getD i 0)=0:=fun h=>getD_none (by omega)
  refine Sn (Sq (WC.block (Sr (Wn 2 rfl (W.cl oZ rfl rfl (iZ i e (hV.le f) (by omega) (by omega)) ?_)))))
  rintro _ al ⟨rfl,t⟩
  have Q:=f.trans t
  refine Wn 2 rfl (W.cl oZ rfl rfl (iZ i al (hW.le Q) (by omega) (by omega)) ?_)
  rintro _ am ⟨rfl,u⟩
  refine Wa (.addN ((eP a).getD i 0) ((eP b).getD i 0) (((eP a).getD i 0)+((eP b).getD i 0)) rfl rfl rfl rfl (by omega)) rfl (Wn 1 rfl (Wa (.addN (((eP a).getD i 0)+((eP b).getD i 0)) cy ((((eP a).getD i 0)+((eP b).getD i 0))+cy) rfl rfl rfl rfl (by omega)) rfl (Wn 1 rfl (Nx (Sr (Wn 2 rfl (Wa (.om ((((eP a).getD i 0)+((eP b).getD i 0))+cy) 4294967296 (((((eP a).getD i 0)+((eP b).getD i 0))+cy)%4294967296) rfl rfl rfl rfl (by omega) rfl) rfl (Wr (.toU32 (((((eP a).getD i 0)+((eP b).getD i 0))+cy)%4294967296) (lY underlying24) underlying143 rfl rfl) rfl ?_))))))))
  refine W.ef rfl rfl rfl (Ef.gq (len:=1) [_] underlying35 jH rfl (by simp[Value.cells]) rfl (by decide) (by decide) ?_)
  intro R S an v x
  have v:fA S R 143 (([((((((eP a).getD i 0)+((eP b).getD i 0))+cy)%4294967296)%4294967296)]).map dv).flatten.toArray:=v
  have aL:eU S am.heap.size 143 dv 1 (some ⟨R,0,none⟩) 1 1 ([((((((eP a).getD i 0)+((eP b).getD i 0))+cy)%4294967296)%4294967296)]):=v.kL an fF rfl rfl (by decide)
  have T:=(k.le (t.trans (u.trans x)))
  refine W.ef rfl rfl rfl (Ef.mP (a:=((((((eP a).getD i 0)+((eP b).getD i 0))+cy)%4294967296)%4294967296)) underlying35 jH underlying35 fF rfl T rfl v (by omega) (by unfold maxLen;omega) (by have:=L;have:=t.size;have:=u.size;have:=x.size;omega) ?_)
  intro ao ap aM aq U aO
  have o8:=aq.cast (m':=(i+1)) (ys:=(out++[(((eP a).getD i 0)+((eP b).getD i 0)+cy)%B])) rfl (by rw[Nat.mod_mod];rfl)
  refine Wn 1 rfl (Nx (WC.region (Wn 1 rfl (Wa (.tF ((((eP a).getD i 0)+((eP b).getD i 0))+cy) 4294967296 (((((eP a).getD i 0)+((eP b).getD i 0))+cy)/4294967296) rfl rfl rfl rfl (by omega) (by omega) rfl) rfl (Wn 1 rfl (W.nil (E.gI (E.eY (WC.region (Wn 1 rfl (Wa (.add rfl rfl (by omega)) rfl (Wn 1 rfl (W.nil (E.again (i+1,((((eP a).getD i 0)+((eP b).getD i 0)+cy)/4294967296),(out++[(((eP a).getD i 0)+((eP b).getD i 0)+cy)%B]),ao,ap) (.of rfl) ?_ ?_))))))))))))))
  ·exact⟨by omega,by rw[List.length_append,hol];rfl,Fh BA (Nat.mod_lt _ (by decide)),yu hol hov,by omega,fun h=>by have:=l (by omega);have:=o (by omega);omega,(((Q.trans u).trans x).gG U (fun q hq=>Nat.le_trans s.size (T.row hq).1)),by have:=K;have:=t.size;have:=u.size;have:=x.size;have:=U.size;omega,o8⟩
  show max n m+1-(i+1)<max n m+1-i;omega
 refine Df P rfl rfl (Wn 2 rfl (Wg (.len underlying35 rfl) rfl (Wn 2 rfl ?_)))
 by_cases V:((i:Nat):Int)<((m:Nat):Int)
 ·refine Dt V rfl rfl (Wn 3 rfl (Nx (WC.gL rfl ?_)))
  have hx:=kW a i
  have hy:=kW b i
  have l:n<=i->((eP a).getD i 0)=0:=fun h=>getD_none (by omega)
  have o:m<=i->((eP b).getD i 0)=0:=fun h=>getD_none (by omega)
  refine Sn (Sq (WC.block (Sr (Wn 2 rfl (W.cl oZ rfl rfl (iZ i e (hV.le f) (by omega) (by omega)) ?_)))))
  rintro _ ar ⟨rfl,y⟩
  have X:=f.trans y
  refine Wn 2 rfl (W.cl oZ rfl rfl (iZ i ar (hW.le X) (by omega) (by omega)) ?_)
  rintro _ au ⟨rfl,z⟩
  refine Wa (.addN ((eP a).getD i 0) ((eP b).getD i 0) (((eP a).getD i 0)+((eP b).getD i 0)) rfl rfl rfl rfl (by omega)) rfl (Wn 1 rfl (Wa (.addN (((eP a).getD i 0)+((eP b).getD i 0)) cy ((((eP a).getD i 0)+((eP b).getD i 0))+cy) rfl rfl rfl rfl (by omega)) rfl (Wn 1 rfl (Nx (Sr (Wn 2 rfl (Wa (.om ((((eP a).getD i 0)+((eP b).getD i 0))+cy) 4294967296 (((((eP a).getD i 0)+((eP b).getD i 0))+cy)%4294967296) rfl rfl rfl rfl (by omega) rfl) rfl (Wr (.toU32 (((((eP a).getD i 0)+((eP b).getD i 0))+cy)%4294967296) (lY underlying24) underlying143 rfl rfl) rfl ?_))))))))
  refine W.ef rfl rfl rfl (Ef.gq (len:=1) [_] underlying35 jH rfl (by simp[Value.cells]) rfl (by decide) (by decide) ?_)
  intro Y Z av C D
  have C:fA Z Y 143 (([((((((eP a).getD i 0)+((eP b).getD i 0))+cy)%4294967296)%4294967296)]).map dv).flatten.toArray:=C
  have aP:eU Z au.heap.size 143 dv 1 (some ⟨Y,0,none⟩) 1 1 ([((((((eP a).getD i 0)+((eP b).getD i 0))+cy)%4294967296)%4294967296)]):=C.kL av fF rfl rfl (by decide)
  have aa:=(k.le (y.trans (z.trans D)))
  refine W.ef rfl rfl rfl (Ef.mP (a:=((((((eP a).getD i 0)+((eP b).getD i 0))+cy)%4294967296)%4294967296)) underlying35 jH underlying35 fF rfl aa rfl C (by omega) (by unfold maxLen;omega) (by have:=L;have:=y.size;have:=z.size;have:=D.size;omega) ?_)
  intro aw ax aQ ay ab aR
  have az:=ay.cast (m':=(i+1)) (ys:=(out++[(((eP a).getD i 0)+((eP b).getD i 0)+cy)%B])) rfl (by rw[Nat.mod_mod];rfl)
  refine Wn 1 rfl (Nx (WC.region (Wn 1 rfl (Wa (.tF ((((eP a).getD i 0)+((eP b).getD i 0))+cy) 4294967296 (((((eP a).getD i 0)+((eP b).getD i 0))+cy)/4294967296) rfl rfl rfl rfl (by omega) (by omega) rfl) rfl (Wn 1 rfl (W.nil (E.gI (E.eY (WC.region (Wn 1 rfl (Wa (.add rfl rfl (by omega)) rfl (Wn 1 rfl (W.nil (E.again (i+1,((((eP a).getD i 0)+((eP b).getD i 0)+cy)/4294967296),(out++[(((eP a).getD i 0)+((eP b).getD i 0)+cy)%B]),aw,ax) (.of rfl) ?_ ?_))))))))))))))
  ·exact⟨by omega,by rw[List.length_append,hol];rfl,Fh BA (Nat.mod_lt _ (by decide)),yu hol hov,by omega,fun h=>by have:=l (by omega);have:=o (by omega);omega,(((X.trans z).trans D).gG ab (fun q hq=>Nat.le_trans s.size (aa.row hq).1)),by have:=K;have:=y.size;have:=z.size;have:=D.size;have:=ab.size;omega,az⟩
  show max n m+1-(i+1)<max n m+1-i;omega
 refine Df V rfl rfl (Wn 3 rfl (Nx ?_))
 by_cases c0:0<((cy:Nat):Int)
 ·refine Cy rfl (dT c0) ?_
  have hx:=kW a i
  have hy:=kW b i
  have l:n<=i->((eP a).getD i 0)=0:=fun h=>getD_none (by omega)
  have o:m<=i->((eP b).getD i 0)=0:=fun h=>getD_none (by omega)
  refine Sn (Sq (WC.block (Sr (Wn 2 rfl (W.cl oZ rfl rfl (iZ i e (hV.le f) (by omega) (by omega)) ?_)))))
  rintro _ aA ⟨rfl,F⟩
  have ac:=f.trans F
  refine Wn 2 rfl (W.cl oZ rfl rfl (iZ i aA (hW.le ac) (by omega) (by omega)) ?_)
  rintro _ aB ⟨rfl,H⟩
  refine Wa (.addN ((eP a).getD i 0) ((eP b).getD i 0) (((eP a).getD i 0)+((eP b).getD i 0)) rfl rfl rfl rfl (by omega)) rfl (Wn 1 rfl (Wa (.addN (((eP a).getD i 0)+((eP b).getD i 0)) cy ((((eP a).getD i 0)+((eP b).getD i 0))+cy) rfl rfl rfl rfl (by omega)) rfl (Wn 1 rfl (Nx (Sr (Wn 2 rfl (Wa (.om ((((eP a).getD i 0)+((eP b).getD i 0))+cy) 4294967296 (((((eP a).getD i 0)+((eP b).getD i 0))+cy)%4294967296) rfl rfl rfl rfl (by omega) rfl) rfl (Wr (.toU32 (((((eP a).getD i 0)+((eP b).getD i 0))+cy)%4294967296) (lY underlying24) underlying143 rfl rfl) rfl ?_))))))))
  refine W.ef rfl rfl rfl (Ef.gq (len:=1) [_] underlying35 jH rfl (by simp[Value.cells]) rfl (by decide) (by decide) ?_)
  intro ad ae aC I J
  have I:fA ae ad 143 (([((((((eP a).getD i 0)+((eP b).getD i 0))+cy)%4294967296)%4294967296)]).map dv).flatten.toArray:=I
  have aS:eU ae aB.heap.size 143 dv 1 (some ⟨ad,0,none⟩) 1 1 ([((((((eP a).getD i 0)+((eP b).getD i 0))+cy)%4294967296)%4294967296)]):=I.kL aC fF rfl rfl (by decide)
  have af:=(k.le (F.trans (H.trans J)))
  refine W.ef rfl rfl rfl (Ef.mP (a:=((((((eP a).getD i 0)+((eP b).getD i 0))+cy)%4294967296)%4294967296)) underlying35 jH underlying35 fF rfl af rfl I (by omega) (by unfold maxLen;omega) (by have:=L;have:=F.size;have:=H.size;have:=J.size;omega) ?_)
  intro aE aF aT aG ah aU
  have aH:=aG.cast (m':=(i+1)) (ys:=(out++[(((eP a).getD i 0)+((eP b).getD i 0)+cy)%B])) rfl (by rw[Nat.mod_mod];rfl)
  refine Wn 1 rfl (Nx (WC.region (Wn 1 rfl (Wa (.tF ((((eP a).getD i 0)+((eP b).getD i 0))+cy) 4294967296 (((((eP a).getD i 0)+((eP b).getD i 0))+cy)/4294967296) rfl rfl rfl rfl (by omega) (by omega) rfl) rfl (Wn 1 rfl (W.nil (E.gI (E.eY (WC.region (Wn 1 rfl (Wa (.add rfl rfl (by omega)) rfl (Wn 1 rfl (W.nil (E.again (i+1,((((eP a).getD i 0)+((eP b).getD i 0)+cy)/4294967296),(out++[(((eP a).getD i 0)+((eP b).getD i 0)+cy)%B]),aE,aF) (.of rfl) ?_ ?_))))))))))))))
  ·exact⟨by omega,by rw[List.length_append,hol];rfl,Fh BA (Nat.mod_lt _ (by decide)),yu hol hov,by omega,fun h=>by have:=l (by omega);have:=o (by omega);omega,(((ac.trans H).trans J).gG ah (fun q hq=>Nat.le_trans s.size (af.row hq).1)),by have:=K;have:=F.size;have:=H.size;have:=J.size;have:=ah.size;omega,aH⟩
  show max n m+1-(i+1)<max n m+1-i;omega
 refine Cn rfl (dF c0) (WC.exit (E.fC (E.fC (E.gW (E.eY (Sr (Wn 1 rfl (W.cl BR rfl rfl (by have h:=sI (c:=co) e k.vec BA k.cap.1 (by omega);rw[show val out=(a+b)from by have h9:=hov;rw[Ak a (by omega),Ak b (by omega),show cy=0 by omega,Nat.mul_zero,Nat.add_zero]at h9;exact h9]at h;exact h) ?_))))))))
 rintro _ aV ⟨aW,aX,rfl,aI,aJ⟩
 refine Wn 1 rfl (Nx (Rt (E.fu rfl rfl ?_)))
 exact⟨_,_,rfl,(aI.mono f.size),(f.trans aJ)⟩

theorem Ro {A A2:Option Addr}{n c m c2 a b:Nat}(w:World)(hV:Vec w dv 1 A n (eP a))(hW:Vec w dv 1 A2 m (eP b))(hba:b<=a)(hn:n<=100000)(hm:m<=100000):Calls prog 194 #[.slice A n c,.slice A2 m c2] w fun r w'=>∃A c,r= .returned (.tuple #[.slice A (eP (a-b)).length c,.bool true])/\eU w' w.heap.size 143 dv 1 A (eP (a-b)).length c (eP (a-b))/\Le w w':=by
 have hl:=hV.1
 have ab:=hW.1
 have hB:B=4294967296:=rfl
 refine enter func194 rfl rfl ?_
 have v:=Le.refl w
 refine Sr (Wn 2 rfl (Nx (Sr (Wn 1 rfl (W.cl sW rfl rfl (jL w (hV.le v) (by omega)) ?_)))))
 rintro _ J ⟨rfl,K⟩
 have x:=v.trans K
 refine Wn 1 rfl (Nx (Sr (Wn 1 rfl (W.cl sW rfl rfl (jL J (hW.le x) (by omega)) ?_))))
 rintro _ L ⟨rfl,N⟩
 have t:=x.trans N
 refine Wn 1 rfl (Nx (Sq (Sr (Wn 2 rfl (W.cl TB rfl rfl (xU L (hV.le t) (hW.le t) (by omega) (by omega)) ?_)))))
 rintro _ f ⟨rfl,O⟩
 have y:=t.trans O
 refine Wa (.dec (.lss rfl rfl) (dF (by unfold lH;split<;>(try split)<;>omega))) rfl ?_
 refine Nx (WC.iD rfl (Sn (Sr (Wn 1 rfl (Nx (Sr (Wn 1 rfl (Nx (Sq (Sr (Wn 1 rfl (Nx (WC.block (WC.loop (ι:=Nat×Nat×(List Nat)×(Option Addr)×Nat) (fun⟨i,cy,out,Ao,co⟩=>[(6,.slice A n c),(7,.slice A2 m c2),(8,.slice Ao i co),(9,.int .u64 ((cy:Nat):Int)),(10,.int .i64 ((i:Nat):Int))]) (fun⟨i,cy,out,Ao,co⟩ e=>(i<=n)/\(out.length=i)/\(∀d∈out,d<B)/\(val out+b%B^i=a%B^i+B^i*cy)/\(cy<=1)/\Le w e/\f.heap.size<=e.heap.size/\eU e f.heap.size 143 dv 1 Ao i co out) (fun⟨i,cy,out,Ao,co⟩=>n-i) (0,0,[],none,0) ?_ ?_ ?_))))))))))))))
 ·exact .of rfl
 ·exact⟨Nat.zero_le _,rfl,(fun d hd=>by cases hd),by simp[val,Nat.mod_one],by decide,y,Nat.le_refl _,(eU.nil f f.heap.size 143 dv 1 none)⟩
 rintro⟨i,cy,out,Ao,co⟩ e ⟨hi,hol,BA,hov,hcy,j,P,u⟩
 have Q:f.heap.size<=e.heap.size:=by omega
 refine Sq (Sr (Wn 2 rfl (Wr (.len underlying35 rfl) rfl (Wn 1 rfl (Nx ?_)))))
 by_cases z:((i:Nat):Int)<((n:Nat):Int)
 ·refine Cy rfl (dT z) ?_
  have hx:=kW a i
  have hy:=kW b i
  refine Sn (Sq (WC.block (Sr (Wn 2 rfl (W.cl oZ rfl rfl (iZ i e (hV.le j) (by omega) (by omega)) ?_)))))
  rintro _ R ⟨rfl,k⟩
  have C:=j.trans k
  refine Wa (.addN 4294967296 ((eP a).getD i 0) (4294967296+((eP a).getD i 0)) rfl rfl rfl rfl (by omega)) rfl (Wn 2 rfl (W.cl oZ rfl rfl (iZ i R (hW.le C) (by omega) (by omega)) ?_))
  rintro _ S ⟨rfl,l⟩
  refine Wa (.xq (4294967296+((eP a).getD i 0)) ((eP b).getD i 0) ((4294967296+((eP a).getD i 0))-((eP b).getD i 0)) rfl rfl rfl rfl (by omega) (by omega)) rfl (Wn 1 rfl (Wa (.xq ((4294967296+((eP a).getD i 0))-((eP b).getD i 0)) cy (((4294967296+((eP a).getD i 0))-((eP b).getD i 0))-cy) rfl rfl rfl rfl (by omega) (by omega)) rfl (Wn 1 rfl (Nx (Sr (Wn 2 rfl (Wa (.om (((4294967296+((eP a).getD i 0))-((eP b).getD i 0))-cy) 4294967296 ((((4294967296+((eP a).getD i 0))-((eP b).getD i 0))-cy)%4294967296) rfl rfl rfl rfl (by omega) rfl) rfl ?_)))))))
  refine Wr (.toU32 ((((4294967296+((eP a).getD i 0))-((eP b).getD i 0))-cy)%4294967296) (lY underlying24) underlying143 rfl rfl) rfl (W.ef rfl rfl rfl (Ef.gq (len:=1) [_] underlying35 jH rfl (by simp[Value.cells]) rfl (by decide) (by decide) ?_))
  intro D F T o s
  have o:fA F D 143 (([(((((4294967296+((eP a).getD i 0))-((eP b).getD i 0))-cy)%4294967296)%4294967296)]).map dv).flatten.toArray:=o
  have ac:eU F S.heap.size 143 dv 1 (some ⟨D,0,none⟩) 1 1 ([(((((4294967296+((eP a).getD i 0))-((eP b).getD i 0))-cy)%4294967296)%4294967296)]):=o.kL T fF rfl rfl (by decide)
  have H:=(u.le (k.trans (l.trans s)))
  refine W.ef rfl rfl rfl (Ef.mP (a:=(((((4294967296+((eP a).getD i 0))-((eP b).getD i 0))-cy)%4294967296)%4294967296)) underlying35 jH underlying35 fF rfl H rfl o (by omega) (by unfold maxLen;omega) (by have:=Q;have:=k.size;have:=l.size;have:=s.size;omega) ?_)
  intro U V ad X I ae
  have Y:=X.cast (m':=(i+1)) (ys:=(out++[(4294967296+((eP a).getD i 0)-((eP b).getD i 0)-cy)%B])) rfl (by rw[Nat.mod_mod];rfl)
  refine Wn 1 rfl (Nx (WC.region (Wn 1 rfl (Wa (.tF (((4294967296+((eP a).getD i 0))-((eP b).getD i 0))-cy) 4294967296 ((((4294967296+((eP a).getD i 0))-((eP b).getD i 0))-cy)/4294967296) rfl rfl rfl rfl (by omega) (by omega) rfl) rfl (Wa (.xq 1 ((((4294967296+((eP a).getD i 0))-((eP b).getD i 0))-cy)/4294967296) (1-((((4294967296+((eP a).getD i 0))-((eP b).getD i 0))-cy)/4294967296)) rfl rfl rfl rfl (by omega) (by omega)) rfl (Wn 1 rfl (W.nil (E.gI (E.eY (WC.region (Wn 1 rfl (Wa (.add rfl rfl (by omega)) rfl (Wn 1 rfl (W.nil ?_))))))))))))))
  refine E.again (i+1,(1-(4294967296+((eP a).getD i 0)-((eP b).getD i 0)-cy)/4294967296),(out++[(4294967296+((eP a).getD i 0)-((eP b).getD i 0)-cy)%B]),U,V) (.of rfl) ?_ ?_
  ·exact⟨by omega,by rw[List.length_append,hol];rfl,Fh BA (Nat.mod_lt _ (by decide)),Nk hcy hol hov,by omega,(((C.trans l).trans s).gG I (fun q hq=>Nat.le_trans y.size (H.row hq).1)),by have:=P;have:=k.size;have:=l.size;have:=s.size;have:=I.size;omega,Y⟩
  first|omega|(simp only[];omega)
 refine Cn rfl (dF z) (WC.exit (E.fC (E.fC (E.gW (E.eY (Sr (Wn 1 rfl (W.cl BR rfl rfl (by have h:=sI (c:=co) e u.vec BA u.cap.1 (by omega);rw[show val out=(a-b)from Pm BA hol (Bz a (by omega)) hba hcy hov]at h;exact h) ?_))))))))
 rintro _ af ⟨ah,ai,rfl,Z,aa⟩
 refine Wn 2 rfl (Nx (Rt (E.jb rfl rfl rfl ?_)))
 exact⟨_,_,rfl,(Z.mono j.size),(j.trans aa)⟩

theorem xV {A A2:Option Addr}{n c m c2 a b:Nat}(w:World)(hV:Vec w dv 1 A n (eP a))(hW:Vec w dv 1 A2 m (eP b))(hn:n<=100000)(hm:m<=100000):Calls prog 96 #[.slice A n c,.slice A2 m c2] w fun r w'=>∃A c,r= .returned (.slice A (eP (a*b)).length c)/\eU w' w.heap.size 143 dv 1 A (eP (a*b)).length c (eP (a*b))/\Le w w':=by
 have hl:=hV.1
 have az:=hW.1
 have hB:B=4294967296:=rfl
 refine enter func96 rfl rfl ?_
 have X:=Le.refl w
 refine Sr (Wn 1 rfl (Nx (Sr (Wn 1 rfl (W.cl sW rfl rfl (jL w (hV.le X) (by omega)) ?_)))))
 rintro _ aj ⟨rfl,Y⟩
 have Z:=X.trans Y
 refine Wn 1 rfl (Nx (Sr (Wn 1 rfl (W.cl sW rfl rfl (jL aj (hW.le Z) (by omega)) ?_))))
 rintro _ y ⟨rfl,aa⟩
 have J:=Z.trans aa
 refine Wn 1 rfl (Nx (Sr (Wn 1 rfl (Wr (.len underlying35 rfl) rfl (Wn 1 rfl (Wr (.len underlying35 rfl) rfl (Wa (.add rfl rfl (by omega)) rfl (Wa (.add rfl rfl (by omega)) rfl ?_))))))))
 refine W.ef rfl rfl rfl (Ef.rA 0 ((n+m)+1) underlying35 jH fF rfl rfl (by omega) rfl (by omega) (by omega) (by unfold maxLen;omega) ?_)
 intro z ak aA s K
 have L3:=J.trans K
 refine Wn 1 rfl (Nx (Sq (Sr (Wn 1 rfl (Nx (WC.block (WC.loop (ι:=Nat×(List Nat)) (fun⟨i,out⟩=>[(5,.slice A n c),(6,.slice A2 m c2),(7,.slice (some ⟨z,0,none⟩) (n+m+1) ((n+m)+1)),(8,.int .i64 ((i:Nat):Int))]) (fun⟨i,out⟩ f=>(i<=n)/\(out.length=n+m+1)/\(∀d∈out,d<B)/\(∀j,i+m<=j->out.getD j 0=0)/\(val out=a%B^i*b)/\Le w f/\ak.heap.size<=f.heap.size/\eU f y.heap.size 143 dv 1 (some ⟨z,0,none⟩) (n+m+1) ((n+m)+1) out) (fun⟨i,out⟩=>n-i) (0,(List.replicate (n+m+1) 0)) ?_ ?_ ?_)))))))
 ·exact .of rfl
 ·exact⟨Nat.zero_le _,List.length_replicate,BU _,(fun j hj=>AO _ _),by rw[ow];simp[Nat.mod_one],L3,Nat.le_refl _,s⟩
 rintro⟨i,out⟩ f ⟨hi,hol,BA,WW,hov,L,al,N⟩
 have am:y.heap.size<=f.heap.size:=by have:=K.size;omega
 refine Sq (Sr (Wn 2 rfl (Wr (.len underlying35 rfl) rfl (Wn 1 rfl (Nx ?_)))))
 by_cases c0:((i:Nat):Int)<((n:Nat):Int)
 ·refine Cy rfl (dT c0) (Sn (Sq (WC.block (Sr (Wn 1 rfl (Nx (Sr (Wn 1 rfl (Nx (WC.block ?_))))))))))
  refine WC.loop (ι:=Nat×Nat×(List Nat)) (fun⟨k,cy,e⟩=>[(5,.slice A n c),(6,.slice A2 m c2),(7,.slice (some ⟨z,0,none⟩) (n+m+1) ((n+m)+1)),(8,.int .i64 ((i:Nat):Int)),(9,.int .u64 ((cy:Nat):Int)),(10,.int .i64 ((k:Nat):Int))]) (fun⟨k,cy,e⟩ t=>(k<=m+1)/\(e.length=n+m+1)/\(∀d∈e,d<B)/\(∀j,i+m+1<=j->e.getD j 0=0)/\(k<=m->e.getD (i+m) 0=0)/\(val e+B^(i+k)*cy=a%B^i*b+B^i*(((eP a).getD i 0)*(b%B^k)))/\(cy<B)/\(k=m+1->cy=0)/\Le w t/\f.heap.size<=t.heap.size/\eU t y.heap.size 143 dv 1 (some ⟨z,0,none⟩) (n+m+1) ((n+m)+1) e) (fun⟨k,cy,e⟩=>m+1-k) (0,0,out) ?_ ?_ ?_
  ·exact .of rfl
  ·exact⟨Nat.zero_le _,hol,BA,(fun j hj=>WW j (by omega)),fun _=>WW _ (Nat.le_refl _),by simp[hov,Nat.mod_one],by decide,fun h=>by omega,L,Nat.le_refl _,N⟩
  rintro⟨k,cy,e⟩ t ⟨hk,O,u,P,C,Q,hcy,hce,R,S,T⟩
  have aB:y.heap.size<=t.heap.size:=Nat.le_trans am (by omega)
  refine Sq (Sr (Wn 2 rfl (Wr (.len underlying35 rfl) rfl (Wn 1 rfl ?_))))
  by_cases ab:((k:Nat):Int)<((m:Nat):Int)
  ·refine Dt ab rfl rfl (Wn 3 rfl (Nx (WC.gL rfl ?_)))
   have hx:=kW a i
   have hy:=kW b k
   have ho:=getD_lt u (i+k)
   have hr:=Bp hx hy ho hcy
   have hBB:B*B=18446744073709551616:=by decide
   have U:m<=k->((eP b).getD k 0)=0:=fun h=>getD_none (by omega)
   refine Sn (Sq (WC.block (Sq (WC.draw [0,1,3,4,7,8,9,10,11,12,13,15,2,5,6,14,16,17] mixed (by kernel_rfl) fun V l=>?_))))
   have L4:=R.trans l
   refine Gn 7 rfl (Ga rfl (.add rfl rfl (by omega)) (Ga rfl (.fV (i+k) underlying35 fP rfl rfl (s.vec.isSome fF (by omega)) (by omega) (by omega)) ?_))
   have f5:=(T.le l)
   refine Gd rfl (.jB (v:= .int .u32 (((e.getD (i+k) 0):Nat):Int)) gP rfl f5.vec fF (gD e 0 (by omega)) rfl) (Gd rfl (.yh (lY underlying143) underlying24 rfl (IntWalk.u64_in _ (by omega))) (Gn 1 rfl (G.ef rfl rfl rfl rfl rfl (Ef.call oZ rfl rfl (iZ i V (hV.le L4) (by omega) (by omega)) ?_))))
   rintro _ an ⟨rfl,D⟩
   refine⟨_,rfl,?_⟩
   refine⟨fun _=>D,?_⟩
   have L6:=L4.trans D
   refine G.ef rfl rfl rfl rfl rfl (Ef.call oZ rfl rfl (iZ k an (hW.le L6) (by omega) (by omega)) ?_)
   rintro _ aC ⟨rfl,F⟩
   refine⟨_,rfl,?_⟩
   refine⟨fun _=>F,?_⟩
   refine Ga rfl (.mulN ((eP a).getD i 0) ((eP b).getD k 0) (((eP a).getD i 0)*((eP b).getD k 0)) rfl rfl rfl rfl (by omega)) (Ga rfl (.addN (((eP a).getD i 0)*((eP b).getD k 0)) (e.getD (i+k) 0) ((((eP a).getD i 0)*((eP b).getD k 0))+(e.getD (i+k) 0)) rfl rfl rfl rfl (by omega)) (Ga rfl (.addN ((((eP a).getD i 0)*((eP b).getD k 0))+(e.getD (i+k) 0)) cy (((((eP a).getD i 0)*((eP b).getD k 0))+(e.getD (i+k) 0))+cy) rfl rfl rfl rfl (by omega)) (Gn 1 rfl (G.nil (E.eY (Sr (Wn 3 rfl (Wa (.add rfl rfl (by omega)) rfl (Wn 1 rfl ?_)))))))))
   refine Wa (.om (((((eP a).getD i 0)*((eP b).getD k 0))+(e.getD (i+k) 0))+cy) 4294967296 ((((((eP a).getD i 0)*((eP b).getD k 0))+(e.getD (i+k) 0))+cy)%4294967296) rfl rfl rfl rfl (by omega) rfl) rfl (Wr (.toU32 ((((((eP a).getD i 0)*((eP b).getD k 0))+(e.getD (i+k) 0))+cy)%4294967296) (lY underlying24) underlying143 rfl rfl) rfl (Wa (.fV (i+k) underlying35 fP rfl rfl (s.vec.isSome fF (by omega)) (by omega) (by omega)) rfl ?_))
   have f8:=(f5.le (D.trans F))
   refine W.iO rfl rfl (Ef.vE (j:=(i+k)) (o:=0) (((((((eP a).getD i 0)*((eP b).getD k 0))+(e.getD (i+k) 0))+cy)%4294967296)%4294967296) fP rfl (by omega) rfl f8 fF (gD e 0 (by omega)) (by decide) rfl rfl fun aE ao ac=>?_)
   have L9:=(L6.trans F).gG ac (fun q hq=>Nat.le_trans J.size (f8.row hq).1)
   have ap:=ao.cast (m':=(n+m+1)) (ys:=(e.set (i+k) ((((eP a).getD i 0)*((eP b).getD k 0)+e.getD (i+k) 0+cy)%B))) rfl (by rw[Nat.mod_mod];rfl)
   refine Nx (WC.region (Wn 1 rfl (Wa (.tF (((((eP a).getD i 0)*((eP b).getD k 0))+(e.getD (i+k) 0))+cy) 4294967296 ((((((eP a).getD i 0)*((eP b).getD k 0))+(e.getD (i+k) 0))+cy)/4294967296) rfl rfl rfl rfl (by omega) (by omega) rfl) rfl (Wn 1 rfl (W.nil (E.gI (E.eY (WC.region (Wn 1 rfl (Wa (.add rfl rfl (by omega)) rfl (Wn 1 rfl (W.nil (E.again (k+1,((((eP a).getD i 0)*((eP b).getD k 0)+e.getD (i+k) 0+cy)/4294967296),(e.set (i+k) ((((eP a).getD i 0)*((eP b).getD k 0)+e.getD (i+k) 0+cy)%B))) (.of rfl) ?_ ?_)))))))))))))
   ·exact⟨by omega,by rw[List.length_set];exact O,vY u (Nat.mod_lt _ (by decide)),(fun j hj=>by rw[List.getD_eq_getElem?_getD,List.getElem?_set_ne (by omega),<-List.getD_eq_getElem?_getD];exact P j (by omega)),(fun hj=>by rw[List.getD_eq_getElem?_getD,List.getElem?_set_ne (by omega),<-List.getD_eq_getElem?_getD];exact C (by omega)),by rw[wh b];exact Bq (by omega) Q,Nat.div_lt_of_lt_mul (by rw[hB]at hr;exact hr),(fun aq=>Ec (U (by omega)) (by rw[show k=m by omega];exact C (by omega)) hcy),L9,by have:=S;have:=l.size;have:=D.size;have:=F.size;have:=ac.size;omega,ap⟩
   show m+1-(k+1)<m+1-k;omega
  refine Df ab rfl rfl (Wn 3 rfl (Nx ?_))
  by_cases c1:0<((cy:Nat):Int)
  ·refine Cy rfl (dT c1) ?_
   have hx:=kW a i
   have hy:=kW b k
   have ho:=getD_lt u (i+k)
   have hr:=Bp hx hy ho hcy
   have hBB:B*B=18446744073709551616:=by decide
   have U:m<=k->((eP b).getD k 0)=0:=fun h=>getD_none (by omega)
   refine Sn (Sq (WC.block (Sq (WC.draw [0,1,3,4,7,8,9,10,11,12,13,15,2,5,6,14,16,17] mixed (by kernel_rfl) fun V l=>?_))))
   have ad:=R.trans l
   refine Gn 7 rfl (Ga rfl (.add rfl rfl (by omega)) (Ga rfl (.fV (i+k) underlying35 fP rfl rfl (s.vec.isSome fF (by omega)) (by omega) (by omega)) ?_))
   have ae:=(T.le l)
   refine Gd rfl (.jB (v:= .int .u32 (((e.getD (i+k) 0):Nat):Int)) gP rfl ae.vec fF (gD e 0 (by omega)) rfl) (Gd rfl (.yh (lY underlying143) underlying24 rfl (IntWalk.u64_in _ (by omega))) (Gn 1 rfl (G.ef rfl rfl rfl rfl rfl (Ef.call oZ rfl rfl (iZ i V (hV.le ad) (by omega) (by omega)) ?_))))
   rintro _ ar ⟨rfl,H⟩
   refine⟨_,rfl,?_⟩
   refine⟨fun _=>H,?_⟩
   have af:=ad.trans H
   refine G.ef rfl rfl rfl rfl rfl (Ef.call oZ rfl rfl (iZ k ar (hW.le af) (by omega) (by omega)) ?_)
   rintro _ aF ⟨rfl,I⟩
   refine⟨_,rfl,?_⟩
   refine⟨fun _=>I,?_⟩
   refine Ga rfl (.mulN ((eP a).getD i 0) ((eP b).getD k 0) (((eP a).getD i 0)*((eP b).getD k 0)) rfl rfl rfl rfl (by omega)) (Ga rfl (.addN (((eP a).getD i 0)*((eP b).getD k 0)) (e.getD (i+k) 0) ((((eP a).getD i 0)*((eP b).getD k 0))+(e.getD (i+k) 0)) rfl rfl rfl rfl (by omega)) (Ga rfl (.addN ((((eP a).getD i 0)*((eP b).getD k 0))+(e.getD (i+k) 0)) cy (((((eP a).getD i 0)*((eP b).getD k 0))+(e.getD (i+k) 0))+cy) rfl rfl rfl rfl (by omega)) (Gn 1 rfl (G.nil (E.eY (Sr (Wn 3 rfl (Wa (.add rfl rfl (by omega)) rfl (Wn 1 rfl ?_)))))))))
   refine Wa (.om (((((eP a).getD i 0)*((eP b).getD k 0))+(e.getD (i+k) 0))+cy) 4294967296 ((((((eP a).getD i 0)*((eP b).getD k 0))+(e.getD (i+k) 0))+cy)%4294967296) rfl rfl rfl rfl (by omega) rfl) rfl (Wr (.toU32 ((((((eP a).getD i 0)*((eP b).getD k 0))+(e.getD (i+k) 0))+cy)%4294967296) (lY underlying24) underlying143 rfl rfl) rfl (Wa (.fV (i+k) underlying35 fP rfl rfl (s.vec.isSome fF (by omega)) (by omega) (by omega)) rfl ?_))
   have ah:=(ae.le (H.trans I))
   refine W.iO rfl rfl (Ef.vE (j:=(i+k)) (o:=0) (((((((eP a).getD i 0)*((eP b).getD k 0))+(e.getD (i+k) 0))+cy)%4294967296)%4294967296) fP rfl (by omega) rfl ah fF (gD e 0 (by omega)) (by decide) rfl rfl fun aG au ai=>?_)
   have av:=(af.trans I).gG ai (fun q hq=>Nat.le_trans J.size (ah.row hq).1)
   have aw:=au.cast (m':=(n+m+1)) (ys:=(e.set (i+k) ((((eP a).getD i 0)*((eP b).getD k 0)+e.getD (i+k) 0+cy)%B))) rfl (by rw[Nat.mod_mod];rfl)
   refine Nx (WC.region (Wn 1 rfl (Wa (.tF (((((eP a).getD i 0)*((eP b).getD k 0))+(e.getD (i+k) 0))+cy) 4294967296 ((((((eP a).getD i 0)*((eP b).getD k 0))+(e.getD (i+k) 0))+cy)/4294967296) rfl rfl rfl rfl (by omega) (by omega) rfl) rfl (Wn 1 rfl (W.nil (E.gI (E.eY (WC.region (Wn 1 rfl (Wa (.add rfl rfl (by omega)) rfl (Wn 1 rfl (W.nil (E.again (k+1,((((eP a).getD i 0)*((eP b).getD k 0)+e.getD (i+k) 0+cy)/4294967296),(e.set (i+k) ((((eP a).getD i 0)*((eP b).getD k 0)+e.getD (i+k) 0+cy)%B))) (.of rfl) ?_ ?_)))))))))))))
   ·exact⟨by omega,by rw[List.length_set];exact O,vY u (Nat.mod_lt _ (by decide)),(fun j hj=>by rw[List.getD_eq_getElem?_getD,List.getElem?_set_ne (by omega),<-List.getD_eq_getElem?_getD];exact P j (by omega)),(fun hj=>by rw[List.getD_eq_getElem?_getD,List.getElem?_set_ne (by omega),<-List.getD_eq_getElem?_getD];exact C (by omega)),by rw[wh b];exact Bq (by omega) Q,Nat.div_lt_of_lt_mul (by rw[hB]at hr;exact hr),(fun aq=>Ec (U (by omega)) (by rw[show k=m by omega];exact C (by omega)) hcy),av,by have:=S;have:=l.size;have:=H.size;have:=I.size;have:=ai.size;omega,aw⟩
   show m+1-(k+1)<m+1-k;omega
  refine Cn rfl (dF c1) (WC.exit (E.fC (E.fC (E.gW (E.gI (E.eY (WC.region (Wn 1 rfl (Wa (.add rfl rfl (by omega)) rfl (Wn 1 rfl (W.nil (E.again (i+1,e) (.of rfl) ?_ ?_))))))))))))
  ·exact⟨by omega,O,u,(fun j hj=>P j (by omega)),by have x:=Q;rw[Ak b (by omega),show cy=0 by omega,Nat.mul_zero,Nat.add_zero]at x;rw[wh a,Nat.add_mul,Nat.mul_assoc];exact x,R,by have:=al;have:=S;have:=Y.size;have:=aa.size;have:=K.size;omega,T⟩
  first|omega|(simp only[];omega)
 refine Cn rfl (dF c0) (WC.exit (E.fC (E.fC (E.gW (E.eY (Sr (Wn 1 rfl (W.cl BR rfl rfl (by have h:=sI (c:=((n+m)+1)) f N.vec BA N.cap.1 (by omega);rw[show val out=(a*b)from by have x:=hov;rw[Ak a (by omega)]at x;exact x]at h;exact h) ?_))))))))
 rintro _ aH ⟨aI,aJ,rfl,ax,ay⟩
 refine Wn 1 rfl (Nx (Rt (E.fu rfl rfl ?_)))
 exact⟨_,_,rfl,(ax.mono L.size),(L.trans ay)⟩

set_option maxHeartbeats 1000000 in
theorem uz {A A2:Option Addr} {n c m c2 a b:Nat} (w:World) (hV:Vec w dv 1 A n (eP a)) (hW:Vec w dv 1 A2 m (eP b)) (hb0:0<b) (hn:n<=100000) (hm:m<=90000):Calls prog 149 #[.slice A n c,.slice A2 m c2] w fun r w'=>∃Aq cq Ar cr,r= .returned (.tuple #[.slice Aq (eP (a/b)).length cq,.slice Ar (eP (a%b)).length cr,.bool true])/\eU w' w.heap.size 143 dv 1 Aq (eP (a/b)).length cq (eP (a/b))/\eU w' w.heap.size 143 dv 1 Ar (eP (a%b)).length cr (eP (a%b))/\Le w w':=by
 have hl:=hV.1
 have aw:=hW.1
 have hB:B=4294967296:=rfl
 have hbl:=DV hb0
 refine enter func149 rfl rfl ?_
 have K:=Le.refl w
 refine Sr (Wn 3 rfl (Nx (Sr (Wn 1 rfl (W.cl sW rfl rfl (jL w (hV.le K) (by omega)) ?_)))))
 rintro _ ab ⟨rfl,ac⟩
 have L:=K.trans ac
 refine Wn 1 rfl (Nx (Sr (Wn 1 rfl (W.cl sW rfl rfl (jL ab (hW.le L) (by omega)) ?_))))
 rintro _ N ⟨rfl,ad⟩
 have O:=L.trans ad
 refine Wn 1 rfl (Nx (Sq (Sr (Wn 1 rfl (Wr (.len underlying35 rfl) rfl (Wa (.dec (.eql rfl rfl) (dF (by omega))) rfl (Nx (WC.iD rfl (Sn (Sr (Wn 1 rfl (Wr (.len underlying35 rfl) rfl (W.ef rfl rfl rfl ?_)))))))))))))
 refine Ef.rA 0 n underlying35 jH fF rfl rfl rfl rfl rfl (by omega) (by unfold maxLen;omega) ?_
 intro P u ax z R
 refine Wn 1 rfl (Nx (Sr (Wn 1 rfl (Nx (Sq (Sr (Wn 1 rfl (Wr (.len underlying35 rfl) rfl (Wa (.mul rfl rfl (by omega)) rfl (Wa (.sub rfl rfl (by omega)) rfl (Wn 1 rfl (Nx (WC.block ?_)))))))))))))
 refine WC.loop (ι:=Nat×Nat×Nat×(List Nat)×(Option Addr)×Nat) (fun⟨k,Q,r,q,Ar,cr⟩=>[(7,.slice A n c),(8,.slice A2 m c2),(9,.slice (some ⟨P,0,none⟩) n n),(10,.slice Ar ((eP r).length) cr),(11,.int .i64 (((k:Nat):Int)-1))]) (fun⟨k,Q,r,q,Ar,cr⟩ e=>(k<=32*n)/\(q.length=n)/\(∀d∈q,d<B)/\(val q=Q*2^k)/\(QR a b k Q r)/\(r<b)/\Le w e/\u.heap.size<=e.heap.size/\eU e N.heap.size 143 dv 1 (some ⟨P,0,none⟩) n n q/\eU e u.heap.size 143 dv 1 Ar ((eP r).length) cr (eP r)) (fun⟨k,Q,r,q,Ar,cr⟩=>k) ((32*n),0,0,(List.replicate n 0),none,0) ?_ ?_ ?_
 ·exact .cons rfl (.cons rfl (.cons rfl (.cons' rfl (kJ (by rw[eT];rfl)) (.cons' rfl (int_eq (by omega)) (.nil _)))))
 ·exact⟨Nat.le_refl _,List.length_replicate,BU _,by rw[ow,Nat.zero_mul],(show a/2^(32*n)=b*0+0 from by rw[<-LA,Fg a (by omega),Nat.mul_zero]),hb0,(O.trans R),Nat.le_refl _,z,((eU.nil u u.heap.size 143 dv 1 none).cast (by rw[eT];rfl) eT.symm)⟩
 rintro⟨k,Q,r,q,Ar,cr⟩ e ⟨hk,hql,TJ,Z0,VO,hrb,y,S,x,C⟩
 have ay:N.heap.size<=e.heap.size:=by have:=R.size;omega
 have az:u.heap.size<=e.heap.size:=by omega
 refine Sq (Sr (Wn 2 rfl (Nx ?_)))
 by_cases T:0<=(((k:Nat):Int)-1)
 ·refine Cy rfl (dT T) ?_
  have hrl:=gZ (Nat.le_of_lt hrb)
  have aA:=gZ (show r+r<=b+b by omega)
  have aB:=xR b b
  have aC:=xR r r
  have Xd:=Nl (a:=a) (b:=b) (k:=k-1) (Q:=Q) (r:=r) (by rw[show k-1+1=k by omega];exact VO)
  have hbt:(a/2^(k-1)%2)<=1:=by omega
  have aE:=gZ (show(r+r+(a/2^(k-1)%2))<=b+b by omega)
  have aF:=gJ (d:=(a/2^(k-1)%2)) (by omega)
  have hdl:=kW a ((k-1)/32)
  have hdd:=Nat.div_le_self ((eP a).getD ((k-1)/32) 0) (2^((k-1)%32))
  have aG:=Nat.pow_lt_pow_right (a:=2) (by decide) (show((k-1)%32)<32 by omega)
  refine Sn (Sq (WC.block (Sr (Wn 1 rfl (Wa (.as (.move rfl) (int_eq (b:=((k-1:Nat):Int)) (by omega))) rfl (Wa (.quo rfl rfl (by omega)) rfl (Wa (.fV ((k-1)/32) underlying35 fP rfl rfl (hV.isSome fF (by omega)) (by omega) (by omega)) rfl (Wr (.jB (v:= .int .u32 ((((eP a).getD ((k-1)/32) 0):Nat):Int)) gP rfl (hV.le y) fF (gD (eP a) 0 (by first|omega|(simp only[List.length_cons,List.length_nil];omega))) rfl) rfl ?_))))))))
  refine Wa (.as (.move rfl) (int_eq (b:=((k-1:Nat):Int)) (by omega))) rfl (Wa (.rem rfl rfl (by omega)) rfl (Wr (.as (.yh (lY underlying3) underlying154 rfl (IntWalk.u64_in _ (by omega))) (int_eq (b:=((((k-1)%32):Nat):Int)) (by omega))) rfl (Wa (.qW ((eP a).getD ((k-1)/32) 0) ((k-1)%32) ((eP a).getD ((k-1)/32) 0/2^((k-1)%32)) rfl rfl rfl rfl (by show((k-1)%32)<=32;omega) rfl) rfl ?_)))
  refine Wa (.Wq ((eP a).getD ((k-1)/32) 0/2^((k-1)%32)) 1 (a/2^(k-1)%2) rfl rfl rfl rfl (by omega) (by decide) (by rw[LH,V4])) rfl ?_
  refine Wn 1 rfl (Nx (Sr (Wn 2 rfl (W.cl VG rfl rfl (Jb e C.vec C.vec (by omega) (by omega)) ?_))))
  rintro _ ae ⟨aH,aI,rfl,af,s⟩
  refine Wn 1 rfl (Wr (.yh (lY underlying143) underlying24 rfl (IntWalk.u64_in _ (by omega))) rfl (W.cl P7 rfl rfl (xS (a/2^(k-1)%2) (by omega) ae) ?_))
  rintro _ ah ⟨aJ,aK,rfl,ai,f⟩
  refine W.cl VG rfl rfl (Jb ah (af.le f).vec ai.vec (by omega) (by omega)) ?_
  rintro _ aj ⟨ak,al,rfl,D,t⟩
  have U:=((y.trans s).trans f).trans t
  refine Wn 1 rfl (Nx (Sr (Wn 2 rfl (W.cl TB rfl rfl (xU aj D.vec (hW.le U) (by omega) (by omega)) ?_))))
  rintro _ am ⟨rfl,l⟩
  have F:=U.trans l
  refine Wn 1 rfl (Nx ?_)
  by_cases c2:0<=(lH ((r+r)+(a/2^(k-1)%2)) b)
  ·refine Cy rfl (dT c2) ?_
   have hge:b<=(r+r+(a/2^(k-1)%2)):=by have:=MW (a:=(r+r+(a/2^(k-1)%2))) (b:=b);omega
   have hqs:=SF (q:=q) (Q:=Q) (i:=k-1) TJ (by rw[show k-1+1=k by omega];exact Z0) (by omega)
   have hqd:=getD_lt TJ ((k-1)/32)
   have aL:=gZ (Nat.sub_le (r+r+(a/2^(k-1)%2)) b)
   refine Sr (Wn 2 rfl (W.cl Zg rfl rfl (Ro am (D.le l).vec (hW.le F) hge (by omega) (by omega)) ?_))
   rintro _ aM ⟨an,ao,rfl,V,H⟩
   refine Wn 5 rfl (Nx (Sr (Wn 2 rfl (Nx (WC.region (Wn 1 rfl (Wa (.as (.move rfl) (int_eq (b:=((k-1:Nat):Int)) (by omega))) rfl (Wa (.quo rfl rfl (by omega)) rfl (Wn 1 rfl (Wa (.as (.move rfl) (int_eq (b:=((k-1:Nat):Int)) (by omega))) rfl (Wa (.quo rfl rfl (by omega)) rfl ?_)))))))))))
   refine Wa (.fV ((k-1)/32) underlying35 fP rfl rfl (z.vec.isSome fF (by omega)) (by omega) (by omega)) rfl ?_
   have I:=(x.le (s.trans (f.trans (t.trans (l.trans H)))))
   refine Wr (.jB (v:= .int .u32 (((q.getD ((k-1)/32) 0):Nat):Int)) gP rfl I.vec fF (gD q 0 (by omega)) rfl) rfl (Wa (.as (.move rfl) (int_eq (b:=((k-1:Nat):Int)) (by omega))) rfl (Wa (.rem rfl rfl (by omega)) rfl (Wr (.as (.yh (lY underlying3) underlying154 rfl (IntWalk.u64_in _ (by omega))) (int_eq (b:=((((k-1)%32):Nat):Int)) (by omega))) rfl (Wa (.U4 ((k-1)%32) (2^((k-1)%32)) rfl rfl rfl (by omega) rfl) rfl (Wa (.PG (q.getD ((k-1)/32) 0) (2^((k-1)%32)) ((q.getD ((k-1)/32) 0)+2^((k-1)%32)) rfl rfl rfl rfl (by omega) (by omega) (or_bit (Nat.dvd_of_mod_eq_zero hqs.1))) rfl ?_)))))
   refine Wa (.fV ((k-1)/32) underlying35 fP rfl rfl (z.vec.isSome fF (by omega)) (by omega) (by omega)) rfl (W.iO rfl rfl (Ef.vE (j:=((k-1)/32)) (o:=0) ((q.getD ((k-1)/32) 0)+2^((k-1)%32)) fP rfl (by omega) rfl I fF (gD q 0 (by omega)) (by decide) rfl rfl fun aO ap J=>(W.nil (E.gI (E.eY (WC.region (Wn 1 rfl (Wa (.sub rfl rfl (by omega)) rfl (Wn 1 rfl (W.nil ?_))))))))))
   have aq:=(V.ch J (fun q h1 h2=>by have:=(x.row h1).2;have:=(V.row h2).1;have:=s.size;have:=f.size;have:=t.size;have:=l.size;omega))
   refine E.again ((k-1),(2*Q+1),((r+r+(a/2^(k-1)%2))-b),(q.set ((k-1)/32) ((q.getD ((k-1)/32) 0)+2^((k-1)%32))),an,ao) (.cons rfl (.cons rfl (.cons rfl (.cons rfl (.cons' rfl (int_eq (by omega)) (.nil _)))))) ?_ ?_
   ·exact⟨by omega,by rw[List.length_set];exact hql,vY TJ hqs.2.1,hqs.2.2,(Oj Xd (by omega)),by omega,((F.trans H).gG J (fun q hq=>Nat.le_trans O.size (I.row hq).1)),by have:=S;have:=s.size;have:=f.size;have:=t.size;have:=l.size;have:=H.size;have:=J.size;omega,ap,(aq.mono (by have:=s.size;have:=f.size;have:=t.size;have:=l.size;omega))⟩
   show k-1<k;omega
  refine Cn rfl (dF c2) ?_
  have hlt:(r+r+(a/2^(k-1)%2))<b:=by have:=MW (a:=(r+r+(a/2^(k-1)%2))) (b:=b);omega
  refine WC.skip (E.gI (E.eY (WC.region (Wn 1 rfl (Wa (.sub rfl rfl (by omega)) rfl (Wn 1 rfl (W.nil (E.again ((k-1),(2*Q),(r+r+(a/2^(k-1)%2)),q,ak,al) (.cons rfl (.cons rfl (.cons rfl (.cons rfl (.cons' rfl (int_eq (by omega)) (.nil _)))))) ?_ ?_))))))))
  ·exact⟨by omega,hql,TJ,(Rn Z0 (by omega)),Xd,by omega,F,by have:=S;have:=s.size;have:=f.size;have:=t.size;have:=l.size;omega,(x.le (s.trans (f.trans (t.trans l)))),((D.le l).mono (by have:=s.size;have:=f.size;omega))⟩
  show k-1<k;omega
 refine Cn rfl (dF T) ?_
 have hrl:=gZ (Nat.le_of_lt hrb)
 refine WC.exit (E.fC (E.fC (E.gW (E.eY (Sr (Wn 1 rfl (W.cl BR rfl rfl (by have h:=sI (c:=n) e x.vec TJ x.cap.1 (by omega);rw[show val q=(a/b)from(Ja VO Z0 hrb (by omega)).1]at h;exact h) ?_)))))))
 rintro _ ar ⟨aP,aQ,rfl,au,X⟩
 have Y:=y.trans X
 refine Wn 1 rfl ?_
 have Z:=(C.le X)
 refine W.cl BR rfl rfl (by have h:=sI (c:=cr) ar Z.vec (l8 r) Z.cap.1 (by omega);rw[show val (eP r)=(a%b)from(Ja VO Z0 hrb (by omega)).2]at h;exact h) ?_
 rintro _ aR ⟨aS,aT,rfl,av,aa⟩
 refine Wn 3 rfl (Nx (Rt (E.gU rfl rfl rfl rfl ?_)))
 exact⟨_,_,_,_,rfl,((au.le aa).mono y.size),(av.mono Y.size),(Y.trans aa)⟩

theorem Jc {A A2:Option Addr}{n c m c2 a b:Nat}(w:World)(hV:Vec w dv 1 A n (eP a))(hW:Vec w dv 1 A2 m (eP b))(hnc:n<=c)(hmc:m<=c2)(hn:n<=90000)(hm:m<=90000):Calls prog 148 #[.slice A n c,.slice A2 m c2] w fun r w'=>∃A c,r= .returned (.slice A (eP (Nat.gcd a b)).length c)/\eU w' w.heap.size 143 dv 1 A (eP (Nat.gcd a b)).length c (eP (Nat.gcd a b))/\Le w w':=by
 have hl:=hV.1
 have z:=hW.1
 have hB:B=4294967296:=rfl
 refine enter func148 rfl rfl ?_
 have l:=Le.refl w
 refine Sr (Wn 1 rfl (Nx (Sr (Wn 1 rfl (W.cl sW rfl rfl (jL w (hV.le l) (by omega)) ?_)))))
 rintro _ C ⟨rfl,D⟩
 have o:=l.trans D
 refine Wn 1 rfl (Nx (Sr (Wn 1 rfl (W.cl sW rfl rfl (jL C (hW.le o) (by omega)) ?_))))
 rintro _ F ⟨rfl,H⟩
 have i:=o.trans H
 refine Wn 1 rfl (Nx (Sq (WC.block (WC.loop (ι:=Nat×Nat×(Option Addr)×Nat×Nat×(Option Addr)×Nat×Nat) (fun⟨u,v,Au,nu,cu,Av,nv,cv⟩=>[(5,.slice Au nu cu),(6,.slice Av nv cv)]) (fun⟨u,v,Au,nu,cu,Av,nv,cv⟩ d=>(Nat.gcd u v=Nat.gcd a b)/\(nu<=90000/\nv<=90000)/\((eP u).length=nu/\(eP v).length=nv)/\(nu<=cu/\nv<=cv)/\Le w d/\F.heap.size<=d.heap.size/\Vec d dv 1 Au nu (eP u)/\Vec d dv 1 Av nv (eP v)) (fun⟨u,v,Au,nu,cu,Av,nv,cv⟩=>v) (a,b,A,n,c,A2,m,c2) ?_ ?_ ?_))))
 ·exact .of rfl
 ·exact⟨rfl,⟨by omega,by omega⟩,⟨hl,z⟩,⟨hnc,hmc⟩,i,Nat.le_refl _,(hV.le i),(hW.le i)⟩
 rintro⟨u,v,Au,nu,cu,Av,nv,cv⟩ d ⟨hg,hnn,hll,hcc,j,I,s,t⟩
 refine Sq (Sr (Wn 1 rfl (Wr (.len underlying35 rfl) rfl (Wn 1 rfl (Nx ?_)))))
 by_cases x:0<((nv:Nat):Int)
 ·refine Cy rfl (dT x) ?_
  have f:0<v:=Nat.pos_of_ne_zero (fun e=>by rw[e,eT]at hll;have:=hll.2;simp at this;omega)
  have ZX:=gZ (Nat.le_of_lt (Nat.mod_lt u f))
  refine Sn (WC.block (Sr (Wn 2 rfl (W.cl Qd rfl rfl (uz d s t (by omega) (by omega) (by omega)) ?_))))
  rintro _ Q ⟨R,S,J,K,rfl,T,y,k⟩
  have L:=j.trans k
  refine Wn 7 rfl (Nx (Sr (Wn 2 rfl (Nx (WC.region (Wn 2 rfl (W.nil (E.gI ?_))))))))
  have N:=(t.le k)
  refine E.again (v,(u%v),Av,nv,cv,J,((eP (u%v)).length),K) (.of rfl) ?_ ?_
  ·exact⟨by rw[<-hg,Nat.gcd_comm v,<-Nat.gcd_rec,Nat.gcd_comm],⟨by omega,by omega⟩,⟨hll.2,rfl⟩,⟨hcc.2,y.cap.1⟩,L,by have:=I;have:=k.size;omega,N,y.vec⟩
  exact Nat.mod_lt _ f
 refine Cn rfl (dF x) ?_
 have f:v=0:=Classical.byContradiction (fun e=>by have:=hll.2;rw[jP e]at this;simp at this;omega)
 have hgu:u=Nat.gcd a b:=by rw[<-hg,f,Nat.gcd_zero_right]
 refine WC.exit (E.fC (E.fC (E.gW (E.eY (Sr (Wn 1 rfl (W.cl BR rfl rfl (by have h:=sI (c:=cu) d s (l8 u) (by omega) (by omega);rw[show val (eP u)=(Nat.gcd a b)from by rw[iV,hgu]]at h;exact h) ?_)))))))
 rintro _ U ⟨V,X,rfl,O,P⟩
 refine Wn 1 rfl (Nx (Rt (E.fu rfl rfl ?_)))
 exact⟨_,_,rfl,(O.mono j.size),(j.trans P)⟩
end Go.Proofs.YtkaedikifgpkeaaGreatDoor

namespace Go.Proofs.YtkaedikifgpkeaaGreatDoor
open Tryz
open Go Go.Sx Go.oF
set_option maxRecDepth 20000
theorem Jd (w:World):Calls prog 147 #[] w fun r w'=>∃A c,r= .returned (.slice A (eP 1).length c)/\eU w' w.heap.size 143 dv 1 A (eP 1).length c (eP 1)/\Le w w':=by
 refine enter func147 rfl rfl ?_
 have b:=Le.refl w
 refine Sr (Wn 1 rfl (Nx (Sr (W.cl P7 rfl rfl (xS 1 (by omega) w) ?_))))
 rintro _ f ⟨h,i,rfl,d,e⟩
 refine Wn 1 rfl (Nx (Rt (E.fu rfl rfl ?_)))
 exact⟨_,_,rfl,(d.mono b.size),(b.trans e)⟩

theorem Ol (w:World):Calls prog 87 #[] w fun r w'=>∃A1 c1 A2 c2,r= .returned (.agg #[.slice A1 (eP 0).length c1,.slice A2 (eP 1).length c2])/\eU w' w.heap.size 143 dv 1 A1 (eP 0).length c1 (eP 0)/\eU w' w.heap.size 143 dv 1 A2 (eP 1).length c2 (eP 1)/\Le w w':=by
 refine enter func87 rfl rfl ?_
 have h:=Le.refl w
 refine Sr (W.ef rfl rfl rfl (Ef.fI z37 fun i j v (b:fA j i 37 #[.slice none 0 0,.slice none 0 0]) x=>?_))
 have k:=h.trans x
 refine Nx (Sr (W.cl P7 rfl rfl (xS 0 (by omega) j) ?_))
 rintro _ y ⟨l,m,rfl,n,c⟩
 have o:=k.trans c
 refine W.cl Vt rfl rfl (Jd y) ?_
 rintro _ A ⟨s,t,rfl,u,d⟩
 refine Wa (.gF [.slice l ((eP 0).length) m,.slice s ((eP 1).length) t] jY z37 rfl rfl) rfl (W.sA gV rfl rfl (b.le (c.trans d)) ?_)
 intro z e f
 have e:fA z i 37 #[.slice l ((eP 0).length) m,.slice s ((eP 1).length) t]:=e
 refine Nx (Rt (E.fu rfl (iB rfl e gQ (by rfl)) ?_))
 exact⟨_,_,_,_,rfl,(((n.le d).cb f (n.rl (by have:=b.lt;omega))).mono k.size),((u.cb f (u.rl (by have:=b.lt;have:=c.size;omega))).mono o.size),((o.trans d).tb f h v)⟩

theorem CU {An Ad:Option Addr}{nn cn nd cd p q:Nat}(w:World)(hn:Vec w dv 1 An nn (eP p))(hd:Vec w dv 1 Ad nd (eP q))(bn:nn<=10000)(bd:nd<=10000)(kn:nn<=cn)(kd:nd<=cd):Calls prog 154 #[.agg #[.slice An nn cn,.slice Ad nd cd]] w fun r w'=>r= .returned (.bool (okB p q))/\Le w w':=by
 have hln:=hn.1;have hld:=hd.1
 have J:=gJ (d:=1) (by decide)
 refine enter func154 rfl rfl (Sr (W.ef rfl rfl rfl (Ef.iM rfl fun u f K (i:fA f u 37 #[.slice An nn cn,.slice Ad nd cd]) x=>?_)))
 have j:=(Le.refl w).trans x
 refine Wn 1 rfl (Nx (Sr (Wa (.eZ lW rfl) rfl (Wr (.fe (v:= .slice An nn cn) jl rfl i rfl) rfl (W.cl Qi rfl rfl (wE f (hn.le j) (by omega)) ?_)))))
 rintro _ y ⟨rfl,k⟩
 have l:=j.trans k
 refine Wn 1 rfl (Nx (Sr (Wa (.eZ kN rfl) rfl ?_)))
 have m:=(i.le k)
 refine Wr (.fe (v:= .slice Ad nd cd) jl rfl m rfl) rfl (W.cl Qi rfl rfl (wE y (hd.le l) (by omega)) ?_)
 rintro _ z ⟨rfl,o⟩
 have b:=l.trans o
 refine Wn 1 rfl (Nx (Sq (Sr (Wn 7 rfl (Wg (Any.rd (.eZ kN rfl) _) rfl ?_)))))
 have e:=(m.le o)
 refine Wg (.fe (v:= .slice Ad nd cd) jl rfl e rfl) rfl (Wg (.len underlying35 rfl) rfl (Wn 2 rfl (Nx ?_)))
 by_cases s:((nd:Nat):Int)=0
 ·refine Cy rfl (dT s) ?_
  have c:¬0<q:=fun h=>by have:=sF h;omega
  refine Sr (Wn 1 rfl (Nx (Rt (E.eX (E.fu rfl rfl ?_)))))
  exact⟨rB (by unfold okB;exact(dF (fun h=>c h.1)).symm),b⟩
 refine Cn rfl (dF s) ?_
 have c:0<q:=zf (by omega)
 have hgl:=AR (n:=p) c
 refine Sn (Sr (Wa (.eZ lW rfl) rfl (Wr (.fe (v:= .slice An nn cn) jl rfl e rfl) rfl (Wa (.eZ kN rfl) rfl (Wr (.fe (v:= .slice Ad nd cd) jl rfl e rfl) rfl (W.cl Vu rfl rfl (Jc z (hn.le b) (hd.le b) (by omega) (by omega) (by omega) (by omega)) ?_))))))
 rintro _ A ⟨L,N,rfl,C,D⟩
 refine W.cl Vt rfl rfl (Jd A) ?_
 rintro _ F ⟨O,P,rfl,H,t⟩
 refine W.cl TB rfl rfl (xU F (C.le t).vec H.vec (by omega) (by omega)) ?_
 rintro _ Q ⟨rfl,I⟩
 refine Wn 2 rfl (Nx (Rt (E.fu rfl rfl ?_)))
 exact⟨rB (by unfold okB;exact decide_eq_decide.2 ⟨fun h=>⟨c,qN.1 h⟩,fun h=>qN.2 h.2⟩),(((b.trans D).trans t).trans I)⟩

theorem Je {An Ad:Option Addr}{nn cn nd cd p q:Nat}(w:World)(hn:Vec w dv 1 An nn (eP p))(hd:Vec w dv 1 Ad nd (eP q))(bn:nn<=10000)(bd:nd<=10000)(kn:nn<=cn)(kd:nd<=cd)(hok:okB p q=true):Calls prog 95 #[.agg #[.slice An nn cn,.slice Ad nd cd]] w fun r w'=>r= .returned (.agg #[.slice An nn cn,.slice Ad nd cd])/\Le w w':=by
 have hln:=hn.1;have hld:=hd.1
 refine enter func95 rfl rfl (Sr (W.ef rfl rfl rfl (Ef.iM rfl fun k l v (m:fA l k 37 #[.slice An nn cn,.slice Ad nd cd]) n=>?_)))
 have e:=(Le.refl w).trans n
 refine W.ef rfl rfl rfl (Ef.fI z37 fun f h o (s:fA h f 37 #[.slice none 0 0,.slice none 0 0]) i=>?_)
 have b:=e.trans i
 refine Nx (Sr ?_)
 have j:=(m.le i)
 refine Wr (.fB gQ (by rfl) rfl j) rfl ?_
 refine W.cl Vw rfl rfl (CU h (hn.le b) (hd.le b) (by omega) (by omega) (by omega) (by omega)) ?_
 rintro _ x ⟨rfl,c⟩
 refine Wn 1 rfl (Nx (Sq (Sr (Wn 1 rfl (Nx (Cy rfl hok (Sr (Wr (.fB gQ (by rfl) rfl (j.le c)) rfl ?_))))))))
 refine W.sA gV rfl rfl (s.le c) ?_
 intro t d u
 have d:fA t f 37 #[.slice An nn cn,.slice Ad nd cd]:=d
 refine Nx (Rt (E.eX (E.fu rfl (iB rfl d gQ (by rfl)) ?_)))
 exact⟨rfl,((b.trans c).tb u e o)⟩

theorem KM {An Ad:Option Addr}{nn cn nd cd p q:Nat}(w:World)(hn:Vec w dv 1 An nn (eP p))(hd:Vec w dv 1 Ad nd (eP q))(bn:nn<=10000)(bd:nd<=10000)(kn:nn<=cn)(kd:nd<=cd)(hok:¬okB p q=true):Calls prog 95 #[.agg #[.slice An nn cn,.slice Ad nd cd]] w fun r w'=>∃A1 c1 A2 c2,r= .returned (.agg #[.slice A1 (eP 0).length c1,.slice A2 (eP 1).length c2])/\eU w' w.heap.size 143 dv 1 A1 (eP 0).length c1 (eP 0)/\eU w' w.heap.size 143 dv 1 A2 (eP 1).length c2 (eP 1)/\Le w w':=by
 have hln:=hn.1;have hld:=hd.1
 refine enter func95 rfl rfl (Sr (W.ef rfl rfl rfl (Ef.iM rfl fun s t H (u:fA t s 37 #[.slice An nn cn,.slice Ad nd cd]) v=>?_)))
 have i:=(Le.refl w).trans v
 refine W.ef rfl rfl rfl (Ef.fI z37 fun j k x (c:fA k j 37 #[.slice none 0 0,.slice none 0 0]) l=>?_)
 have d:=i.trans l
 refine Nx (Sr (Wr (.fB gQ (by rfl) rfl (u.le l)) rfl ?_))
 refine W.cl Vw rfl rfl (CU k (hn.le d) (hd.le d) (by omega) (by omega) (by omega) (by omega)) ?_
 rintro _ y ⟨rfl,b⟩
 have e:=d.trans b
 refine Wn 1 rfl (Nx (Sq (Sr (Wn 1 rfl (Nx (Cn rfl (Bool.eq_false_iff.2 hok) (Sn (Sr (W.cl abe rfl rfl (Ol y) ?_)))))))))
 rintro _ I ⟨z,A,C,D,rfl,m,n,o⟩
 refine W.sA gV rfl rfl (c.le (b.trans o)) ?_
 intro F f h
 have f:fA F j 37 #[.slice z ((eP 0).length) A,.slice C ((eP 1).length) D]:=f
 refine Nx (Rt (E.fu rfl (iB rfl f gQ (by rfl)) ?_))
 exact⟨_,_,_,_,rfl,((m.cb h (m.rl (by have:=c.lt;have:=b.size;omega))).mono e.size),((n.cb h (n.rl (by have:=c.lt;have:=b.size;omega))).mono e.size),((e.trans o).tb h i x)⟩

theorem sJ {b1:Nat}{An Ad:Option Addr}{nn cn nd cd p q:Nat}(w:World)(hn:Vec w dv 1 An nn (eP p))(hd:Vec w dv 1 Ad nd (eP q))(bn:nn<=10000)(bd:nd<=10000)(h1:∀g,kT An=some g->0<nn->g<b1)(h2:∀g,kT Ad=some g->0<nd->g<b1)(kn:nn<=cn)(kd:nd<=cd):
    Calls prog 95 #[.agg #[.slice An nn cn,.slice Ad nd cd]] w fun r w'=>∃A1 c1 A2 c2,r= .returned (.agg #[.slice A1 (eP (fE (⟨p,q⟩:Fr)).n).length c1,.slice A2 (eP (fE (⟨p,q⟩:Fr)).d).length c2])/\zx w' b1 w.heap.size A1 (eP (fE (⟨p,q⟩:Fr)).n).length (eP (fE (⟨p,q⟩:Fr)).n)/\zx w' b1 w.heap.size A2 (eP (fE (⟨p,q⟩:Fr)).d).length (eP (fE (⟨p,q⟩:Fr)).d)/\(eP (fE (⟨p,q⟩:Fr)).n).length<=c1/\(eP (fE (⟨p,q⟩:Fr)).d).length<=c2/\Le w w':=by
  by_cases hok:okB p q=true
  · rw[show fE (⟨p,q⟩:Fr)=⟨p,q⟩from if_pos hok]
    refine(Je (cn:=cn) (cd:=cd) w hn hd bn bd kn kd hok).mono fun r w' ⟨h,hl⟩=>?_
    have hln:=hn.1
    have hld:=hd.1
    subst hln hld
    exact⟨An,cn,Ad,cd,h,⟨hn.le hl,fun g hg hm=> .inl (h1 g hg hm)⟩,⟨hd.le hl,fun g hg hm=> .inl (h2 g hg hm)⟩,kn,kd,hl⟩
  · rw[show fE (⟨p,q⟩:Fr)=⟨0,1⟩from if_neg hok]
    refine(KM (cn:=cn) (cd:=cd) w hn hd bn bd kn kd hok).mono fun r w' ⟨A1,c1,A2,c2,h,b,c,hl⟩=>?_
    exact⟨A1,c1,A2,c2,h,⟨b.vec,fun g hg hm=> .inr (xJ b hg hm)⟩,⟨c.vec,fun g hg hm=> .inr (xJ c hg hm)⟩,b.cap.1,c.cap.1,hl⟩

theorem Jf {A A2:Option Addr}{n c m c2 a b:Nat}(w:World)(hV:Vec w dv 1 A n (eP a))(hW:Vec w dv 1 A2 m (eP b))(hnc:n<=c)(hmc:m<=c2)(hb:0<b)(hn:n<=90000)(hm:m<=90000):Calls prog 88 #[.slice A n c,.slice A2 m c2] w fun r w'=>∃A1 c1 A2 c2,r= .returned (.agg #[.slice A1 (eP (gY a b).n).length c1,.slice A2 (eP (gY a b).d).length c2])/\eU w' w.heap.size 143 dv 1 A1 (eP (gY a b).n).length c1 (eP (gY a b).n)/\eU w' w.heap.size 143 dv 1 A2 (eP (gY a b).d).length c2 (eP (gY a b).d)/\Le w w':=by
 have hl:=hV.1;have O:=hW.1
 have P:0<Nat.gcd a b:=Fb hb
 have hgl:=AR (n:=a) hb
 refine enter func88 rfl rfl ?_
 have t:=Le.refl w
 refine Sr (W.ef rfl rfl rfl (Ef.fI z37 fun u v I (h:fA v u 37 #[.slice none 0 0,.slice none 0 0]) J=>?_))
 have i:=t.trans J
 refine Nx (Sr (Wn 2 rfl (W.cl Vu rfl rfl (Jc v (hV.le i) (hW.le i) (by omega) (by omega) (by omega) (by omega)) ?_)))
 rintro _ K ⟨Q,R,rfl,x,e⟩
 have j:=i.trans e
 refine Wn 1 rfl (Nx (Sr (Wn 2 rfl (W.cl Qd rfl rfl (uz K (hV.le j) x.vec (by omega) (by omega) (by omega)) ?_))))
 rintro _ L ⟨y,z,S,T,rfl,C,U,f⟩
 have k:=j.trans f
 refine Wn 7 rfl (Nx (Sr (Wn 2 rfl (W.cl Qd rfl rfl (uz L (hW.le k) (x.le f).vec (by omega) (by omega) (by omega)) ?_))))
 rintro _ V ⟨D,F,X,Y,rfl,H,Z,l⟩
 refine Wn 7 rfl (Nx (Sr (Wn 2 rfl (Wa (.gF [.slice y ((eP (a/(Nat.gcd a b))).length) z,.slice D ((eP (b/(Nat.gcd a b))).length) F] jY z37 rfl rfl) rfl (W.sA gV rfl rfl (h.le (e.trans (f.trans l))) ?_)))))
 intro N o s
 have o:fA N u 37 #[.slice y ((eP (a/(Nat.gcd a b))).length) z,.slice D ((eP (b/(Nat.gcd a b))).length) F]:=o
 refine Nx (Rt (E.fu rfl (iB rfl o gQ (by rfl)) ?_))
 exact⟨_,_,_,_,rfl,(((C.le l).cb s (C.rl (by have:=h.lt;have:=e.size;omega))).mono j.size),((H.cb s (H.rl (by have:=h.lt;have:=e.size;have:=f.size;omega))).mono k.size),((k.trans l).tb s t I)⟩

theorem AX (a b:Nat)(w:World)(hb:0<b)(ha:a<18446744073709551616)(hb2:b<18446744073709551616):Calls prog 40 #[.int .u64 ((a:Nat):Int),.int .u64 ((b:Nat):Int)] w fun r w'=>∃A1 c1 A2 c2,r= .returned (.tuple #[.agg #[.slice A1 (eP (gY a b).n).length c1,.slice A2 (eP (gY a b).d).length c2],.bool true])/\eU w' w.heap.size 143 dv 1 A1 (eP (gY a b).n).length c1 (eP (gY a b).n)/\eU w' w.heap.size 143 dv 1 A2 (eP (gY a b).d).length c2 (eP (gY a b).d)/\Le w w':=by
 have hla:=jS 2 (a:=a) ha;have hlb:=jS 2 (a:=b) hb2
 refine enter func40 rfl rfl ?_
 have k:=Le.refl w
 refine Sr (W.ef rfl rfl rfl (Ef.fI z37 fun l m x (f:fA m l 37 #[.slice none 0 0,.slice none 0 0]) y=>(Wn 1 rfl (Nx (Sq (Sr (Wn 1 rfl (Wa (.dec (.eql rfl rfl) (dF (by omega))) rfl (Nx (WC.iD rfl (Sn (Sr (Wn 1 rfl (W.cl P7 rfl rfl (xS a (by omega) m) ?_))))))))))))))
 rintro _ z ⟨K,L,rfl,A,e⟩
 refine Wn 1 rfl (W.cl P7 rfl rfl (xS b (by omega) z) ?_)
 rintro _ C ⟨N,O,rfl,o,c⟩
 have h:=((k.trans y).trans e).trans c
 have s:=(A.le c)
 refine W.cl YB rfl rfl (Jf C s.vec o.vec s.cap.1 o.cap.1 (by assumption) (by omega) (by omega)) ?_
 rintro _ P ⟨D,F,H,I,rfl,t,u,v⟩
 refine W.sA gV rfl rfl (f.le (e.trans (c.trans v))) ?_
 intro J i j
 have i:fA J l 37 #[.slice D ((eP ((gY a b).n)).length) F,.slice H ((eP ((gY a b).d)).length) I]:=i
 refine Wn 1 rfl (Nx (Rt (E.jb rfl (iB rfl i gQ (by rfl)) rfl ?_)))
 exact⟨_,_,_,_,rfl,((t.cb j (t.rl (by have:=f.lt;have:=e.size;have:=c.size;omega))).mono h.size),((u.cb j (u.rl (by have:=f.lt;have:=e.size;have:=c.size;omega))).mono h.size),((h.trans v).tb j k x)⟩

theorem CV {uk um:Option Addr}{qz cn1 qA cd1 p1 q1:Nat}{uo uq:Option Addr}{qB cn2 qC cd2 p2 q2:Nat}(w:World)(hn1:Vec w dv 1 uk qz (eP p1))(hd1:Vec w dv 1 um qA (eP q1))(Xg:qz<=10000)(Xh:qA<=10000)(kn1:qz<=cn1)(kd1:qA<=cd1)(hn2:Vec w dv 1 uo qB (eP p2))(hd2:Vec w dv 1 uq qC (eP q2))(Xi:qB<=10000)(Xj:qC<=10000)(kn2:qB<=cn2)(kd2:qC<=cd2):Calls prog 45 #[.agg #[.slice uk qz cn1,.slice um qA cd1],.agg #[.slice uo qB cn2,.slice uq qC cd2]] w fun r w'=>r= .returned (.int .i64 (kQ (fE ⟨p1,q1⟩) (fE ⟨p2,q2⟩)))/\Le w w':=by
 have ar:=hn1.1;have au:=hd1.1
 have av:=hn2.1;have aw:=hd2.1
 have ax:=gJ (d:=1) (by decide)
 have ay:=qi
 refine enter func45 rfl rfl (Sr (W.ef rfl rfl rfl (Ef.iM rfl fun aa ab az (ac:fA ab aa 37 #[.slice uk qz cn1,.slice um qA cd1]) ad=>(W.ef rfl rfl rfl (Ef.iM rfl fun ae A aA (C:fA A ae 37 #[.slice uo qB cn2,.slice uq qC cd2]) D=>?_)))))
 have m:=((Le.refl w).trans ad).trans D
 refine Wn 1 rfl (Nx (Sr (Wr (.fB gQ (by rfl) rfl (ac.le D)) rfl ?_)))
 refine W.cl Tz rfl rfl (sJ (b1:=w.heap.size) A (hn1.le m) (hd1.le m) (by omega) (by omega) (fun g hg hm=>hn1.jc fF hm hg) (fun g hg hm=>hd1.jc fF hm hg) (by omega) (by omega)) ?_
 rintro _ aB ⟨F,H,I,J,rfl,o,s,aC,aE,t⟩
 have K:=m.trans t
 refine W.ef rfl rfl rfl (Ef.fI z37 fun L af u (ah:fA af L 37 #[.slice none 0 0,.slice none 0 0]) e=>(W.sA gV rfl rfl ah ?_))
 intro N k f
 have k:fA N L 37 #[.slice F ((eP (fE (⟨p1,q1⟩:Fr)).n).length) H,.slice I ((eP (fE (⟨p1,q1⟩:Fr)).d).length) J]:=k
 have x:=(K.trans e).tb f K u
 refine Nx (Sr (Wr (.fB gQ (by rfl) rfl ((C.le (t.trans e)).cn f (by have:=C.lt;have:=t.size;omega))) rfl ?_))
 refine W.cl Tz rfl rfl (sJ (b1:=w.heap.size) N (hn2.le x) (hd2.le x) (by omega) (by omega) (fun g hg hm=>hn2.jc fF hm hg) (fun g hg hm=>hd2.jc fF hm hg) (by omega) (by omega)) ?_
 rintro _ aF ⟨O,P,Q,R,rfl,S,T,aG,aH,b⟩
 have U:=x.trans b
 refine W.ef rfl rfl rfl (Ef.fI z37 fun V ai j (aj:fA ai V 37 #[.slice none 0 0,.slice none 0 0]) h=>(W.sA gV rfl rfl aj ?_))
 intro ak y i
 have y:fA ak V 37 #[.slice O ((eP (fE (⟨p2,q2⟩:Fr)).n).length) P,.slice Q ((eP (fE (⟨p2,q2⟩:Fr)).d).length) R]:=y
 refine Nx (Sq (WC.draw [0,1,2,3,5,6,7,8,4,9,10,11] mixed (by kernel_rfl) fun w3 c=>(Ga rfl (.eZ lW rfl) ?_)))
 have X:=(((k.le (b.trans h)).cn i (by have:=k.lt;have:=b.size;omega)).le c)
 refine Gd rfl (.fe (v:= .slice F ((eP (fE (⟨p1,q1⟩:Fr)).n).length) H) jl rfl X rfl) (Ga rfl (.eZ kN rfl) ?_)
 have Y:=(y.le c)
 refine Gd rfl (.fe (v:= .slice Q ((eP (fE (⟨p2,q2⟩:Fr)).d).length) R) jl rfl Y rfl) (Ga rfl (.eZ lW rfl) (Gd rfl (.fe (v:= .slice O ((eP (fE (⟨p2,q2⟩:Fr)).n).length) P) jl rfl Y rfl) (Ga rfl (.eZ kN rfl) (Gd rfl (.fe (v:= .slice I ((eP (fE (⟨p1,q1⟩:Fr)).d).length) J) jl rfl X rfl) ?_))))
 have aI:=iR (fE ⟨p1,q1⟩).n (fE ⟨p2,q2⟩).d;have aJ:=iR (fE ⟨p2,q2⟩).n (fE ⟨p1,q1⟩).d
 have al:=lX ⟨p1,q1⟩;have am:=lX ⟨p2,q2⟩
 simp only at al am
 refine G.ef rfl rfl rfl rfl rfl (Ef.call TA rfl rfl (xV w3 (((((o.le e).ch f (fun q hq hm _=>by have:=o.1.jc fF hm hq;have:=u;omega)).le (b.trans h)).ch i (fun q hq hm _=>by have:=o.1.jc fF hm hq;have:=e.size;have:=f.size;have:=b.size;have:=j;omega)).le c).vec (((T.le h).ch i (fun q hq hm _=>by have:=T.1.jc fF hm hq;have:=j;omega)).le c).vec (by omega) (by omega)) ?_)
 rintro _ an ⟨aK,aL,rfl,ao,l⟩
 refine⟨_,rfl,?_⟩
 refine⟨fun _=>l,?_⟩
 refine G.ef rfl rfl rfl rfl rfl (Ef.call TA rfl rfl (xV an (((S.le h).ch i (fun q hq hm _=>by have:=S.1.jc fF hm hq;have:=j;omega)).le (c.trans l)).vec (((((s.le e).ch f (fun q hq hm _=>by have:=s.1.jc fF hm hq;have:=u;omega)).le (b.trans h)).ch i (fun q hq hm _=>by have:=s.1.jc fF hm hq;have:=e.size;have:=f.size;have:=b.size;have:=j;omega)).le (c.trans l)).vec (by omega) (by omega)) ?_)
 rintro _ ap ⟨aM,aO,rfl,aq,z⟩
 refine⟨_,rfl,?_⟩
 refine⟨fun _=>z,?_⟩
 refine G.ef rfl rfl rfl rfl rfl (Ef.call TB rfl rfl (xU ap (ao.le z).vec aq.vec (by omega) (by omega)) ?_)
 rintro _ aP ⟨rfl,Z⟩
 refine⟨_,rfl,?_⟩
 refine⟨fun _=>Z,?_⟩
 refine Gn 1 rfl (G.nil (E.eY (Rt (E.fu rfl rfl ?_))))
 exact⟨rfl,((((((U.trans h).tb i U j).trans c).trans l).trans z).trans Z)⟩

theorem CW {uk um:Option Addr}{qz cn1 qA cd1 p1 q1:Nat}{uo uq:Option Addr}{qB cn2 qC cd2 p2 q2:Nat}(w:World)(hn1:Vec w dv 1 uk qz (eP p1))(hd1:Vec w dv 1 um qA (eP q1))(Xg:qz<=10000)(Xh:qA<=10000)(kn1:qz<=cn1)(kd1:qA<=cd1)(hn2:Vec w dv 1 uo qB (eP p2))(hd2:Vec w dv 1 uq qC (eP q2))(Xi:qB<=10000)(Xj:qC<=10000)(kn2:qB<=cn2)(kd2:qC<=cd2):Calls prog 43 #[.agg #[.slice uk qz cn1,.slice um qA cd1],.agg #[.slice uo qB cn2,.slice uq qC cd2]] w fun r w'=>∃A1 c1 A2 c2,r= .returned (.agg #[.slice A1 (eP (jW (fE ⟨p1,q1⟩) (fE ⟨p2,q2⟩)).n).length c1,.slice A2 (eP (jW (fE ⟨p1,q1⟩) (fE ⟨p2,q2⟩)).d).length c2])/\eU w' w.heap.size 143 dv 1 A1 (eP (jW (fE ⟨p1,q1⟩) (fE ⟨p2,q2⟩)).n).length c1 (eP (jW (fE ⟨p1,q1⟩) (fE ⟨p2,q2⟩)).n)/\eU w' w.heap.size 143 dv 1 A2 (eP (jW (fE ⟨p1,q1⟩) (fE ⟨p2,q2⟩)).d).length c2 (eP (jW (fE ⟨p1,q1⟩) (fE ⟨p2,q2⟩)).d)/\Le w w':=by
 have aO:=hn1.1;have aP:=hd1.1
 have aQ:=hn2.1;have aR:=hd2.1
 have aS:=gJ (d:=1) (by decide)
 have aT:=qi
 have al:=(pG ⟨p1,q1⟩).1;have am:=(pG ⟨p2,q2⟩).1
 have hdp:=Nat.mul_pos al am
 refine enter func43 rfl rfl (Sr (W.ef rfl rfl rfl (Ef.iM rfl fun an ao aU (ap:fA ao an 37 #[.slice uk qz cn1,.slice um qA cd1]) aq=>(W.ef rfl rfl rfl (Ef.iM rfl fun ar au aV (J:fA au ar 37 #[.slice uo qB cn2,.slice uq qC cd2]) K=>?_)))))
 have L:=((Le.refl w).trans aq).trans K
 refine W.ef rfl rfl rfl (Ef.fI z37 fun N O av (m:fA O N 37 #[.slice none 0 0,.slice none 0 0]) s=>?_)
 have u:=L.trans s
 refine Nx (Sr (Wr (.fB gQ (by rfl) rfl (ap.le (K.trans s))) rfl ?_))
 refine W.cl Tz rfl rfl (sJ (b1:=w.heap.size) O (hn1.le u) (hd1.le u) (by omega) (by omega) (fun g hg hm=>hn1.jc fF hm hg) (fun g hg hm=>hd1.jc fF hm hg) (by omega) (by omega)) ?_
 rintro _ aW ⟨P,Q,R,S,rfl,x,y,aX,aY,j⟩
 have T:=u.trans j
 refine W.ef rfl rfl rfl (Ef.fI z37 fun U aw z (ax:fA aw U 37 #[.slice none 0 0,.slice none 0 0]) c=>(W.sA gV rfl rfl ax ?_))
 intro V t e
 have t:fA V U 37 #[.slice P ((eP (fE (⟨p1,q1⟩:Fr)).n).length) Q,.slice R ((eP (fE (⟨p1,q1⟩:Fr)).d).length) S]:=t
 have A:=(T.trans c).tb e T z
 refine Nx (Sr (Wr (.fB gQ (by rfl) rfl ((J.le (s.trans (j.trans c))).cn e (by have:=J.lt;have:=s.size;have:=j.size;omega))) rfl ?_))
 refine W.cl Tz rfl rfl (sJ (b1:=w.heap.size) V (hn2.le A) (hd2.le A) (by omega) (by omega) (fun g hg hm=>hn2.jc fF hm hg) (fun g hg hm=>hd2.jc fF hm hg) (by omega) (by omega)) ?_
 rintro _ aZ ⟨X,Y,Z,aa,rfl,ab,ac,a0,a1,b⟩
 have L9:=A.trans b
 refine W.ef rfl rfl rfl (Ef.fI z37 fun ad ay o (az:fA ay ad 37 #[.slice none 0 0,.slice none 0 0]) h=>(W.sA gV rfl rfl az ?_))
 intro aA C i
 have C:fA aA ad 37 #[.slice X ((eP (fE (⟨p2,q2⟩:Fr)).n).length) Y,.slice Z ((eP (fE (⟨p2,q2⟩:Fr)).d).length) aa]:=C
 refine Nx (Sq (WC.draw [0,1,2,3,5,6,7,8,4,9,10,11] mixed (by kernel_rfl) fun w3 f=>(Ga rfl (.eZ lW rfl) ?_)))
 have ae:=(((t.le (b.trans h)).cn i (by have:=t.lt;have:=b.size;omega)).le f)
 refine Gd rfl (.fe (v:= .slice P ((eP (fE (⟨p1,q1⟩:Fr)).n).length) Q) jl rfl ae rfl) (Ga rfl (.eZ lW rfl) ?_)
 have af:=(C.le f)
 refine Gd rfl (.fe (v:= .slice X ((eP (fE (⟨p2,q2⟩:Fr)).n).length) Y) jl rfl af rfl) (Ga rfl (.eZ kN rfl) (Gd rfl (.fe (v:= .slice R ((eP (fE (⟨p1,q1⟩:Fr)).d).length) S) jl rfl ae rfl) (Ga rfl (.eZ kN rfl) (Gd rfl (.fe (v:= .slice Z ((eP (fE (⟨p2,q2⟩:Fr)).d).length) aa) jl rfl af rfl) ?_))))
 have a2:=iR (fE ⟨p1,q1⟩).n (fE ⟨p2,q2⟩).n;have a3:=iR (fE ⟨p1,q1⟩).d (fE ⟨p2,q2⟩).d
 have aB:=lX ⟨p1,q1⟩;have aC:=lX ⟨p2,q2⟩
 simp only at aB aC
 refine G.ef rfl rfl rfl rfl rfl (Ef.call TA rfl rfl (xV w3 (((((x.le c).ch e (fun q hq hm _=>by have:=x.1.jc fF hm hq;have:=z;omega)).le (b.trans h)).ch i (fun q hq hm _=>by have:=x.1.jc fF hm hq;have:=c.size;have:=e.size;have:=b.size;have:=o;omega)).le f).vec (((ab.le h).ch i (fun q hq hm _=>by have:=ab.1.jc fF hm hq;have:=o;omega)).le f).vec (by omega) (by omega)) ?_)
 rintro _ aE ⟨a4,a5,rfl,aF,k⟩
 refine⟨_,rfl,?_⟩
 refine⟨fun _=>k,?_⟩
 refine G.ef rfl rfl rfl rfl rfl (Ef.call TA rfl rfl (xV aE (((((y.le c).ch e (fun q hq hm _=>by have:=y.1.jc fF hm hq;have:=z;omega)).le (b.trans h)).ch i (fun q hq hm _=>by have:=y.1.jc fF hm hq;have:=c.size;have:=e.size;have:=b.size;have:=o;omega)).le (f.trans k)).vec (((ac.le h).ch i (fun q hq hm _=>by have:=ac.1.jc fF hm hq;have:=o;omega)).le (f.trans k)).vec (by omega) (by omega)) ?_)
 rintro _ aG ⟨a6,a7,rfl,ah,l⟩
 refine⟨_,rfl,?_⟩
 refine⟨fun _=>l,?_⟩
 have D:=((((L9.trans h).tb i L9 o).trans f).trans k).trans l
 have ai:=(aF.le l)
 refine G.ef rfl rfl rfl rfl rfl (Ef.call YB rfl rfl (Jf aG ai.vec ah.vec ai.cap.1 ah.cap.1 hdp (by omega) (by omega)) ?_)
 rintro _ a8 ⟨aH,aI,aJ,aK,rfl,aj,ak,F⟩
 refine⟨_,rfl,?_⟩
 refine⟨fun _=>F,?_⟩
 have aL:=(((((m.le (j.trans c)).cn e (by have:=m.lt;have:=j.size;omega)).le (b.trans h)).cn i (by have:=m.lt;have:=j.size;have:=c.size;have:=e.size;have:=b.size;omega)).le (f.trans (k.trans (l.trans F))))
 refine G.iO rfl rfl rfl rfl (Ef.storeAll gV (by rfl) rfl rfl aL (by rfl) (by simp[Value.oneCell']) ?_)
 intro aM H I
 refine noT (by kernel_rfl) ?_
 have H:fA aM N 37 #[.slice aH ((eP ((gY (((fE (⟨p1,q1⟩:Fr)).n)*((fE (⟨p2,q2⟩:Fr)).n)) (((fE (⟨p1,q1⟩:Fr)).d)*((fE (⟨p2,q2⟩:Fr)).d))).n)).length) aI,.slice aJ ((eP ((gY (((fE (⟨p1,q1⟩:Fr)).n)*((fE (⟨p2,q2⟩:Fr)).n)) (((fE (⟨p1,q1⟩:Fr)).d)*((fE (⟨p2,q2⟩:Fr)).d))).d)).length) aK]:=H
 refine G.nil (E.eY (Rt (E.fu rfl (iB rfl H gQ (by rfl)) ?_)))
 exact⟨_,_,_,_,rfl,((aj.cb I (aj.rl (by have:=m.lt;have:=j.size;have:=c.size;have:=e.size;have:=b.size;have:=h.size;have:=i.size;have:=f.size;have:=k.size;have:=l.size;omega))).mono D.size),((ak.cb I (ak.rl (by have:=m.lt;have:=j.size;have:=c.size;have:=e.size;have:=b.size;have:=h.size;have:=i.size;have:=f.size;have:=k.size;have:=l.size;omega))).mono D.size),((D.trans F).tb I L av)⟩
end Go.Proofs.YtkaedikifgpkeaaGreatDoor

namespace Go.Proofs.YtkaedikifgpkeaaGreatDoor
open Tryz
open Go Go.Sx Go.Num Go.fO Go.oF Go.uI
set_option maxRecDepth 20000
structure Rw where
  f:Int
  c:Int
  lo:Int
  hi:Int
  rm:Int
def nX:Rw:=⟨0,0,0,0,0⟩
def Rw.ky (r:Rw):Wy:=⟨r.f,r.c⟩
def Rw.nt (r:Rw):Nt:=⟨r.lo,r.hi,r.rm⟩
def GA (r:Rw):List Value:=[.int .i64 r.f,.int .i64 r.c,.int .i64 r.lo,.int .i64 r.hi,.int .i64 r.rm]
theorem jZ:lg GA 5:=⟨fun _=>rfl,fun x v hv=>by simp[GA]at hv;rcases hv with rfl|rfl|rfl|rfl|rfl<;>rfl,by decide⟩
def mE:List Rw->Wy->Option Nt
  |[],_=>none
  |x::l,k=>if x.ky=k then some x.nt else mE l k
def oL:List Rw->Rw->List Rw
  |[],v=>[v]
  |x::l,v=>if x.ky=v.ky then v::l else x::oL l v
def CX (l:List Rw):Prop:=l.Pairwise fun a b=>a.ky≠b.ky
theorem CY {k:Wy}:∀{l:List Rw},(∀x∈l,x.ky≠k)->mE l k=none
  |[],_=>rfl
  |x::l,h=>by
    unfold mE
    rw[if_neg (h x (List.mem_cons_self ..))]
    exact CY fun y hy=>h y (List.mem_cons_of_mem _ hy)
theorem wF (k:Wy)(x:Rw):∀l:List Rw,mE (l++[x]) k=match mE l k with |some v=>some v|none=>if x.ky=k then some x.nt else none
  |[]=>by simp[mE]
  |y::l=>by
    rw[List.cons_append]
    unfold mE
    split
    · rfl
    · exact wF k x l
theorem Rp {α:Type}{l:List α}{z:α}{k:Nat}(h:k<l.length):l.getD k z∈l:=by
  have:l.getD k z=l[k]:=by simp[List.getD,h]
  rw[this];exact List.getElem_mem h
theorem CX.at {l:List Rw}(h:CX l){i j:Nat}(hij:i<j)(hj:j<l.length):(l.getD i nX).ky≠(l.getD j nX).ky:=by
  have:=List.pairwise_iff_getElem.1 h i j (by omega) hj hij
  simpa[List.getD,hj,show i<l.length by omega]using this
theorem EM {l:List Rw}{i:Nat}(hi:i<l.length):l.take (i+1)=l.take i++[l.getD i nX]:=by
  rw[List.take_add_one];simp[List.getD,hi]
theorem Jg {l:List Rw}(h:CX l){i:Nat}(hi:i<l.length){k:Wy}(hk:(l.getD i nX).ky=k):mE (l.take (i+1)) k=some (l.getD i nX).nt:=by
  rw[EM hi,wF,CY,if_pos hk]
  intro x hx
  obtain⟨j,hj,rfl⟩:=List.mem_iff_getElem.1 hx
  rw[List.length_take]at hj
  have:=h.at (show j<i by omega) hi
  rw[hk]at this
  simpa[List.getD,show j<l.length by omega]using this
theorem vo {l:List Rw}{i:Nat}(hi:i<l.length){k:Wy}(hk:(l.getD i nX).ky≠k):mE (l.take (i+1)) k=mE (l.take i) k:=by
  rw[EM hi,wF,if_neg hk]
  cases mE (l.take i) k<;>rfl
theorem CZ (v:Rw)(k:Wy):∀l:List Rw,mE (oL l v) k=if k=v.ky then some v.nt else mE l k
  |[]=>by
    show(if v.ky=k then some v.nt else none)=_
    by_cases h:k=v.ky
    · rw[if_pos h,if_pos h.symm]
    · rw[if_neg h,if_neg (fun hh=>h hh.symm)];rfl
  |x::l=>by
    unfold oL
    split
    · rename_i hx
      unfold mE
      by_cases h:k=v.ky
      · rw[if_pos h,if_pos h.symm]
      · rw[if_neg h,if_neg (fun hh=>h hh.symm),if_neg (fun hh=>h (hh.symm.trans hx))]
    · rename_i hx
      unfold mE
      by_cases h:x.ky=k
      · rw[if_pos h,if_pos h,if_neg (fun hh=>hx (h.trans hh))]
      · rw[if_neg h,if_neg h];exact CZ v k l
theorem yS {v:Rw}:∀{l:List Rw} {x:Rw},x∈oL l v->x=v\/x∈l
  |[],x,h=> .inl (List.mem_singleton.1 h)
  |y::l,x,h=>by
    unfold oL at h
    split at h
    · rcases List.mem_cons.1 h with h|h
      · exact .inl h
      · exact .inr (List.mem_cons_of_mem _ h)
    · rcases List.mem_cons.1 h with h|h
      · exact .inr (by rw[h];exact List.mem_cons_self ..)
      · exact(yS h).imp id (List.mem_cons_of_mem _)
theorem C8 {v:Rw}:∀{l:List Rw},CX l->CX (oL l v)
  |[],_=>List.pairwise_singleton _ _
  |y::l,h=>by
    obtain⟨h1,h2⟩:=List.pairwise_cons.1 h
    unfold oL
    split
    · rename_i hy
      exact List.pairwise_cons.2 ⟨fun z hz=>by rw[<-hy];exact h1 z hz,h2⟩
    · rename_i hy
      refine List.pairwise_cons.2 ⟨fun z hz=>?_,C8 h2⟩
      rcases yS hz with rfl|hz
      · exact hy
      · exact h1 z hz
theorem EN {v:Rw}:∀l:List Rw,(oL l v).length<=l.length+1
  |[]=>Nat.le_refl _
  |y::l=>by
    unfold oL
    split
    · simp
    · have:=EN (v:=v) l
      simp only[List.length_cons];omega
theorem Jh {v:Rw}:∀{l:List Rw} {k:Nat},k<l.length->(∀j,j<k->(l.getD j nX).ky≠v.ky)->(l.getD k nX).ky=v.ky->oL l v=l.set k v
  |[],_,h,_,_=>absurd h (Nat.not_lt_zero _)
  |y::l,0,_,_,h=>by unfold oL;rw[if_pos (show y.ky=v.ky from h)];rfl
  |y::l,k+1,hk,h1,h2=>by
    unfold oL
    rw[if_neg (show¬y.ky=v.ky from h1 0 (by omega))]
    rw[Jh (l:=l) (k:=k) (by simpa using hk) (fun j hj=>h1 (j+1) (by omega)) h2]
    rfl
theorem EO {v:Rw}:∀{l:List Rw},(∀j,j<l.length->(l.getD j nX).ky≠v.ky)->oL l v=l++[v]
  |[],_=>rfl
  |y::l,h=>by
    unfold oL
    rw[if_neg (show¬y.ky=v.ky from h 0 (by simp)),EO (l:=l) (fun j hj=>h (j+1) (by simp;omega))]
    rfl
theorem xW {r:Rw}{e:fO.Edge}:r.ky=iC e↔r.f=e.f/\r.c=e.c:=by
  unfold Rw.ky iC
  rw[Wy.mk.injEq]
set_option maxHeartbeats 1000000 in
theorem EP (e:fO.Edge) (w:World):Calls prog 126 #[.agg (fD e).toArray] w fun r w'=>r= .returned (.bool (lS e))/\Le w w':=by
 refine enter func126 rfl rfl (Sr (W.ef rfl rfl rfl (Ef.iM rfl fun s u y (b:fA u s 66 (fD e).toArray) x=>?_)))
 have d:=(Le.refl w).trans x
 refine Wn 1 rfl (Nx (Sr (Wa (.eZ iX rfl) rfl (Wr (.fe (v:= .int .i64 e.f) gM rfl b rfl) rfl (Wn 1 rfl ?_)))))
 by_cases h:0<=e.f
 ·refine Dt h rfl rfl (Wg (Any.rd (.eZ iX rfl) _) rfl (Wg (.fe (v:= .int .i64 e.f) gM rfl b rfl) rfl (Wn 2 rfl ?_)))
  by_cases i:e.f<12
  ·refine Dt i rfl rfl (Wg (Any.rd (.eZ jK rfl) _) rfl (Wg (.fe (v:= .int .i64 e.t) gM rfl b rfl) rfl (Wn 2 rfl ?_)))
   by_cases j:0<=e.t
   ·refine Dt j rfl rfl (Wg (Any.rd (.eZ jK rfl) _) rfl (Wg (.fe (v:= .int .i64 e.t) gM rfl b rfl) rfl (Wn 2 rfl ?_)))
    by_cases k:e.t<12
    ·refine Dt k rfl rfl (Wg (Any.rd (.eZ iX rfl) _) rfl (Wg (.fe (v:= .int .i64 e.f) gM rfl b rfl) rfl (Wg (Any.rd (.eZ jK rfl) _) rfl (Wg (.fe (v:= .int .i64 e.t) gM rfl b rfl) rfl (Wn 3 rfl (Nx (Sr (Wn 1 rfl ?_))))))))
     by_cases l:e.f≠e.t
     ·refine Dt l rfl rfl (Wg (Any.rd (.eZ iY rfl) _) rfl (Wg (.fe (v:= .int .i64 e.c) gM rfl b rfl) rfl (Wn 2 rfl ?_)))
      by_cases m:0<=e.c
      ·refine Dt m rfl rfl (Wg (Any.rd (.eZ iY rfl) _) rfl (Wg (.fe (v:= .int .i64 e.c) gM rfl b rfl) rfl (Wn 2 rfl ?_)))
       by_cases n:e.c<1048576
       ·refine Dt n rfl rfl (Wg (Any.rd (.eZ iF rfl) _) rfl (Wg (.fe (v:= .int .i64 e.r) gM rfl b rfl) rfl (Wn 2 rfl ?_)))
        by_cases o:1<=e.r
        ·refine Dt o rfl rfl (Wg (Any.rd (.eZ iF rfl) _) rfl (Wg (.fe (v:= .int .i64 e.r) gM rfl b rfl) rfl (Wn 3 rfl (Nx (Rt (E.fu rfl rfl ?_))))))
         exact⟨rB (by unfold lS tu;rw[Bool.eq_iff_iff];simp only[Bool.and_eq_true,decide_eq_true_eq,Bool.false_eq_true,false_iff,not_and];omega),d⟩
        refine Df o rfl rfl (Wn 5 rfl (Nx (Rt (E.fu rfl rfl ?_))))
        exact⟨rB (by unfold lS tu;rw[Bool.eq_iff_iff];simp only[Bool.and_eq_true,decide_eq_true_eq,Bool.false_eq_true,false_iff,not_and];omega),d⟩
       refine Df n rfl rfl (Wn 10 rfl (Nx (Rt (E.fu rfl rfl ?_))))
       exact⟨rB (by unfold lS tu;rw[Bool.eq_iff_iff];simp only[Bool.and_eq_true,decide_eq_true_eq,Bool.false_eq_true,false_iff,not_and];omega),d⟩
      refine Df m rfl rfl (Wn 15 rfl (Nx (Rt (E.fu rfl rfl ?_))))
      exact⟨rB (by unfold lS tu;rw[Bool.eq_iff_iff];simp only[Bool.and_eq_true,decide_eq_true_eq,Bool.false_eq_true,false_iff,not_and];omega),d⟩
     refine Df l rfl rfl (Wn 20 rfl (Nx (Rt (E.fu rfl rfl ?_))))
     exact⟨rB (by unfold lS tu;rw[Bool.eq_iff_iff];simp only[Bool.and_eq_true,decide_eq_true_eq,Bool.false_eq_true,false_iff,not_and];omega),d⟩
    refine Df k rfl rfl (Wn 7 rfl (Nx (Sr (Wn 22 rfl (Nx (Rt (E.fu rfl rfl ?_)))))))
    exact⟨rB (by unfold lS tu;rw[Bool.eq_iff_iff];simp only[Bool.and_eq_true,decide_eq_true_eq,Bool.false_eq_true,false_iff,not_and];omega),d⟩
   refine Df j rfl rfl (Wn 12 rfl (Nx (Sr (Wn 22 rfl (Nx (Rt (E.fu rfl rfl ?_)))))))
   exact⟨rB (by unfold lS tu;rw[Bool.eq_iff_iff];simp only[Bool.and_eq_true,decide_eq_true_eq,Bool.false_eq_true,false_iff,not_and];omega),d⟩
  refine Df i rfl rfl (Wn 17 rfl (Nx (Sr (Wn 22 rfl (Nx (Rt (E.fu rfl rfl ?_)))))))
  exact⟨rB (by unfold lS tu;rw[Bool.eq_iff_iff];simp only[Bool.and_eq_true,decide_eq_true_eq,Bool.false_eq_true,false_iff,not_and];omega),d⟩
 refine Df h rfl rfl (Wn 22 rfl (Nx (Sr (Wn 22 rfl (Nx (Rt (E.fu rfl rfl ?_)))))))
 exact⟨rB (by unfold lS tu;rw[Bool.eq_iff_iff];simp only[Bool.and_eq_true,decide_eq_true_eq,Bool.false_eq_true,false_iff,not_and];omega),d⟩

theorem wG (e:fO.Edge)(a:Int)(w:World):Calls prog 64 #[.agg (fD e).toArray,.int .i64 (a)] w fun r w'=>r= .returned (.bool (jJ e a))/\Le w w':=by
 refine enter func64 rfl rfl (Sr (W.ef rfl rfl rfl (Ef.iM rfl fun j f l (h:fA f j 66 (fD e).toArray) k=>(Wn 1 rfl (Nx (Sr (Wr (.fB iJ (by rfl) rfl h) rfl ?_)))))))
 refine W.cl Vl rfl rfl (EP e f) ?_
 rintro _ m ⟨rfl,i⟩
 have d:=((Le.refl w).trans k).trans i
 by_cases b:(lS e)=true
 ·refine Wa (.dec (.move rfl) b) rfl (Wn 3 rfl ?_)
  by_cases c:1<=a
  ·refine Dt c rfl rfl (Wn 1 rfl (Wg (Any.rd (.eZ iF rfl) _) rfl (Wg (.fe (v:= .int .i64 e.r) gM rfl (h.le i) rfl) rfl (Wn 3 rfl (Nx (Rt (E.fu rfl rfl ?_)))))))
   exact⟨rB (by unfold jJ;rw[Bool.eq_iff_iff];simp[b,c]<;>omega),d⟩
  refine Df c rfl rfl (Wn 6 rfl (Nx (Rt (E.fu rfl rfl ?_))))
  exact⟨rB (by unfold jJ;rw[Bool.eq_iff_iff];simp[b,c]<;>omega),d⟩
 refine Wa (.dec (.move rfl) (Bool.eq_false_iff.2 b)) rfl (Wn 10 rfl (Nx (Rt (E.fu rfl rfl ?_))))
 exact⟨rB (by unfold jJ;rw[Bool.eq_iff_iff];simp[b]<;>omega),d⟩

theorem Ji {gp n c:Nat}{A:Option Addr}{ws:List Rw}(e:fO.Edge)(w:World)(hp:fA w gp 117 #[.slice A n c])(hV:Vec w GA 5 A n ws)(hu:CX ws)(hok:∀x∈ws,j3 x.nt)(hrm:0<=e.r/\e.r<=1125899906842624)(hn:n<=1000000):Calls prog 65 #[.pointer (some ⟨gp,0,none⟩),.agg (fD e).toArray] w fun r w'=>r= .returned (.tuple #[.int .i64 (cnt (mE ws (iC e)) e.r).lo,.int .i64 (cnt (mE ws (iC e)) e.r).hi])/\Le w w':=by
 have hl:=hV.1
 refine enter func65 rfl rfl (Sr (W.ef rfl rfl rfl (Ef.iM rfl fun o u P (y:fA u o 66 (fD e).toArray) J=>(Wn 2 rfl (Nx (Sr (Wn 1 rfl (Nx (Sr (Wa (.eZ iF rfl) rfl (Wr (.fe (v:= .int .i64 e.r) gM rfl y rfl) rfl ?_)))))))))))
 refine Wa (.add rfl rfl (by omega)) rfl (Wn 1 rfl (Nx (Sq (Sr (Wn 1 rfl (Nx (WC.block (WC.loop (ι:=Nat) (fun k=>[(0,.pointer (some ⟨gp,0,none⟩)),(3,.pointer (some ⟨o,0,none⟩)),(6,.int .i64 ((cnt (mE (ws.take k) (iC e)) e.r).lo)),(7,.int .i64 ((cnt (mE (ws.take k) (iC e)) e.r).hi)),(8,.int .i64 ((k:Nat):Int))]) (fun k m=>(k<=n)/\Le w m/\u.heap.size<=m.heap.size/\fA m o 66 (fD e).toArray) (fun k=>n-k) 0 ?_ ?_ ?_))))))))
 ·exact .cons rfl (.cons rfl (.cons' rfl (int_eq rfl) (.cons' rfl (int_eq rfl) (.cons rfl (.nil _)))))
 ·exact⟨Nat.zero_le _,((Le.refl w).trans J),Nat.le_refl _,y⟩
 rintro k m ⟨hk,d,s,C⟩
 refine Sq (Sr (Wn 2 rfl (Wa (.nilCheck rfl) rfl (Wa (.eZ pF rfl) rfl (Wr (.fe (v:= .slice A n c) y8 rfl (hp.le d) rfl) rfl (Wr (.len underlying115 rfl) rfl (Wn 1 rfl (Nx ?_))))))))
 by_cases D:((k:Nat):Int)<((n:Nat):Int)
 ·refine Cy rfl (dT D) ?_
  have hox:=hok _ (Rp (z:=nX) (show k<ws.length by omega))
  unfold j3 Rw.nt at hox
  simp only at hox
  refine Sn (Sq (WC.block (Sr (Wn 1 rfl (Wa (.nilCheck rfl) rfl (Wa (.eZ pF rfl) rfl (Wr (.fe (v:= .slice A n c) y8 rfl (hp.le d) rfl) rfl (Wn 1 rfl (Wa (.fV k underlying115 y9 rfl rfl (hV.isSome jZ (by omega)) rfl (by omega)) rfl ?_)))))))))
  refine Wr (.j5 PV rfl (hV.le d) jZ (gD ws nX (by omega))) rfl (W.ef rfl rfl rfl (Ef.fI z173 fun F K L (N:fA K F 173 (GA nX).toArray) j=>(W.iO rfl rfl (Ef.storeAll y9 (by rfl) rfl rfl N (by simp only[List.size_toArray,jZ.len]) (jZ.one (ws.getD k nX)) ?_))))
  intro O i l
  have i:fA O F 173 (GA (ws.getD k nX)).toArray:=i
  have t:=(d.trans j).tb l d L
  refine Nx (Sr (Wa (.eZ Mi rfl) rfl (Wr (.fe (v:= .int .i64 ((ws.getD k nX).f)) gM rfl i rfl) rfl (Wa (.eZ iX rfl) rfl ?_))))
  have b:=((C.le j).cn l (by have:=C.lt;omega))
  refine Wr (.fe (v:= .int .i64 e.f) gM rfl b rfl) rfl (Wn 1 rfl ?_)
  by_cases H:((ws.getD k nX).f)=e.f
  ·refine Dt H rfl rfl (Wg (Any.rd (.eZ Mj rfl) _) rfl (Wg (.fe (v:= .int .i64 ((ws.getD k nX).c)) gM rfl i rfl) rfl (Wg (Any.rd (.eZ iY rfl) _) rfl (Wg (.fe (v:= .int .i64 e.c) gM rfl b rfl) rfl (Wn 2 rfl (Nx ?_))))))
   by_cases I:((ws.getD k nX).c)=e.c
   ·refine Cy rfl (dT I) (Sr (Wa (.eZ TF rfl) rfl (Wr (.fe (v:= .int .i64 ((ws.getD k nX).lo)) gM rfl i rfl) rfl (Wa (.eZ iF rfl) rfl (Wr (.fe (v:= .int .i64 e.r) gM rfl b rfl) rfl ?_)))))
    refine Wr (.min2 rfl rfl) rfl (Wn 1 rfl (Nx (WC.region (Wa (.eZ TG rfl) rfl (Wr (.fe (v:= .int .i64 ((ws.getD k nX).hi)) gM rfl i rfl) rfl (Wa (.eZ iF rfl) rfl (Wr (.fe (v:= .int .i64 e.r) gM rfl b rfl) rfl ?_)))))))
    refine Wa (.add rfl rfl (by omega)) rfl (Wr (.min2 rfl rfl) rfl (Wn 1 rfl (Wa (.add rfl rfl (by omega)) rfl (Wr (.max2 rfl rfl) rfl (Wn 1 rfl (W.nil (E.gI (E.eY (WC.region (Wn 1 rfl ?_))))))))))
    refine Wa (.add rfl rfl (by omega)) rfl (Wn 1 rfl (W.nil (E.again (k+1) (.cons rfl (.cons rfl (.cons' rfl (int_eq (by rw[Jg hu (by omega) (xW.2 ⟨by omega,by omega⟩)];simp only[cnt,Rw.nt])) (.cons' rfl (int_eq (by rw[Jg hu (by omega) (xW.2 ⟨by omega,by omega⟩)];simp only[cnt,Rw.nt])) (.cons rfl (.nil _)))))) ?_ ?_)))
    ·exact⟨by omega,t,by have:=s;have:=j.size;have:=l.size;omega,b⟩
    first|omega|(simp only[];omega)
   refine Cn rfl (dF I) (WC.skip (E.gI (E.eY (WC.region (Wn 1 rfl (Wa (.add rfl rfl (by omega)) rfl (Wn 1 rfl (W.nil (E.again (k+1) (.cons rfl (.cons rfl (.cons' rfl (int_eq (by rw[vo (by omega) (fun h=>by have:=xW.1 h;omega)])) (.cons' rfl (int_eq (by rw[vo (by omega) (fun h=>by have:=xW.1 h;omega)])) (.cons rfl (.nil _)))))) ?_ ?_)))))))))
   ·exact⟨by omega,t,by have:=s;have:=j.size;have:=l.size;omega,b⟩
   first|omega|(simp only[];omega)
  refine Df H rfl rfl (Wn 6 rfl (Nx (WC.iD rfl (WC.skip (E.gI (E.eY (WC.region (Wn 1 rfl (Wa (.add rfl rfl (by omega)) rfl (Wn 1 rfl (W.nil (E.again (k+1) (.cons rfl (.cons rfl (.cons' rfl (int_eq (by rw[vo (by omega) (fun h=>by have:=xW.1 h;omega)])) (.cons' rfl (int_eq (by rw[vo (by omega) (fun h=>by have:=xW.1 h;omega)])) (.cons rfl (.nil _)))))) ?_ ?_))))))))))))
  ·exact⟨by omega,t,by have:=s;have:=j.size;have:=l.size;omega,b⟩
  first|omega|(simp only[];omega)
 refine Cn rfl (dF D) (WC.exit (E.fC (E.fC (E.gW (E.eY (Sr (Wn 4 rfl (Nx (Rt (E.jb rfl rfl rfl ?_))))))))))
 have hke:k=ws.length:=(by omega)
 subst hke
 rw[List.take_length]
 exact⟨rfl,d⟩

theorem KN {base gp n c:Nat}{A:Option Addr}{ws:List Rw}(e:fO.Edge)(lo hi:Int)(w:World)(hp0:fA w gp 117 #[.slice A n c])(hS0:eU w base 173 GA 5 A n c ws)(hne:rowOf A c≠some gp)(hbase:base<=w.heap.size)(hn:n<=1000000):Calls prog 66 #[.pointer (some ⟨gp,0,none⟩),.agg (fD e).toArray,.int .i64 lo,.int .i64 (hi)] w fun r w'=>r= .returned (.tuple #[])/\jU w w' (fun k=>k=gp\/rowOf A c=some k)/\∃A' n' c',fA w' gp 117 #[.slice A' n' c']/\eU w' base 173 GA 5 A' n' c' (oL ws (⟨e.f,e.c,lo,hi,e.r⟩:Rw))/\rowOf A' c'≠some gp/\(∀q,rowOf A' c'=some q->rowOf A c=some q\/w.heap.size<=q):=by
 have hl:=hS0.1
 refine enter func66 rfl rfl ?_
 have X:=jU.refl w (fun k=>k=gp\/rowOf A c=some k)
 refine Sr (W.ef rfl rfl rfl (Ef.iM rfl fun K ao aG (m:fA ao K 66 (fD e).toArray) s=>?_))
 have L:=X.le s
 refine Nx (Sr (Wa (.eZ iX rfl) rfl (Wr (.fe (v:= .int .i64 e.f) gM rfl m rfl) rfl (Wa (.eZ iY rfl) rfl (Wr (.fe (v:= .int .i64 e.c) gM rfl m rfl) rfl (Wn 2 rfl ?_))))))
 refine Wa (.eZ iF rfl) rfl (Wr (.fe (v:= .int .i64 e.r) gM rfl m rfl) rfl (Wa (.gF (GA (⟨e.f,e.c,lo,hi,e.r⟩:Rw)) Zx z173 rfl rfl) rfl (W.ef rfl rfl rfl (Ef.fI z173 fun x ap aq (ar:fA ap x 173 (GA nX).toArray) y=>?_))))
 have Y:=L.le y
 refine W.iO rfl rfl (Ef.storeAll y9 (by rfl) rfl rfl ar (by simp only[List.size_toArray,jZ.len]) (jZ.one (⟨e.f,e.c,lo,hi,e.r⟩:Rw)) ?_)
 intro N O z
 have O:fA N x 173 (GA (⟨e.f,e.c,lo,hi,e.r⟩:Rw)).toArray:=O
 have Z:jU w N (fun k=>k=gp\/rowOf A c=some k):=Y.ch z (fun i hi hlt=>by cases hi;exact absurd hlt (by have:=L.size;have:=aq;omega))
 refine Nx (Sq (Sr (Wn 1 rfl (Nx (WC.block (WC.loop (ι:=Nat) (fun k=>[(0,.pointer (some ⟨gp,0,none⟩)),(5,.pointer (some ⟨K,0,none⟩)),(8,.pointer (some ⟨x,0,none⟩)),(9,.int .i64 ((k:Nat):Int))]) (fun k d=>(k<=n)/\(∀j,j<k->(ws.getD j nX).ky≠(⟨e.f,e.c,lo,hi,e.r⟩:Rw).ky)/\jU w d (fun k=>k=gp\/rowOf A c=some k)/\N.heap.size<=d.heap.size/\fA d gp 117 #[.slice A n c]/\eU d base 173 GA 5 A n c ws/\fA d K 66 (fD e).toArray/\fA d x 173 (GA (⟨e.f,e.c,lo,hi,e.r⟩:Rw)).toArray) (fun k=>n-k) 0 ?_ ?_ ?_))))))
 ·exact .of rfl
 ·exact⟨Nat.zero_le _,(fun j hj=>absurd hj (Nat.not_lt_zero _)),Z,Nat.le_refl _,((hp0.le (s.trans y)).cn z (by have:=hp0.lt;have:=s.size;omega)),((hS0.le (s.trans y)).cb z (hS0.rn (by have:=s.size;omega))),((m.le y).cn z (by have:=m.lt;omega)),O⟩
 rintro k d ⟨hk,hz,P,aa,Q,ab,au,C⟩
 refine Sq (Sr (Wn 2 rfl (Wa (.nilCheck rfl) rfl (Wa (.eZ pF rfl) rfl (Wr (.fe (v:= .slice A n c) y8 rfl Q rfl) rfl (Wr (.len underlying115 rfl) rfl (Wn 1 rfl (Nx ?_))))))))
 by_cases c0:((k:Nat):Int)<((n:Nat):Int)
 ·refine Cy rfl (dT c0) (Sn (Sq (WC.block (Sq (WC.draw [0,1,2,3,4,5,6,7,8,9,10,11,12,13,14,15,16,17,18,19,20,21,22,23] mixed (by kernel_rfl) fun w5 b=>?_)))))
  have R:=P.le b
  refine Gn 1 rfl (Ga rfl (.nilCheck rfl) (Ga rfl (.eZ pF rfl) ?_))
  have t:=(Q.le b)
  refine Gd rfl (.fe (v:= .slice A n c) y8 rfl t rfl) (Gn 1 rfl (Ga rfl (.fV k underlying115 y9 rfl rfl (hS0.vec.isSome jZ (by omega)) rfl (by omega)) (Ga rfl (.gH Mi (hS0.vec.isSome jZ (by omega)) rfl) ?_)))
  have u:=(ab.le b)
  refine Gd rfl (.ik (j:=k) (o:=0) (v:= .int .i64 ((ws.getD k nX).f)) gM rfl u.vec jZ (gD ws nX (by omega)) rfl) (Ga rfl (.eZ iX rfl) ?_)
  have D:=(au.le b)
  refine Gd rfl (.fe (v:= .int .i64 e.f) gM rfl D rfl) (Gn 1 rfl ?_)
  by_cases ac:((ws.getD k nX).f)=e.f
  ·refine Ga rfl (.dec (.move rfl) (dT ac)) (Gn 1 rfl (jN rfl (.nilCheck rfl) (jN rfl (.eZ pF rfl) (pz rfl (.fe (v:= .slice A n c) y8 rfl t rfl) (Gn 1 rfl ?_)))))
   refine jN rfl (.fV k underlying115 y9 rfl rfl (hS0.vec.isSome jZ (by omega)) rfl (by omega)) (jN rfl (.gH Mj (hS0.vec.isSome jZ (by omega)) rfl) (pz rfl (.ik (j:=k) (o:=1) (v:= .int .i64 ((ws.getD k nX).c)) gM rfl u.vec jZ (gD ws nX (by omega)) rfl) (jN rfl (.eZ iY rfl) (pz rfl (.fe (v:= .int .i64 e.c) gM rfl D rfl) (Gn 2 rfl (G.nil (E.eY ?_)))))))
   by_cases c1:((ws.getD k nX).c)=e.c
   ·refine Cy rfl (dT c1) (Sq (WC.draw [0,1,2,3,4,5,6,7] mixed (by kernel_rfl) fun w6 F=>?_))
    have av:=R.le F
    refine Gn 1 rfl (Ga rfl (.nilCheck rfl) (Ga rfl (.eZ pF rfl) ?_))
    have ad:=(t.le F)
    refine Gd rfl (.fe (v:= .slice A n c) y8 rfl ad rfl) (Gn 1 rfl (Gd rfl (.fB PV (by rfl) rfl (C.le (b.trans F))) ?_))
    refine Ga rfl (.fV k underlying115 y9 rfl rfl (hS0.vec.isSome jZ (by omega)) rfl (by omega)) (G.iO rfl rfl rfl rfl (Ef.aau (j:=k) (⟨e.f,e.c,lo,hi,e.r⟩:Rw) y9 rfl rfl rfl (u.le F) jZ (by omega) fun aw ax ae=>(noT (by kernel_rfl) ?_)))
    have ay:jU w aw (fun k=>k=gp\/rowOf A c=some k):=av.ch ae (fun i hi _=>(fun i hi=>Or.inr hi) i hi)
    refine G.nil (E.eY (Rt (E.gT (E.eX (E.eX (E.gT (E.eX (E.nO rfl ?_))))))))
    have hnw:oL ws (⟨e.f,e.c,lo,hi,e.r⟩:Rw)=ws.set k (⟨e.f,e.c,lo,hi,e.r⟩:Rw):=Jh (by omega) hz (xW.2 ⟨by omega,by omega⟩)
    rw[hnw]
    exact⟨rfl,ay,_,_,_,(ad.ch ae hne),ax,hne,fun q hq=> .inl hq⟩
   refine Cn rfl (dF c1) (WC.skip (E.gI (E.eY (WC.region (Wn 1 rfl (Wa (.add rfl rfl (by omega)) rfl (Wn 1 rfl (W.nil (E.again (k+1) (.of rfl) ?_ ?_)))))))))
   ·exact⟨by omega,(fun j hj=>by rcases Nat.lt_or_ge j k with h|h;exact hz j h;rw[show j=k by omega];intro S;have:=(xW (e:=e)).1 S;omega),R,by have:=aa;have:=b.size;omega,t,u,D,(C.le b)⟩
   first|omega|(simp only[];omega)
  refine Ga rfl (.dec (.move rfl) (dF ac)) (Gn 12 rfl (G.nil (E.eY (WC.iD rfl (WC.skip (E.gI (E.eY (WC.region (Wn 1 rfl (Wa (.add rfl rfl (by omega)) rfl (Wn 1 rfl (W.nil (E.again (k+1) (.of rfl) ?_ ?_)))))))))))))
  ·exact⟨by omega,(fun j hj=>by rcases Nat.lt_or_ge j k with h|h;exact hz j h;rw[show j=k by omega];intro S;have:=(xW (e:=e)).1 S;omega),R,by have:=aa;have:=b.size;omega,t,u,D,(C.le b)⟩
  first|omega|(simp only[];omega)
 refine Cn rfl (dF c0) (WC.exit (E.fC (E.fC (E.gW (E.eY (WC.draw [0,1,2,3,4,5,6,7,8,9,10] mixed (by kernel_rfl) fun w7 H=>?_))))))
 have af:=P.le H
 refine Gn 2 rfl (Ga rfl (.nilCheck rfl) (Ga rfl (.eZ pF rfl) ?_))
 have I:=(Q.le H)
 refine Gd rfl (.fe (v:= .slice A n c) y8 rfl I rfl) (Gd rfl (.fB PV (by rfl) rfl (C.le H)) ?_)
 refine G.ef rfl rfl rfl rfl rfl (Ef.gq (len:=1) [_] underlying115 Ep rfl (by simp[Value.cells,jZ.len]) rfl (by decide) (by decide) ?_)
 intro ah ai az J l
 refine⟨fun _=>l,?_⟩
 have T:=af.le l
 have J:fA ai ah 173 (([(⟨e.f,e.c,lo,hi,e.r⟩:Rw)]).map GA).flatten.toArray:=J
 have aH:eU ai w7.heap.size 173 GA 5 (some ⟨ah,0,none⟩) 1 1 ([(⟨e.f,e.c,lo,hi,e.r⟩:Rw)]):=J.kL az jZ rfl rfl (by decide)
 refine G.ef rfl rfl rfl rfl rfl (Ef.mP (a:=(⟨e.f,e.c,lo,hi,e.r⟩:Rw)) underlying115 Ep underlying115 jZ rfl (ab.le (H.trans l)) rfl J (by omega) (by unfold maxLen;omega) (Nat.le_trans hbase (T).size) ?_)
 intro aA aB aC aE aj U
 refine noT (by kernel_rfl) ?_
 have ak:jU w aC (fun k=>k=gp\/rowOf A c=some k):=T.ch aj (fun i hi _=>(fun i hi=>Or.inr hi) i hi)
 refine Ga rfl (.nilCheck rfl) (Ga rfl (.eZ pF rfl) (G.iO rfl rfl rfl rfl (Ef.store PU rfl rfl ((I.le l).ch aj hne) (by first|decide|(simp;done)) rfl ?_)))
 intro al V am
 refine noT (by kernel_rfl) ?_
 have V:fA al gp 117 #[.slice aA (n+1) aB]:=V
 have an:jU w al (fun k=>k=gp\/rowOf A c=some k):=ak.ch am (fun i hi _=>by cases hi;exact Or.inl rfl)
 refine G.nil (E.end_ ?_)
 have aF:=(aE.ch am (fun q hq=>by cases hq;exact(U.off (by have:=I.lt;have:=l.size;omega) hne)))
 refine E.nO rfl ?_
 have hnw:oL ws (⟨e.f,e.c,lo,hi,e.r⟩:Rw)=ws++[(⟨e.f,e.c,lo,hi,e.r⟩:Rw)]:=EO (fun j hj=>hz j (by omega))
 rw[hnw]
 exact⟨rfl,an,_,_,_,V,aF,(U.off (by have:=I.lt;have:=l.size;omega) hne),fun q hq=>(U q hq).elim (fun hz=> .inl hz) (fun hz=> .inr (by have:=X.size;have:=L.size;have:=Y.size;have:=Z.size;have:=P.size;have:=af.size;have:=T.size;have:=ak.size;have:=an.size;omega))⟩
end Go.Proofs.YtkaedikifgpkeaaGreatDoor

namespace Go.Proofs.YtkaedikifgpkeaaGreatDoor
open Tryz
open Go Go.Sx Go.Num Go.fO Go.oF Go.uI
set_option maxRecDepth 20000
def ib (w:World)(base gp:Nat)(F:Nat->Prop)(s:MF×Nat):Prop:=∃A n c ws,fA w gp 117 #[.slice A n c]/\eU w base 173 GA 5 A n c ws/\rowOf A c≠some gp/\CX ws/\(∀x∈ws,j3 x.nt)/\mE ws=s.1/\ws.length<=s.2/\(∀k,F k↔k=gp\/rowOf A c=some k)/\base<=gp
section
variable {w w':World}{base gp:Nat}{F:Nat->Prop}{s:MF×Nat}
theorem ib.iQ {F':Nat->Prop}(h:ib w base gp F s)(hc:jU w w' F')(hne:∀k,F k->¬F' k):ib w' base gp F s:=by
  obtain⟨A,n,c,ws,d,e,f,i,j,l,m,b,o⟩:=h
  exact⟨A,n,c,ws,d.iQ hc (hne _ ((b _).2 (.inl rfl))),e.iQ hc (fun q hq=>hne _ ((b _).2 (.inr hq))),f,i,j,l,m,b,o⟩
theorem ib.ch {r:Option Nat}(h:ib w base gp F s)(hc:Ch w w' r)(hne:∀k,r=some k->¬F k):ib w' base gp F s:=h.iQ (hc.iQ (F:=fun k=>r=some k) (fun i hi=>hi)) (fun k hk hr=>hne k hr hk)
theorem ib.le (h:ib w base gp F s)(hl:Le w w'):ib w' base gp F s:=h.iQ (hl.iQ (fun _=>False)) (fun _ _ hf=>hf)
theorem ib.lt (h:ib w base gp F s){k:Nat}(hk:F k):k<w.heap.size:=by
  obtain⟨A,n,c,ws,b,d,f,i,j,l,m,e,o⟩:=h
  rcases(e k).1 hk with rfl|hk
  · exact b.lt
  · exact(d.row hk).2
theorem ib.old (h:ib w base gp F s){k:Nat}(hk:F k):base<=k:=by
  obtain⟨A,n,c,ws,f,b,i,j,l,m,o,d,e⟩:=h
  rcases(d k).1 hk with rfl|hk
  · exact e
  · exact(b.row hk).1
theorem ib.size (h:ib w base gp F s):base<=w.heap.size:=by
  obtain⟨A,n,c,ws,b,d,e,f,i,j,k,l,m⟩:=h
  have:=b.lt
  omega
theorem ER:∀{ws:List Rw},(∀x∈ws,j3 x.nt)->ic (mE ws)
  |[],_,_,_,h=>by cases h
  |x::l,hx,k,v,h=>by
    unfold mE at h
    split at h
    · cases h;exact hx x (List.mem_cons_self ..)
    · exact ER (fun y hy=>hx y (List.mem_cons_of_mem _ hy)) k v h
theorem ib.good (h:ib w base gp F s):ic s.1:=by
  obtain⟨A,n,c,ws,e,f,i,j,b,d,k,l,m⟩:=h
  rw[<-d];exact ER b
theorem ib.up (h:ib w base gp F s){m:MF}{N:Nat}(hm:s.1=m)(hN:s.2<=N):ib w base gp F (m,N):=by
  obtain⟨A,n,c,ws,b,d,e,f,i,j,k,l,o⟩:=h
  exact⟨A,n,c,ws,b,d,e,f,i,j.trans hm,Nat.le_trans k hN,l,o⟩
theorem uA (e:fO.Edge)(h:ib w base gp F s)(hrm:0<=e.r/\e.r<=1125899906842624)(hN:s.2<=100000):Calls prog 65 #[.pointer (some ⟨gp,0,none⟩),.agg (fD e).toArray] w fun r w'=>r= .returned (.tuple #[.int .i64 (cnt (s.1 (iC e)) e.r).lo,.int .i64 (cnt (s.1 (iC e)) e.r).hi])/\Le w w':=by
  obtain⟨A,n,c,ws,d,b,k,f,i,j,l,m,o⟩:=h
  have hl:=b.1
  rw[<-j]
  exact Ji e w d b.vec f i hrm (by omega)
theorem AY (e:fO.Edge)(lo hi:Int)(h:ib w base gp F s)(hok:j3 ⟨lo,hi,e.r⟩)(hN:s.2<=100000):Calls prog 66 #[.pointer (some ⟨gp,0,none⟩),.agg (fD e).toArray,.int .i64 lo,.int .i64 hi] w fun r w'=>r= .returned (.tuple #[])/\∃F',ib w' base gp F' (nV s.1 ⟨e.f,e.c⟩ ⟨lo,hi,e.r⟩,s.2+1)/\Cs w F F'/\jU w w' F:=by
  obtain⟨A,n,c,ws,d,i,j,l,m,o,y,b,t⟩:=h
  have hl:=i.1
  have z:=d.lt
  refine Calls.mono (KN e lo hi w d i j (by omega) (by omega)) ?_
  rintro r w' ⟨hr,hc,A',n',c',k1,k2,u,v⟩
  refine⟨hr,fun k=>k=gp\/rowOf A' c'=some k,⟨A',n',c',_,k1,k2,u,C8 l,fun x hx=>?_,funext fun k=>?_,Nat.le_trans (EN ws) (by omega),fun _=>Iff.rfl,t⟩,fun k hk=>?_,hc.mono fun k hk _=>(b k).2 hk⟩
  · rcases yS hx with rfl|hx
    · exact hok
    · exact m x hx
  · rw[CZ,<-o];rfl
  · rcases hk with rfl|hk
    · exact .inl ((b _).2 (.inl rfl))
    · exact(v k hk).imp (fun hq=>(b _).2 (.inr hq)) id
end
theorem Om (w:World):Calls prog 28 #[] w fun r w'=>∃gp,r= .returned (.pointer (some ⟨gp,0,none⟩))/\fA w' gp 117 #[.slice none 0 0]/\w.heap.size<=gp/\Le w w':=by
 refine enter func28 rfl rfl ?_
 have b:=Le.refl w
 refine Sr (Wn 1 rfl (Nx (Sr (Wa (.gF [.slice none 0 0] VN z117 rfl rfl) rfl (W.ef rfl rfl rfl (Ef.iM rfl fun c d e (f:fA d c 117 #[.slice none 0 0]) h=>(Wn 1 rfl (Nx (Rt (E.fu rfl rfl ?_))))))))))
 exact⟨_,rfl,f,(by have:=e;have:=b.size;omega),(b.trans h)⟩

theorem Xl (w:World):Calls prog 28 #[] w fun r w'=>∃gp F,r= .returned (.pointer (some ⟨gp,0,none⟩))/\ib w' w.heap.size gp F ((fun _=>none:MF),0)/\Le w w':=by
  refine Calls.mono (Om w) ?_
  rintro r w' ⟨gp,hr,b,c,d⟩
  exact⟨gp,fun k=>k=gp\/rowOf none 0=some k,hr,⟨none,0,0,[],b,eU.nil _ _ _ _ _ _,(by simp[rowOf]),List.Pairwise.nil,(fun x hx=>by cases hx),rfl,Nat.le_refl _,fun _=>Iff.rfl,c⟩,d⟩

theorem Rq {base gp:Nat}{F:Nat->Prop}{s:MF×Nat}(e:fO.Edge)(a:Int)(w:World)(hP:ib w base gp F s)(hN:s.2<=100000):Calls prog 29 #[.pointer (some ⟨gp,0,none⟩),.agg (fD e).toArray,.int .i64 (a)] w fun r w'=>r= .returned (.tuple #[])/\∃F',ib w' base gp F' (wV s.1 e a,s.2+1)/\Cs w F F'/\jU w w' F:=by
 have hgm:=hP.good
 refine enter func29 rfl rfl (Sr (W.ef rfl rfl rfl (Ef.iM rfl fun t f z (h:fA f t 66 (fD e).toArray) c=>(Nx (Sr (Wr (.fB iJ (by rfl) rfl h) rfl ?_))))))
 refine Wn 1 rfl (W.cl WN rfl rfl (wG e a f) ?_)
 rintro _ A ⟨rfl,b⟩
 have j:=((jU.refl w F).le c).le b
 refine Nx ?_
 by_cases l:(jJ e a)=true
 ·refine Cy rfl l ?_
  have hsm:=l9 (by assumption:jJ e a=true)
  have hmz:=lv hsm.1
  have hrm:0<=e.r/\e.r<=1125899906842624:=by omega
  have hof:=oO hgm (iC e) (show 0<e.r by omega) (show e.r<=1125899906842624 by omega)
  unfold j3 ofM at hof
  refine Sr (Wn 1 rfl ?_)
  have m:=(h.le b)
  refine Wr (.fB iJ (by rfl) rfl m) rfl ?_
  have n:=(hP.le (c.trans b))
  refine W.cl P6 rfl rfl (uA e n hrm (by omega)) ?_
  rintro _ C ⟨rfl,d⟩
  have o:=j.le d
  refine Wn 5 rfl (Nx (WC.region (Wn 1 rfl (Wr (.fB iJ (by rfl) rfl (m.le d)) rfl ?_))))
  refine Wn 2 rfl (Wa (.sub rfl rfl (by omega)) rfl (Wr (.min2 rfl rfl) rfl (Wn 2 rfl (Wr (.min2 rfl rfl) rfl (W.cl Tw rfl rfl (AY e (min ((cnt (s.1 (iC e)) e.r).lo) (a-1)) (min ((cnt (s.1 (iC e)) e.r).hi) a) (n.le d) (by unfold j3;simp only;omega) (by omega)) ?_)))))
  rintro _ D ⟨rfl,u,v,x,y⟩
  refine W.nil (E.end_ (E.nO rfl ?_))
  exact⟨rfl,u,(v).up ((if_pos (by assumption)).symm) (Nat.le_refl _),(fun k hk=>(x k hk).imp id (fun hz=>Nat.le_trans o.size hz)),(o.sub y (fun i hi hlt=>hi))⟩
 refine Cn rfl (Bool.eq_false_iff.2 l) (WC.skip (E.end_ (E.nO rfl ?_)))
 exact⟨rfl,F,(hP.le (c.trans b)).up (if_neg (by assumption)).symm (Nat.le_succ _),fun k hk=> .inl hk,j⟩

theorem Jj {base gp:Nat}{F:Nat->Prop}{s:MF×Nat}(e:fO.Edge)(a:Int)(w:World)(hP:ib w base gp F s)(hN:s.2<=100000):Calls prog 30 #[.pointer (some ⟨gp,0,none⟩),.agg (fD e).toArray,.int .i64 (a)] w fun r w'=>r= .returned (.tuple #[])/\∃F',ib w' base gp F' (lG s.1 e a,s.2+1)/\Cs w F F'/\jU w w' F:=by
 have hgm:=hP.good
 refine enter func30 rfl rfl (Sr (W.ef rfl rfl rfl (Ef.iM rfl fun t f z (h:fA f t 66 (fD e).toArray) c=>(Nx (Sr (Wr (.fB iJ (by rfl) rfl h) rfl ?_))))))
 refine Wn 1 rfl (W.cl WN rfl rfl (wG e a f) ?_)
 rintro _ A ⟨rfl,b⟩
 have j:=((jU.refl w F).le c).le b
 refine Nx ?_
 by_cases l:(jJ e a)=true
 ·refine Cy rfl l ?_
  have hsm:=l9 (by assumption:jJ e a=true)
  have hmz:=lv hsm.1
  have hrm:0<=e.r/\e.r<=1125899906842624:=by omega
  have hof:=oO hgm (iC e) (show 0<e.r by omega) (show e.r<=1125899906842624 by omega)
  unfold j3 ofM at hof
  refine Sr (Wn 1 rfl ?_)
  have m:=(h.le b)
  refine Wr (.fB iJ (by rfl) rfl m) rfl ?_
  have n:=(hP.le (c.trans b))
  refine W.cl P6 rfl rfl (uA e n hrm (by omega)) ?_
  rintro _ C ⟨rfl,d⟩
  have o:=j.le d
  refine Wn 5 rfl (Nx (WC.region (Wn 1 rfl (Wr (.fB iJ (by rfl) rfl (m.le d)) rfl ?_))))
  refine Wn 2 rfl (Wr (.max2 rfl rfl) rfl (Wn 2 rfl (Wa (.add rfl rfl (by omega)) rfl (Wr (.max2 rfl rfl) rfl (W.cl Tw rfl rfl (AY e (max ((cnt (s.1 (iC e)) e.r).lo) a) (max ((cnt (s.1 (iC e)) e.r).hi) (a+1)) (n.le d) (by unfold j3;simp only;omega) (by omega)) ?_)))))
  rintro _ D ⟨rfl,u,v,x,y⟩
  refine W.nil (E.end_ (E.nO rfl ?_))
  exact⟨rfl,u,(v).up ((if_pos (by assumption)).symm) (Nat.le_refl _),(fun k hk=>(x k hk).imp id (fun hz=>Nat.le_trans o.size hz)),(o.sub y (fun i hi hlt=>hi))⟩
 refine Cn rfl (Bool.eq_false_iff.2 l) (WC.skip (E.end_ (E.nO rfl ?_)))
 exact⟨rfl,F,(hP.le (c.trans b)).up (if_neg (by assumption)).symm (Nat.le_succ _),fun k hk=> .inl hk,j⟩



theorem Jk {base gp:Nat}{F:Nat->Prop}{s:MF×Nat}(e:fO.Edge)(a:Int)(w:World)(hP:ib w base gp F s)(hN:s.2<=100000):Calls prog 192 #[.pointer (some ⟨gp,0,none⟩),.agg (fD e).toArray,.int .i64 (a)] w fun r w'=>∃A1 c1 A2 c2,r= .returned (.tuple #[.agg #[.slice A1 (eP (gN s.1 e a).n).length c1,.slice A2 (eP (gN s.1 e a).d).length c2],.bool (lT e a)])/\eU w' w.heap.size 143 dv 1 A1 (eP (gN s.1 e a).n).length c1 (eP (gN s.1 e a).n)/\eU w' w.heap.size 143 dv 1 A2 (eP (gN s.1 e a).d).length c2 (eP (gN s.1 e a).d)/\Le w w':=by
 have hgm:=hP.good
 refine enter func192 rfl rfl (Sr (W.ef rfl rfl rfl (Ef.iM rfl fun Y Z ap (aa:fA Z Y 66 (fD e).toArray) R=>?_)))
 have h:=(Le.refl w).trans R
 refine W.ef rfl rfl rfl (Ef.fI z37 fun i S l (c:fA S i 37 #[.slice none 0 0,.slice none 0 0]) x=>(Wn 1 rfl (Nx (Sq (Sr ?_)))))
 have T:=(aa.le x)
 refine Wr (.fB iJ (by rfl) rfl T) rfl ?_
 refine W.cl Vl rfl rfl (EP e S) ?_
 rintro _ aq ⟨rfl,b⟩
 have m:=(h.trans x).trans b
 refine Wn 1 rfl ?_
 by_cases f:(lS e)=true
 ·refine Wa (.dec (.move rfl) (congrArg not f)) rfl (Wn 3 rfl ?_)
  by_cases j:a<0
  ·refine Dt j rfl rfl (Wn 5 rfl (Nx (WC.gL rfl (Sr (Wa (.gF [.slice none 0 0,.slice none 0 0] jY z37 rfl rfl) rfl (W.sA gV rfl rfl (c.le b) ?_))))))
   intro ab y ac
   have y:fA ab i 37 #[.slice none 0 0,.slice none 0 0]:=y
   have L6:=m.tb ac h l
   refine Wn 1 rfl (Nx (Rt (E.eX (E.jb rfl (iB rfl y gQ (by rfl)) rfl ?_))))
   have hgo:lT e a=false:=(by simp[lT,f,j]<;>omega)
   have hod:gN s.1 e a=⟨0,0⟩:=by unfold gN;exact if_neg (by rw[hgo];decide)
   rw[hod,hgo]
   exact⟨none,0,none,0,by simp only[eT];rfl,by simp only[eT];exact eU.nil _ _ _ _ _ _,by simp only[eT];exact eU.nil _ _ _ _ _ _,L6⟩
  refine Df j rfl rfl (Wn 1 rfl (Wg (Any.rd (.eZ iF rfl) _) rfl ?_))
  have U:=(T.le b)
  refine Wg (.fe (v:= .int .i64 e.r) gM rfl U rfl) rfl (Wn 2 rfl (Nx ?_))
  by_cases o:e.r<a
  ·refine Cy rfl (dT o) (Sr (Wa (.gF [.slice none 0 0,.slice none 0 0] jY z37 rfl rfl) rfl (W.sA gV rfl rfl (c.le b) ?_)))
   intro ad z ae
   have z:fA ad i 37 #[.slice none 0 0,.slice none 0 0]:=z
   have L9:=m.tb ae h l
   refine Wn 1 rfl (Nx (Rt (E.eX (E.jb rfl (iB rfl z gQ (by rfl)) rfl ?_))))
   have hgo:lT e a=false:=(by simp[lT,f,j,o]<;>omega)
   have hod:gN s.1 e a=⟨0,0⟩:=by unfold gN;exact if_neg (by rw[hgo];decide)
   rw[hod,hgo]
   exact⟨none,0,none,0,by simp only[eT];rfl,by simp only[eT];exact eU.nil _ _ _ _ _ _,by simp only[eT];exact eU.nil _ _ _ _ _ _,L9⟩
  refine Cn rfl (dF o) ?_
  have ZI:lS e=true:=by assumption
  have hmb:=wW hgm ZI
  have hmz:=lv ZI
  have hrm:0<=e.r/\e.r<=1125899906842624:=by omega
  have hbe:mK s.1 e=((cnt (s.1 (iC e)) e.r).lo,(cnt (s.1 (iC e)) e.r).hi):=by unfold mK ofM;rw[if_pos ZI]
  rw[hbe]at hmb
  simp only at hmb
  refine Sn (Sr (Wn 1 rfl (Wr (.fB iJ (by rfl) rfl U) rfl ?_)))
  refine W.cl P6 rfl rfl (uA e (hP.le (R.trans (x.trans b))) hrm (by omega)) ?_
  rintro _ af ⟨rfl,k⟩
  have A:=m.trans k
  refine Wn 5 rfl (Nx (Sr (Wn 4 rfl (Wr (.min2 rfl rfl) rfl (Wr (.max2 rfl rfl) rfl (Wa (.sub rfl rfl (by omega)) rfl (Wn 1 rfl (Nx (Sr (Wn 1 rfl ?_))))))))))
  obtain⟨nn,hnn⟩:=Int.eq_ofNat_of_zero_le (show 0<=(cnt (s.1 (iC e)) e.r).hi-max (cnt (s.1 (iC e)) e.r).lo (min a (cnt (s.1 (iC e)) e.r).hi) by omega)
  have abu:Bv s.1 e a=(nn:Int):=by unfold Bv;rw[hbe];simp only;omega
  refine Wr (.as (.yh (lY underlying3) underlying24 rfl (IntWalk.u64_in _ (by omega))) (by rw[hnn])) rfl ?_
  refine Wn 2 rfl (Wa (.sub rfl rfl (by omega)) rfl ?_)
  obtain⟨dd,hdd⟩:=Int.eq_ofNat_of_zero_le (show 0<=(cnt (s.1 (iC e)) e.r).hi-(cnt (s.1 (iC e)) e.r).lo by omega)
  have abv:DK s.1 e=(dd:Int):=by unfold DK;rw[hbe];exact hdd
  refine Wr (.as (.yh (lY underlying3) underlying24 rfl (IntWalk.u64_in _ (by omega))) (by rw[hdd])) rfl ?_
  refine W.cl Tv rfl rfl (AX nn dd af (by omega) (by omega) (by omega)) ?_
  rintro _ ar ⟨C,D,H,I,rfl,J,K,L⟩
  have V:=A.trans L
  refine Wn 1 rfl (Wa (.extract (v:= .agg #[.slice C ((eP ((gY nn dd).n)).length) D,.slice H ((eP ((gY nn dd).d)).length) I]) rfl rfl) rfl (Wn 1 rfl (W.ef rfl rfl rfl (Ef.fI z37 fun X ah ai (aj:fA ah X 37 #[.slice none 0 0,.slice none 0 0]) t=>(W.sA gV rfl rfl aj ?_)))))
  intro ak N u
  have N:fA ak X 37 #[.slice C ((eP ((gY nn dd).n)).length) D,.slice H ((eP ((gY nn dd).d)).length) I]:=N
  refine Wn 1 rfl (Nx (Sr (Wr (.fB gQ (by rfl) rfl N) rfl ?_)))
  refine W.sA gV rfl rfl ((c.le (b.trans (k.trans (L.trans t)))).cn u (by have:=c.lt;have:=b.size;have:=k.size;have:=L.size;omega)) ?_
  intro al O P
  have O:fA al i 37 #[.slice C ((eP ((gY nn dd).n)).length) D,.slice H ((eP ((gY nn dd).d)).length) I]:=O
  refine Wn 1 rfl (Nx (Rt (E.jb rfl (iB rfl O gQ (by rfl)) rfl ?_)))
  have hgo:lT e a=true:=(by simp[lT,f,j,o]<;>omega)
  have hod:gN s.1 e a=gY nn dd:=by unfold gN;rw[if_pos hgo,show Bv s.1 e a=(nn:Int)from abu,show DK s.1 e=(dd:Int)from abv];rfl
  rw[hod,hgo]
  exact⟨_,_,_,_,rfl,((((J.le t).cb u (J.rn (by omega))).cb P (J.rl (by have:=c.lt;have:=b.size;have:=k.size;omega))).mono A.size),((((K.le t).cb u (K.rn (by omega))).cb P (K.rl (by have:=c.lt;have:=b.size;have:=k.size;omega))).mono A.size),(((V.trans t).tb u V ai).tb P h l)⟩
 refine Wa (.dec (.move rfl) (congrArg not (Bool.eq_false_iff.2 f))) rfl (Wn 9 rfl (Nx (WC.gL rfl (Sr (Wa (.gF [.slice none 0 0,.slice none 0 0] jY z37 rfl rfl) rfl (W.sA gV rfl rfl (c.le b) ?_))))))
 intro am Q an
 have Q:fA am i 37 #[.slice none 0 0,.slice none 0 0]:=Q
 have ao:=m.tb an h l
 refine Wn 1 rfl (Nx (Rt (E.eX (E.jb rfl (iB rfl Q gQ (by rfl)) rfl ?_))))
 have hgo:lT e a=false:=(by simp[lT,f]<;>omega)
 have hod:gN s.1 e a=⟨0,0⟩:=by unfold gN;exact if_neg (by rw[hgo];decide)
 rw[hod,hgo]
 exact⟨none,0,none,0,by simp only[eT];rfl,by simp only[eT];exact eU.nil _ _ _ _ _ _,by simp only[eT];exact eU.nil _ _ _ _ _ _,ao⟩
end Go.Proofs.YtkaedikifgpkeaaGreatDoor

namespace Go.Proofs.YtkaedikifgpkeaaGreatDoor
open Tryz
open Go Go.Sx Go.Num Go.wM Go.fO Go.tH
set_option maxRecDepth 20000
def Z4 (p q:fO.Edge):Prop:=p.c=q.c->p.f=q.t/\p.t=q.f/\p.r=q.r
structure Xx (g:List fO.Edge)(k:Nat):Prop where
  ok:∀i,i<k->edgeOk (g.getD i eO)=true
  up:∀i,i+1<k->tO (g.getD i eO) (g.getD (i+1) eO)<0
  al:∀p i,p<i->i<k->Z4 (g.getD p eO) (g.getD i eO)
def ZK (g:List fO.Edge)(k p:Nat):Prop:=∀j,j<p->Z4 (g.getD j eO) (g.getD k eO)
theorem Xx.next {g:List fO.Edge}{k:Nat}(h:Xx g k)(h1:edgeOk (g.getD k eO)=true)(h2:0<k->tO (g.getD (k-1) eO) (g.getD k eO)<0)(h3:ZK g k k):Xx g (k+1):=by
  refine⟨fun i hi=>?_,fun i hi=>?_,fun p i hp hi=>?_⟩
  · rcases Nat.lt_or_ge i k with q|q
    · exact h.ok i q
    · rw[show i=k by omega];exact h1
  · rcases Nat.lt_or_ge (i+1) k with q|q
    · exact h.up i q
    · have:=h2 (by omega)
      rwa [show k-1=i by omega,show k=i+1 by omega]at this
  · rcases Nat.lt_or_ge i k with q|q
    · exact h.al p i hp q
    · rw[show i=k by omega];exact h3 p (by omega)
theorem Xx.done {g:List fO.Edge}(h:Xx g g.length):ko g=true:=by
  have ho:∀d i,i+d+1<g.length->(g.getD i eO).c<(g.getD (i+d+1) eO).c\/((g.getD i eO).c=(g.getD (i+d+1) eO).c/\(g.getD i eO).f<(g.getD (i+d+1) eO).f):=by
    intro d
    induction d with
    |zero=>intro i hi;exact ve.1 (h.up i hi)
    |succ d ih=>
      intro i hi
      have b:=ih i (by omega)
      have e:=ve.1 (h.up (i+d+1) hi)
      rw[show i+(d+1)+1=i+d+1+1 by omega]
      omega
  refine I4 h.ok fun i j hij hj=>⟨?_,h.al i j hij hj⟩
  have:=ho (j-i-1) i (by omega)
  rwa [show i+(j-i-1)+1=j by omega]at this
theorem ZK.next {g:List fO.Edge}{k p:Nat}(h:ZK g k p)(h1:Z4 (g.getD p eO) (g.getD k eO)):ZK g k (p+1):=fun j hj=>by
  rcases Nat.lt_or_ge j p with q|q
  · exact h j q
  · rw[show j=p by omega];exact h1
theorem rM {g:List fO.Edge}{k:Nat}(hk:k<g.length)(h:edgeOk (g.getD k eO)=false\/(0<k/\¬tO (g.getD (k-1) eO) (g.getD k eO)<0)\/∃p,p<k/\¬Z4 (g.getD p eO) (g.getD k eO)):ko g=false:=by
  refine Bool.eq_false_iff.2 fun hr=>?_
  obtain⟨d,b⟩:=uw hr
  rcases h with q|⟨c,q⟩|⟨p,c,q⟩
  · rw[d k hk]at q;cases q
  · exact q (ve.2 (b (k-1) k (by omega) hk).1)
  · exact q (b p k c hk).2
set_option maxHeartbeats 1000000 in
theorem Jl {A:Option Addr} {n c:Nat} {xs:List fO.Edge} (w:World) (hV:Vec w fD 9 A n xs) (hn:n<=1000000):Calls prog 85 #[.slice A n c] w fun r w'=>r= .returned (.bool (ko xs))/\Le w w':=by
 have hl:=hV.1
 refine enter func85 rfl rfl (Sr (Wn 1 rfl (Nx (Sq (Sr (Wn 1 rfl (Nx (WC.block (WC.loop (ι:=Nat) (fun k=>[(0,.slice A n c),(3,.int .i64 ((k:Nat):Int))]) (fun k e=>(k<=n)/\(Xx xs k)/\Le w e/\w.heap.size<=e.heap.size) (fun k=>n-k) 0 ?_ ?_ ?_)))))))))
 ·exact .of rfl
 ·exact⟨Nat.zero_le _,⟨fun i hi=>absurd hi (Nat.not_lt_zero _),fun i hi=>absurd hi (Nat.not_lt_zero _),fun p i _ hi=>absurd hi (Nat.not_lt_zero _)⟩,(Le.refl w),Nat.le_refl _⟩
 rintro k e ⟨hk,hri,L,N⟩
 refine Sq (Sr (Wn 2 rfl (Wr (.len underlying22 rfl) rfl (Wn 1 rfl (Nx ?_)))))
 by_cases O:((k:Nat):Int)<((n:Nat):Int)
 ·refine Cy rfl (dT O) (Sn (Sq (WC.block (WC.cut (ι:=Unit) (fun _u=>[(0,.slice A n c),(3,.int .i64 ((k:Nat):Int))]) (fun _u l=>((edgeOk (xs.getD k eO))=true)/\(((0<((k:Nat):Int))/\(tO (xs.getD (k-1) eO) (xs.getD k eO)<0))\/(¬(0<((k:Nat):Int))))/\Le w l/\e.heap.size<=l.heap.size) ?_ ?_))))
  ·refine Sq (WC.draw [0,1,2,3,4,5,6,7,8,9,10,11,12,13,14,15,16,17,18,19,20,21,22] mixed (by kernel_rfl) fun X z=>?_)
   have P:=L.trans z
   refine Gn 2 rfl (Ga rfl (.fV k underlying22 iI rfl rfl (hV.isSome eQ (by omega)) rfl (by omega)) (Gd rfl (.j5 iJ rfl (hV.le P) eQ (gD xs eO (by omega))) (G.ef rfl rfl rfl rfl rfl (Ef.call Vs rfl rfl (Cf (xs.getD k eO) X) ?_))))
   rintro _ Y ⟨rfl,m⟩
   refine⟨_,rfl,?_⟩
   refine⟨fun _=>m,?_⟩
   have d:=P.trans m
   refine Gn 1 rfl ?_
   by_cases s:(edgeOk (xs.getD k eO))=true
   ·refine Ga rfl (.dec (.move rfl) (congrArg not s)) (Gn 2 rfl ?_)
    by_cases u:0<((k:Nat):Int)
    ·refine jN rfl (.dec (.move rfl) (dT u)) (Gn 2 rfl (jN rfl (.sub rfl rfl (by omega)) (jN rfl (.fV (k-1) underlying22 iI rfl rfl (hV.isSome eQ (by omega)) (by omega) (by omega)) (pz rfl (.j5 iJ rfl (hV.le d) eQ (gD xs eO (by omega))) (Gn 2 rfl ?_)))))
     refine jN rfl (.fV k underlying22 iI rfl rfl (hV.isSome eQ (by omega)) rfl (by omega)) (pz rfl (.j5 iJ rfl (hV.le d) eQ (gD xs eO (by omega))) (G.mW rfl rfl rfl rfl rfl rfl rfl rfl (Ef.call YY rfl rfl (QM (xs.getD (k-1) eO) (xs.getD k eO) Y) ?_)))
     rintro _ ad ⟨rfl,C⟩
     refine⟨_,rfl,?_⟩
     refine⟨fun _=>C,?_⟩
     have Q:=d.trans C
     refine Gn 1 rfl (jN rfl (.mM rfl rfl rfl) (Gn 1 rfl (G.nil (E.eY ?_))))
     by_cases D:tO (xs.getD (k-1) eO) (xs.getD k eO)<0
     ·refine Cn rfl (congrArg not (dT D)) (WC.skip (E.meet () (.of rfl) ?_))
      exact⟨s,Or.inl ⟨u,D⟩,Q,by have:=z.size;have:=m.size;have:=C.size;omega⟩
     refine Cy rfl (congrArg not (dF D)) (Sr (Wn 1 rfl (Nx (Rt (E.eX (E.gT (E.eX (E.eX (E.gT (E.eX (E.fu rfl rfl ?_)))))))))))
     exact⟨rB (rM (k:=k) (by omega) (by first|exact .inl (Bool.eq_false_iff.2 (by assumption))|exact .inr (.inl ⟨by omega,by assumption⟩)|exact .inr (.inr ⟨p,by omega,fun h=>by have:=h (by assumption);omega⟩))).symm,Q⟩
    refine jN rfl (.dec (.move rfl) (dF u)) (Gn 11 rfl (jN rfl (.mO rfl rfl rfl) (Gn 1 rfl (G.nil (E.eY (WC.iD rfl (WC.skip (E.meet () (.of rfl) ?_))))))))
    exact⟨s,Or.inr u,d,by have:=z.size;have:=m.size;omega⟩
   refine Ga rfl (.dec (.move rfl) (congrArg not (Bool.eq_false_iff.2 s))) (Gn 3 rfl (G.fZ rfl rfl rfl rfl rfl rfl (G.fZ rfl rfl rfl rfl rfl rfl (G.fZ rfl rfl rfl rfl rfl rfl (G.fZ rfl rfl rfl rfl rfl rfl ?_)))))
   refine G.fZ rfl rfl rfl rfl rfl rfl (G.fZ rfl rfl rfl rfl rfl rfl (G.fZ rfl rfl rfl rfl rfl rfl (G.fZ rfl rfl rfl rfl rfl rfl (G.fZ rfl rfl rfl rfl rfl rfl (G.fZ rfl rfl rfl rfl rfl rfl ?_)))))
   refine G.fZ rfl rfl rfl rfl rfl rfl (Gn 2 rfl (G.nil (E.eY (WC.gL rfl (Sr (Wn 1 rfl (Nx (Rt (E.eX (E.gT (E.eX (E.eX (E.gT (E.eX (E.fu rfl rfl ?_)))))))))))))))
   exact⟨rB (rM (k:=k) (by omega) (by first|exact .inl (Bool.eq_false_iff.2 (by assumption))|exact .inr (.inl ⟨by omega,by assumption⟩)|exact .inr (.inr ⟨p,by omega,fun h=>by have:=h (by assumption);omega⟩))).symm,d⟩
  rintro _u l ⟨ae,Z,aa,R⟩
  refine Sr (Wn 1 rfl (Nx (WC.block (WC.loop (ι:=Nat) (fun p=>[(0,.slice A n c),(3,.int .i64 ((k:Nat):Int)),(4,.int .i64 ((p:Nat):Int))]) (fun p x=>(p<=k)/\(ZK xs k p)/\Le w x/\l.heap.size<=x.heap.size) (fun p=>k-p) 0 ?_ ?_ ?_))))
  ·exact .of rfl
  ·exact⟨Nat.zero_le _,fun j hj=>absurd hj (Nat.not_lt_zero _),aa,Nat.le_refl _⟩
  rintro p x ⟨hp,ZT,S,T⟩
  refine Sq (Sr (Wn 3 rfl (Nx ?_)))
  by_cases U:((p:Nat):Int)<((k:Nat):Int)
  ·refine Cy rfl (dT U) (Sn (WC.cut (ι:=Unit) (fun _u=>[(0,.slice A n c),(3,.int .i64 ((k:Nat):Int)),(4,.int .i64 ((p:Nat):Int))]) (fun _u F=>(((((xs.getD p eO).c)=((xs.getD k eO).c))/\¬(((xs.getD p eO).f)≠((xs.getD k eO).t))/\¬(((xs.getD p eO).t)≠((xs.getD k eO).f))/\¬(((xs.getD p eO).r)≠((xs.getD k eO).r)))\/(¬(((xs.getD p eO).c)=((xs.getD k eO).c))))/\Le w F/\x.heap.size<=F.heap.size) ?_ ?_))
   ·refine WC.block (Sq (WC.draw [0,1,2,3,4,5,6,7,8,9,10,11,12,13,14,15,16,17,18,19,20,21,22,23,24,25,26,27,28,29,30,31,32,33,34,35,36,37,38,39,40,41,42,43,44,45,46,47,48,49] mixed (by kernel_rfl) fun w9 H=>?_))
    have b:=S.trans H
    refine Gn 2 rfl (Ga rfl (.fV p underlying22 iI rfl rfl (hV.isSome eQ (by omega)) rfl (by omega)) (Ga rfl (.gH iY (hV.isSome eQ (by omega)) rfl) (Gd rfl (.ik (j:=p) (o:=2) (v:= .int .i64 ((xs.getD p eO).c)) gM rfl (hV.le b) eQ (gD xs eO (by omega)) rfl) (Gn 2 rfl (Ga rfl (.fV k underlying22 iI rfl rfl (hV.isSome eQ (by omega)) rfl (by omega)) ?_)))))
    refine Ga rfl (.gH iY (hV.isSome eQ (by omega)) rfl) (Gd rfl (.ik (j:=k) (o:=2) (v:= .int .i64 ((xs.getD k eO).c)) gM rfl (hV.le b) eQ (gD xs eO (by omega)) rfl) (Gn 1 rfl ?_))
    by_cases y:((xs.getD p eO).c)=((xs.getD k eO).c)
    ·refine Ga rfl (.dec (.move rfl) (dT y)) (Gn 2 rfl (jN rfl (.fV p underlying22 iI rfl rfl (hV.isSome eQ (by omega)) rfl (by omega)) (jN rfl (.gH iX (hV.isSome eQ (by omega)) rfl) (pz rfl (.ik (j:=p) (o:=0) (v:= .int .i64 ((xs.getD p eO).f)) gM rfl (hV.le b) eQ (gD xs eO (by omega)) rfl) (Gn 2 rfl ?_)))))
     refine jN rfl (.fV k underlying22 iI rfl rfl (hV.isSome eQ (by omega)) rfl (by omega)) (jN rfl (.gH jK (hV.isSome eQ (by omega)) rfl) (pz rfl (.ik (j:=k) (o:=1) (v:= .int .i64 ((xs.getD k eO).t)) gM rfl (hV.le b) eQ (gD xs eO (by omega)) rfl) (Gn 1 rfl ?_)))
     by_cases I:((xs.getD p eO).f)≠((xs.getD k eO).t)
     ·refine jN rfl (.dec (.move rfl) (dT I)) (Gn 11 rfl (jN rfl (.mM rfl rfl rfl) (Gn 12 rfl (jN rfl (.mM rfl rfl rfl) (Gn 1 rfl (G.nil (E.eY (WC.gL rfl (Sr (Wn 1 rfl (Nx (Rt (E.gT (E.eX (E.eX (E.gT (E.gT (E.eX (E.eX (E.gT (E.eX ?_)))))))))))))))))))))
      refine E.fu rfl rfl ?_
      exact⟨rB (rM (k:=k) (by omega) (by first|exact .inl (Bool.eq_false_iff.2 (by assumption))|exact .inr (.inl ⟨by omega,by assumption⟩)|exact .inr (.inr ⟨p,by omega,fun h=>by have:=h (by assumption);omega⟩))).symm,b⟩
     refine jN rfl (.dec (.move rfl) (dF I)) (Gn 2 rfl (jN rfl (.fV p underlying22 iI rfl rfl (hV.isSome eQ (by omega)) rfl (by omega)) (jN rfl (.gH jK (hV.isSome eQ (by omega)) rfl) (pz rfl (.ik (j:=p) (o:=1) (v:= .int .i64 ((xs.getD p eO).t)) gM rfl (hV.le b) eQ (gD xs eO (by omega)) rfl) (Gn 2 rfl ?_)))))
     refine jN rfl (.fV k underlying22 iI rfl rfl (hV.isSome eQ (by omega)) rfl (by omega)) (jN rfl (.gH iX (hV.isSome eQ (by omega)) rfl) (pz rfl (.ik (j:=k) (o:=0) (v:= .int .i64 ((xs.getD k eO).f)) gM rfl (hV.le b) eQ (gD xs eO (by omega)) rfl) (Gn 1 rfl (jN rfl (.mO rfl rfl rfl) ?_))))
     by_cases J:((xs.getD p eO).t)≠((xs.getD k eO).f)
     ·refine jN rfl (.dec (.move rfl) (dT J)) (Gn 11 rfl (jN rfl (.mM rfl rfl rfl) (Gn 1 rfl (G.nil (E.eY (WC.gL rfl (Sr (Wn 1 rfl (Nx (Rt (E.gT (E.eX (E.eX (E.gT (E.gT (E.eX (E.eX (E.gT (E.eX (E.fu rfl rfl ?_))))))))))))))))))))
      exact⟨rB (rM (k:=k) (by omega) (by first|exact .inl (Bool.eq_false_iff.2 (by assumption))|exact .inr (.inl ⟨by omega,by assumption⟩)|exact .inr (.inr ⟨p,by omega,fun h=>by have:=h (by assumption);omega⟩))).symm,b⟩
     refine jN rfl (.dec (.move rfl) (dF J)) (Gn 2 rfl (jN rfl (.fV p underlying22 iI rfl rfl (hV.isSome eQ (by omega)) rfl (by omega)) (jN rfl (.gH iF (hV.isSome eQ (by omega)) rfl) (pz rfl (.ik (j:=p) (o:=3) (v:= .int .i64 ((xs.getD p eO).r)) gM rfl (hV.le b) eQ (gD xs eO (by omega)) rfl) (Gn 2 rfl ?_)))))
     refine jN rfl (.fV k underlying22 iI rfl rfl (hV.isSome eQ (by omega)) rfl (by omega)) (jN rfl (.gH iF (hV.isSome eQ (by omega)) rfl) (pz rfl (.ik (j:=k) (o:=3) (v:= .int .i64 ((xs.getD k eO).r)) gM rfl (hV.le b) eQ (gD xs eO (by omega)) rfl) (Gn 1 rfl (jN rfl (.mO rfl rfl rfl) (Gn 1 rfl (G.nil (E.eY ?_)))))))
     by_cases K:((xs.getD p eO).r)≠((xs.getD k eO).r)
     ·refine Cy rfl (dT K) (Sr (Wn 1 rfl (Nx (Rt (E.gT (E.eX (E.eX (E.gT (E.gT (E.eX (E.eX (E.gT (E.eX (E.fu rfl rfl ?_))))))))))))))
      exact⟨rB (rM (k:=k) (by omega) (by first|exact .inl (Bool.eq_false_iff.2 (by assumption))|exact .inr (.inl ⟨by omega,by assumption⟩)|exact .inr (.inr ⟨p,by omega,fun h=>by have:=h (by assumption);omega⟩))).symm,b⟩
     refine Cn rfl (dF K) (WC.skip (E.gI (E.meet () (.of rfl) ?_)))
     exact⟨Or.inl ⟨y,I,J,K⟩,b,by have:=H.size;omega⟩
    refine Ga rfl (.dec (.move rfl) (dF y)) (Gn 12 rfl (G.fZ rfl rfl rfl rfl rfl rfl (G.fZ rfl rfl rfl rfl rfl rfl (G.fZ rfl rfl rfl rfl rfl rfl (G.fZ rfl rfl rfl rfl rfl rfl ?_)))))
    refine G.fZ rfl rfl rfl rfl rfl rfl (G.fZ rfl rfl rfl rfl rfl rfl (G.fZ rfl rfl rfl rfl rfl rfl (G.fZ rfl rfl rfl rfl rfl rfl (G.fZ rfl rfl rfl rfl rfl rfl (G.fZ rfl rfl rfl rfl rfl rfl ?_)))))
    refine G.fZ rfl rfl rfl rfl rfl rfl (Gn 2 rfl (G.fZ rfl rfl rfl rfl rfl rfl (G.fZ rfl rfl rfl rfl rfl rfl (G.fZ rfl rfl rfl rfl rfl rfl (G.fZ rfl rfl rfl rfl rfl rfl ?_)))))
    refine G.fZ rfl rfl rfl rfl rfl rfl (G.fZ rfl rfl rfl rfl rfl rfl (G.fZ rfl rfl rfl rfl rfl rfl (G.fZ rfl rfl rfl rfl rfl rfl (G.fZ rfl rfl rfl rfl rfl rfl (G.fZ rfl rfl rfl rfl rfl rfl ?_)))))
    refine G.fZ rfl rfl rfl rfl rfl rfl (Gn 2 rfl (G.nil (E.eY (WC.iD rfl (WC.skip (E.gI (E.meet () (.of rfl) ?_)))))))
    exact⟨Or.inr y,b,by have:=H.size;omega⟩
   rintro _u F ⟨af,ab,ac⟩
   refine WC.region (Wn 1 rfl (Wa (.add rfl rfl (by omega)) rfl (Wn 1 rfl (W.nil (E.again (p+1) (.of rfl) ?_ ?_)))))
   ·exact⟨by omega,ZT.next (fun hc=>by first|(exfalso;exact absurd hc (by assumption))|omega),ab,by have:=T;have:=N;have:=R;have:=ac;omega⟩
   first|omega|(simp only[];omega)
  refine Cn rfl (dF U) (WC.exit (E.fC (E.fC (E.gW (E.gI (E.eY (WC.region (Wn 1 rfl (Wa (.add rfl rfl (by omega)) rfl (Wn 1 rfl (W.nil (E.again (k+1) (.of rfl) ?_ ?_))))))))))))
  ·exact⟨by omega,hri.next (by assumption) (fun h0=>by first|assumption|(exfalso;omega)|(rcases Z with h|h;exact h.2;exfalso;omega)) (by have V:=ZT;rw[show p=k by omega]at V;exact V),S,by have:=N;have:=T;have:=R;omega⟩
  first|omega|(simp only[];omega)
 refine Cn rfl (dF O) (WC.exit (E.fC (E.fC (E.gW (E.eY (Sr (Wn 1 rfl (Nx (Rt (E.fu rfl rfl ?_))))))))))
 have hke:k=xs.length:=(by omega)
 subst hke
 exact⟨rB hri.done.symm,L⟩
end Go.Proofs.YtkaedikifgpkeaaGreatDoor

namespace Go.tH
open Go.fO Go.oF Go.uI Go.Proofs.YtkaedikifgpkeaaGreatDoor
abbrev FB:=kY×Bool
def tJ (u:kY)(b:FB):Bool:= !b.2||decide (nT u b.1<0)
def GV (way:List fO.Edge):Int:=(way.getD (way.length-1) eO).t
def ES (m:MF)(a x:Int)(way:List fO.Edge)(b:FB):Prop:=(fM m way a x).2.2=0/\(fM m way a x).1.n≠0/\tJ (fo m a x way) b=true
instance (m : MF) (a x : Int) (way : List fO.Edge) (b : FB) : Decidable (ES m a x way b) := by unfold ES; infer_instance
def Jm (Q8:List fO.Edge->FB->FB)(way:List fO.Edge)(b:FB)(e:fO.Edge):FB:=if nH (way++[e])=true then Q8 (way++[e]) b else b
def jR (g:List fO.Edge)(m:MF)(to a x:Int):Nat->List fO.Edge->FB->FB
  |0,_,b=>b
  |k+1,way,b=>if GV way=to then(if ES m a x way b then(fo m a x way,true)else b)else g.foldl (Jm (jR g m to a x k) way) b
def Gh (Q8:List fO.Edge->FB->FB)(fr:Int)(b:FB)(e:fO.Edge):FB:=if e.f=fr then Q8 [e] b else b
def sK (g:List fO.Edge)(m:MF)(fr to a x:Int):FB:=g.foldl (Gh (jR g m to a x 8) fr) (j6,false)
variable {g:List fO.Edge}{m:MF}{fr to a x:Int}
def ZL (g:List fO.Edge)(m:MF)(fr to a x:Int)(b:FB):Prop:=b.2=false\/(b.2=true/\mU g m fr to a x b.1.way/\b.1=fo m a x b.1.way)
def Oo (b:FB)(c:kY):Prop:=b.2=true/\nT b.1 c<=0
theorem Oo.trans {b:FB}{c d:kY}(h:Oo b c)(k:nT c d<=0):Oo b d:=⟨h.1,TP.nT.trans _ _ _ h.2 k⟩
structure qP (g:List fO.Edge)(m:MF)(fr to a x:Int)(W:List fO.Edge->Prop)(b b':FB):Prop where
  good:ZL g m fr to a x b'
  up:b.2=true->Oo b' b.1
  all:∀w,mU g m fr to a x w->W w->Oo b' (fo m a x w)
theorem qP.same {W:List fO.Edge->Prop}{b:FB}(hb:ZL g m fr to a x b)(h:∀w,mU g m fr to a x w->W w->Oo b (fo m a x w)):qP g m fr to a x W b b:=⟨hb,fun h=>⟨h,Int.le_of_eq (TP.nT.refl b.1)⟩,h⟩
theorem qP.fold {α:Type}{f:FB->α->FB}{W:α->List fO.Edge->Prop}:∀(l:List α),(∀e∈l,∀b,ZL g m fr to a x b->qP g m fr to a x (W e) b (f b e))->∀b,ZL g m fr to a x b->qP g m fr to a x (fun w=>∃e∈l,W e w) b (l.foldl f b)
  |[],_,b,hb=>qP.same hb (fun w _ h=>by obtain⟨e,he,_⟩:=h;cases he)
  |e::l,h,b,hb=>by
    have h1:=h e (List.mem_cons_self ..) b hb
    have c:=qP.fold l (fun e' he'=>h e' (List.mem_cons_of_mem _ he')) (f b e) h1.good
    refine⟨c.good,fun hn=>?_,fun w hw hW=>?_⟩
    · have k1:=h1.up hn
      exact(c.up k1.1).trans k1.2
    · obtain⟨e',he',hw'⟩:=hW
      rcases List.mem_cons.1 he' with rfl|he'
      · have k1:=h1.all w hw hw'
        exact(c.up k1.1).trans k1.2
      · exact c.all w hw ⟨e',he',hw'⟩
theorem Jn (p q:List fO.Edge){i:Nat}(hi:i<p.length):(p++q).getD i eO=p.getD i eO:=by simp[List.getD,List.getElem?_append_left hi]
theorem Rs (p:List fO.Edge)(e:fO.Edge)(q:List fO.Edge):(p++e::q).take (p.length+1)=p++[e]:=by
  rw[List.take_append,List.take_of_length_le (by omega),show p.length+1-p.length=1 by omega]
  rfl
def Gone (g:List fO.Edge)(fr:Int)(way:List fO.Edge):Prop:=way≠[]/\(∀e∈way,e∈g)/\(way.getD 0 eO).f=fr
theorem C9:∀(k:Nat) (way:List fO.Edge) (b:FB),way.length+k=9->1<=k->Gone g fr way->ZL g m fr to a x b->qP g m fr to a x (fun w=>∃p,w=way++p) b (jR g m to a x k way b)
  |0,_,_,_,h,_,_=>absurd h (by decide)
  |k+1,way,b,hk,_,hA,hb=>by
    have hl0:=List.length_pos_iff.2 hA.1
    unfold jR
    split
    · rename_i hto
      have only:∀w,mU g m fr to a x w->(∃p,w=way++p)->w=way:=by
        rintro w hw ⟨p,rfl⟩
        cases p with
        |nil=>exact List.append_nil _
        |cons e p=>
          exfalso
          have c:=(wR hw.way (j:=way.length-1) (i:=(way++e::p).length-1) (by simp only[List.length_append,List.length_cons];omega) (by simp)).2.1
          rw[Jn _ _ (by omega),hw.VR]at c
          exact c hto
      split
      · rename_i ht
        have hcd:mU g m fr to a x way:=⟨hA.1,hA.2.1,hA.2.2,hto,ht.1,ht.2.1⟩
        refine⟨.inr ⟨rfl,hcd,rfl⟩,fun hn=>⟨rfl,?_⟩,fun w hw hW=>?_⟩
        · have:=ht.2.2
          simp only[tJ,hn,Bool.not_true,Bool.false_or,decide_eq_true_eq]at this
          exact Int.le_of_lt this
        · rw[only w hw hW]
          exact⟨rfl,Int.le_of_eq (TP.nT.refl _)⟩
      · rename_i ht
        refine qP.same hb fun w hw hW=>?_
        have e:=only w hw hW
        subst e
        have c:¬tJ (fo m a x w) b=true:=fun h=>ht ⟨hw.ok,hw.pos,h⟩
        simp only[tJ,Bool.or_eq_true,Bool.not_eq_true',decide_eq_true_eq,not_or,Bool.not_eq_false]at c
        have l:=TP.nT.vG (fo m a x w) b.1
        exact⟨c.1,by omega⟩
    · rename_i hto
      have uu:=qP.fold (g:=g) (m:=m) (fr:=fr) (to:=to) (a:=a) (x:=x) (f:=Jm (jR g m to a x k) way) (W:=fun e w=>nH (way++[e])=true/\∃p,w=(way++[e])++p) g (fun e he b' hb'=>by
        unfold Jm
        split
        · rename_i hwy
          have hl:=kZ hwy
          rw[List.length_append,List.length_singleton]at hl
          have hr:=C9 k (way++[e]) b' (by rw[List.length_append,List.length_singleton];omega) (by omega) ⟨by simp,fun y hy=>by
            rcases List.mem_append.1 hy with hy|hy
            · exact hA.2.1 y hy
            · rw[List.mem_singleton.1 hy];exact he,by rw[Jn _ _ hl0];exact hA.2.2⟩ hb'
          exact⟨hr.good,hr.up,fun w hw hW=>hr.all w hw hW.2⟩
        · rename_i hwy
          exact qP.same hb' fun w _ hW=>absurd hW.1 hwy) b hb
      refine⟨uu.good,uu.up,fun w hw hW=>?_⟩
      obtain⟨p,rfl⟩:=hW
      cases p with
      |nil=>rw[List.append_nil]at hw;exact absurd hw.VR hto
      |cons e p=>
        have d:=O4 hw.way (k:=way.length) (by simp)
        rw[Rs]at d
        exact uu.all _ hw ⟨e,hw.sub e (by simp),d,p,by simp⟩
theorem Jo:qP g m fr to a x (fun _=>True) (j6,false) (sK g m fr to a x):=by
  have uu:=qP.fold (g:=g) (m:=m) (fr:=fr) (to:=to) (a:=a) (x:=x) (f:=Gh (jR g m to a x 8) fr) (W:=fun e w=>e.f=fr/\∃p,w=[e]++p) g (fun e he b' hb'=>by
    unfold Gh
    split
    · rename_i hf
      have hr:=C9 (m:=m) (to:=to) (a:=a) (x:=x) 8 [e] b' rfl (by decide) ⟨by simp,fun y hy=>by rw[List.mem_singleton.1 hy];exact he,hf⟩ hb'
      exact⟨hr.good,hr.up,fun w hw hW=>hr.all w hw hW.2⟩
    · rename_i hf
      exact qP.same hb' fun w _ hW=>absurd hW.1 hf) (j6,false) (.inl rfl)
  refine⟨uu.good,uu.up,fun w hw _=>?_⟩
  obtain⟨e,p,rfl⟩:=List.exists_cons_of_ne_nil hw.ne
  exact uu.all _ hw ⟨e,hw.sub e (List.mem_cons_self ..),hw.fst,p,rfl⟩
theorem Jp (hm:ic m)(hb:mR g fr to a x=false):gz g m fr to a x=if(sK g m fr to a x).2=true then((sK g m fr to a x).1.way,(sK g m fr to a x).1.fQ,0)else([],⟨0,0⟩,19):=by
  have hs:=Jo (g:=g) (m:=m) (fr:=fr) (to:=to) (a:=a) (x:=x)
  split
  · rename_i b
    rcases hs.good with k|⟨_,k1,k2⟩
    · rw[k]at b;cases b
    · have c:(gz g m fr to a x).2.2=0:=Decidable.byContradiction fun hh=>(CL hm hb hh).2 _ k1
      obtain⟨_,d,h,i⟩:=ql hm c
      have f:=(hs.all _ d trivial).2
      rw[k2]at f
      have e:=Og (zm hb).1 d k1 (i _ k1) f
      refine Prod.ext e (Prod.ext ?_ c)
      show(gz g m fr to a x).2.1=(sK g m fr to a x).1.fQ
      rw[h,e,k2]
      rfl
  · rename_i b
    have hn:∀w,¬mU g m fr to a x w:=fun w hw=>b (hs.all w hw trivial).1
    exact(CL hm hb (fun c=>hn _ (ql hm c).2.1)).1
end Go.tH

namespace Go.Proofs.YtkaedikifgpkeaaGreatDoor
open Tryz
open Go Go.Sx Go.Num Go.fO Go.oF Go.uI Go.tH
set_option maxRecDepth 20000
theorem pI {u v:kY}:tJ u (v,true)=decide (0<kQ (fE u.fQ) (fE v.fQ)\/(kQ (fE u.fQ) (fE v.fQ)=0/\(u.sent<v.sent\/(u.sent=v.sent/\je u.way v.way<0)))):=by
  unfold tJ
  rw[Bool.not_true,Bool.false_or]
  apply decide_eq_decide.2
  unfold nT
  simp only[Ml]
  rw[EF]
  generalize kQ (fE u.fQ) (fE v.fQ)=p
  generalize je u.way v.way=r
  unfold kg
  repeat' split
  all_goals omega
theorem Jq {u v:List fO.Edge}{k:Nat}(h:je u v=je (u.drop k) (v.drop k))(h1:k<u.length)(h2:k<v.length):((u.getD k eO).c≠(v.getD k eO).c->(je u v<0↔(u.getD k eO).c<(v.getD k eO).c))/\((u.getD k eO).c=(v.getD k eO).c->je u v=je (u.drop (k+1)) (v.drop (k+1))):=by
  rw[h,Ct h1 h2]
  unfold kg
  constructor<;>intro hc
  · split<;>(try split)<;>(try split)<;>first|omega|(simp;omega)|(exfalso;simp at*;omega)
  · rw[if_neg (by rw[if_neg (by omega),if_neg (by omega)];simp)]
theorem Jr {u v:List fO.Edge}{k:Nat}(h:je u v=je (u.drop k) (v.drop k))(h1:k<=u.length)(h2:k<=v.length)(h3:¬(k<u.length/\k<v.length)):je u v<0↔u.length<v.length:=by
  rcases Nat.lt_or_ge k u.length with q|q
  · rw[h,Cu q (by omega)];omega
  · rcases Nat.lt_or_ge k v.length with b|b
    · rw[h,zi q b];omega
    · rw[h,Cv q b];omega
theorem KO {base gp:Nat}{F:Nat->Prop}{s:MF×Nat}(a x:Int){A:Option Addr}{n c:Nat}{xs:List fO.Edge}(w:World)(hP:ib w base gp F s)(hV:Vec w fD 9 A n xs)(hn:n<=1000000)(hN:s.2<=100000):Calls prog 145 #[.pointer (some ⟨gp,0,none⟩),.slice A n c,.int .i64 a,.int .i64 (x)] w fun r w'=>∃A1 c1 A2 c2,r= .returned (.tuple #[.agg #[.slice A1 (eP (fM s.1 xs a x).1.n).length c1,.slice A2 (eP (fM s.1 xs a x).1.d).length c2],.int .i64 (fM s.1 xs a x).2.1,.int .i64 (fM s.1 xs a x).2.2])/\eU w' w.heap.size 143 dv 1 A1 (eP (fM s.1 xs a x).1.n).length c1 (eP (fM s.1 xs a x).1.n)/\eU w' w.heap.size 143 dv 1 A2 (eP (fM s.1 xs a x).1.d).length c2 (eP (fM s.1 xs a x).1.d)/\Le w w':=by
 have hl:=hV.1
 have hgm:=hP.good
 refine enter func145 rfl rfl ?_
 have L0:=Le.refl w
 refine Sr (W.ef rfl rfl rfl (Ef.fI z37 fun Q R az (y:fA R Q 37 #[.slice none 0 0,.slice none 0 0]) S=>?_))
 have L1:=L0.trans S
 refine Wn 2 rfl (Nx (Sr (Wn 3 rfl (W.cl Yt rfl rfl (IK a x R (hV.le L1) (by omega)) ?_))))
 rintro _ D ⟨ad,ae,bP,bQ,rfl,K,bR,h⟩
 have L2:=L1.trans h
 refine Wn 7 rfl (Nx (Sq (Sr (Wn 2 rfl (Nx ?_)))))
 by_cases c0:((fq xs a x).2.2)≠0
 ·refine Cy rfl (dT c0) (Sr (Wa (.gF [.slice none 0 0,.slice none 0 0] jY z37 rfl rfl) rfl (Wn 1 rfl (W.sA gV rfl rfl (y.le h) ?_))))
  intro bt af bu
  have af:fA bt Q 37 #[.slice none 0 0,.slice none 0 0]:=af
  have L4:=L2.tb bu L0 az
  refine Wn 2 rfl (Nx (Rt (E.eX (E.gU rfl (iB rfl af gQ (by rfl)) rfl rfl ?_))))
  have hod:fM s.1 xs a x=(⟨0,0⟩,0,(fq xs a x).2.2):=if_neg (by assumption)
  rw[hod]
  exact⟨none,0,none,0,by simp only[eT];rfl,by simp only[eT];exact eU.nil _ _ _ _ _ _,by simp only[eT];exact eU.nil _ _ _ _ _ _,L4⟩
 refine Cn rfl (dF c0) ?_
 have hcl:=rU (Decidable.not_not.1 (by assumption):(fq xs a x).2.2=0)
 have hwl:=kZ (l7 (Decidable.not_not.1 (by assumption):(fq xs a x).2.2=0)).1
 refine Sn (Sr (W.cl Tv rfl rfl (AX 1 1 D (by omega) (by omega) (by omega)) ?_))
 rintro _ bS ⟨ah,ai,aj,ak,rfl,aA,aB,e⟩
 have L5:=L2.trans e
 refine Wn 1 rfl (Wa (.extract (v:= .agg #[.slice ah ((eP ((gY 1 1).n)).length) ai,.slice aj ((eP ((gY 1 1).d)).length) ak]) rfl rfl) rfl (Wn 1 rfl (W.ef rfl rfl rfl (Ef.fI z37 fun H bv L (bw:fA bv H 37 #[.slice none 0 0,.slice none 0 0]) z=>(W.sA gV rfl rfl bw ?_)))))
 intro aC al C
 have al:fA aC H 37 #[.slice ah ((eP ((gY 1 1).n)).length) ai,.slice aj ((eP ((gY 1 1).d)).length) ak]:=al
 refine Wn 1 rfl (Nx (Sq (Sr (Wn 1 rfl (Nx (WC.block ?_))))))
 have bx:=((hP.le (S.trans (h.trans (e.trans z)))).ch C (fun q hqq hF=>by cases hqq;have:=hP.lt hF;have:=S.size;have:=h.size;have:=e.size;have:=L;omega))
 refine WC.loop (ι:=Nat×(Option Addr)×Nat×(Option Addr)×Nat) (fun⟨k,Ax,cx,Ay,cy⟩=>[(0,.pointer (some ⟨gp,0,none⟩)),(1,.slice A n c),(8,.pointer (some ⟨Q,0,none⟩)),(11,.slice ad ((fq xs a x).1.length) ae),(14,.pointer (some ⟨H,0,none⟩)),(16,.int .i64 ((k:Nat):Int))]) (fun⟨k,Ax,cx,Ay,cy⟩ j=>(k<=n)/\Le w j/\aC.heap.size<=j.heap.size/\ib j base gp F s/\fA j Q 37 #[.slice none 0 0,.slice none 0 0]/\eU j R.heap.size 3 iv 1 ad ((fq xs a x).1.length) ae ((fq xs a x).1)/\fA j H 37 #[.slice Ax ((eP (ji s.1 xs (fq xs a x).1 k).n).length) cx,.slice Ay ((eP (ji s.1 xs (fq xs a x).1 k).d).length) cy]/\eU j D.heap.size 143 dv 1 Ax ((eP (ji s.1 xs (fq xs a x).1 k).n).length) cx (eP (ji s.1 xs (fq xs a x).1 k).n)/\eU j D.heap.size 143 dv 1 Ay ((eP (ji s.1 xs (fq xs a x).1 k).d).length) cy (eP (ji s.1 xs (fq xs a x).1 k).d)) (fun⟨k,Ax,cx,Ay,cy⟩=>n-k) (0,ah,ai,aj,ak) ?_ ?_ ?_
 ·exact .of rfl
 ·exact⟨Nat.zero_le _,((L5.trans z).tb C L5 L),Nat.le_refl _,bx,((y.le (h.trans (e.trans z))).cn C (by have:=y.lt;have:=h.size;have:=e.size;omega)),((K.le (e.trans z)).cb C (K.rn (by have:=e.size;omega))),al,((aA.le z).cb C (aA.rn (by omega))),((aB.le z).cb C (aB.rn (by omega)))⟩
 rintro⟨k,Ax,cx,Ay,cy⟩ j ⟨hk,aE,aF,am,T,aG,U,V,X⟩
 have bT:R.heap.size<=j.heap.size:=by have:=h.size;have:=e.size;have:=z.size;have:=C.size;omega
 have bU:D.heap.size<=j.heap.size:=by have:=e.size;have:=z.size;have:=C.size;omega
 have bV:D.heap.size<=j.heap.size:=by have:=e.size;have:=z.size;have:=C.size;omega
 have hal:=xN hgm xs (fq xs a x).1 k
 have hol:=yJ hgm (xs.getD k eO) ((fq xs a x).1.getD k 0)
 refine Sq (Sr (Wn 2 rfl (Wr (.len underlying22 rfl) rfl (Wn 1 rfl (Nx ?_)))))
 by_cases c1:((k:Nat):Int)<((n:Nat):Int)
 ·refine Cy rfl (dT c1) (Sn (Sq (WC.block (Sq (WC.Pw (fun o=>(app o [0,1,2,3,4,5,6,7,8] (.br (app o [9,10,11,12,13,14,15] .nil) (app o [13,9,10,11,12,14,15] .nil)))) mixed (by kernel_rfl) fun w8 b=>?_)))))
  have aa:=aE.trans b
  refine GT.app (Gn 3 rfl (Ga rfl (.fV k underlying22 iI rfl rfl (hV.isSome eQ (by omega)) rfl (by omega)) (Gd rfl (.j5 iJ rfl (hV.le aa) eQ (gD xs eO (by omega))) (Gn 2 rfl (Ga rfl (.fV k underlying47 kR rfl rfl (K.vec.isSome fT (by omega)) rfl (by omega)) ?_)))))
  have Y:=(aG.le b)
  refine Gd rfl (.jB (v:= .int .i64 (((fq xs a x).1).getD k 0)) gM rfl Y.vec fT (gD ((fq xs a x).1) 0 (by first|omega|(simp only[List.length_cons,List.length_nil];omega))) rfl) ?_
  refine G.nil (GT.br ?_ ?_)
  ·refine GT.last ?_
   have an:=(am.le b)
   refine G.ef rfl rfl rfl rfl rfl (Ef.call VF rfl rfl (Jk (xs.getD k eO) (((fq xs a x).1).getD k 0) w8 an (by omega)) ?_)
   rintro _ bW ⟨aH,aI,aJ,aK,rfl,aL,aM,f⟩
   refine⟨_,rfl,?_⟩
   refine⟨fun _=>f,?_⟩
   have aO:=aa.trans f
   refine Gn 1 rfl (Ga rfl (.extract (v:= .agg #[.slice aH ((eP ((gN s.1 (xs.getD k eO) (((fq xs a x).1).getD k 0)).n)).length) aI,.slice aJ ((eP ((gN s.1 (xs.getD k eO) (((fq xs a x).1).getD k 0)).d)).length) aK]) rfl rfl) (Gn 1 rfl (G.ef rfl rfl rfl rfl rfl (Ef.fI z37 fun aP bz aQ (bA:fA bz aP 37 #[.slice none 0 0,.slice none 0 0]) i=>⟨fun _=>i,?_⟩))))
   refine G.iO rfl rfl rfl rfl (Ef.storeAll gV (by rfl) rfl rfl bA (by rfl) (by simp[Value.oneCell']) ?_)
   intro aR ao l
   refine noT (by kernel_rfl) ?_
   have ao:fA aR aP 37 #[.slice aH ((eP ((gN s.1 (xs.getD k eO) (((fq xs a x).1).getD k 0)).n)).length) aI,.slice aJ ((eP ((gN s.1 (xs.getD k eO) (((fq xs a x).1).getD k 0)).d)).length) aK]:=ao
   refine Gn 1 rfl (G.nil (E.eY (WC.region ?_)))
   have ab:=((U.le (b.trans (f.trans i))).cn l (by have:=U.lt;have:=b.size;have:=f.size;omega))
   refine Wr (.fB gQ (by rfl) rfl ab) rfl ?_
   refine Wr (.fB gQ (by rfl) rfl ao) rfl ?_
   have aS:=((V.le (b.trans (f.trans i))).cb l (V.rn (by have:=b.size;have:=f.size;omega)))
   have aT:=((X.le (b.trans (f.trans i))).cb l (X.rn (by have:=b.size;have:=f.size;omega)))
   have aU:=((aL.le i).cb l (aL.rn (by omega)))
   have aV:=((aM.le i).cb l (aM.rn (by omega)))
   refine W.cl WA rfl rfl (CW aR aS.vec aT.vec (by omega) (by omega) aS.cap.1 aT.cap.1 aU.vec aV.vec (by omega) (by omega) aU.cap.1 aV.cap.1) ?_
   rintro _ bX ⟨aW,aX,aY,aZ,rfl,a0,a1,N⟩
   refine W.sA gV rfl rfl (ab.le N) ?_
   intro bB ap I
   have ap:fA bB H 37 #[.slice aW ((eP ((jW (fE (⟨((ji s.1 xs (fq xs a x).1 k).n),((ji s.1 xs (fq xs a x).1 k).d)⟩:Fr)) (fE (⟨((gN s.1 (xs.getD k eO) (((fq xs a x).1).getD k 0)).n),((gN s.1 (xs.getD k eO) (((fq xs a x).1).getD k 0)).d)⟩:Fr))).n)).length) aX,.slice aY ((eP ((jW (fE (⟨((ji s.1 xs (fq xs a x).1 k).n),((ji s.1 xs (fq xs a x).1 k).d)⟩:Fr)) (fE (⟨((gN s.1 (xs.getD k eO) (((fq xs a x).1).getD k 0)).n),((gN s.1 (xs.getD k eO) (((fq xs a x).1).getD k 0)).d)⟩:Fr))).d)).length) aZ]:=ap
   refine W.nil (E.gI (E.eY (WC.region (Wn 1 rfl (Wa (.add rfl rfl (by omega)) rfl (Wn 1 rfl (W.nil ?_)))))))
   have bC:=((((an.le (f.trans i)).ch l (fun q hqq hF=>by cases hqq;have:=an.lt hF;have:=f.size;have:=aQ;omega)).le N).ch I (fun q hqq hF=>by cases hqq;have:=hP.lt hF;have:=S.size;have:=h.size;have:=e.size;have:=L;omega))
   have bD:=((((T.le (b.trans (f.trans i))).cn l (by have:=T.lt;have:=b.size;have:=f.size;omega)).le N).cn I (by have:=y.lt;have:=h.size;have:=e.size;omega))
   have bE:=((((Y.le (f.trans i)).cb l (Y.rn (by have:=f.size;omega))).le N).cb I (K.rn (by have:=e.size;omega)))
   have bF:=(a0.cb I (a0.rl (by have:=ab.lt;omega)))
   have bG:=(a1.cb I (a1.rl (by have:=ab.lt;omega)))
   refine E.again (k+1,aW,aX,aY,aZ) (.of rfl) ?_ ?_
   ·exact⟨by omega,((((aO.trans i).tb l aO aQ).trans N).tb I L5 L),by have:=aF;have:=b.size;have:=f.size;have:=i.size;have:=l.size;have:=N.size;have:=I.size;omega,bC,bD,bE,ap,(bF.mono (by have:=b.size;have:=f.size;have:=i.size;have:=l.size;omega)),(bG.mono (by have:=b.size;have:=f.size;have:=i.size;have:=l.size;omega))⟩
   first|omega|(simp only[];omega)
  refine GT.last (G.ef rfl rfl rfl rfl rfl (Ef.fI z37 fun a2 a3 a4 (aq:fA a3 a2 37 #[.slice none 0 0,.slice none 0 0]) u=>⟨fun _=>u,?_⟩))
  have a5:=(am.le (b.trans u))
  refine G.ef rfl rfl rfl rfl rfl (Ef.call VF rfl rfl (Jk (xs.getD k eO) (((fq xs a x).1).getD k 0) a3 a5 (by omega)) ?_)
  rintro _ bY ⟨a6,a7,a8,a9,rfl,ba,bb,m⟩
  refine⟨_,rfl,?_⟩
  refine⟨fun _=>m,?_⟩
  refine Gn 1 rfl (Ga rfl (.extract (v:= .agg #[.slice a6 ((eP ((gN s.1 (xs.getD k eO) (((fq xs a x).1).getD k 0)).n)).length) a7,.slice a8 ((eP ((gN s.1 (xs.getD k eO) (((fq xs a x).1).getD k 0)).d)).length) a9]) rfl rfl) (Gn 1 rfl (G.iO rfl rfl rfl rfl (Ef.storeAll gV (by rfl) rfl rfl (aq.le m) (by rfl) (by simp[Value.oneCell']) ?_))))
  intro bc ar t
  refine noT (by kernel_rfl) ?_
  have ar:fA bc a2 37 #[.slice a6 ((eP ((gN s.1 (xs.getD k eO) (((fq xs a x).1).getD k 0)).n)).length) a7,.slice a8 ((eP ((gN s.1 (xs.getD k eO) (((fq xs a x).1).getD k 0)).d)).length) a9]:=ar
  refine Gn 1 rfl (G.nil (E.eY (WC.region ?_)))
  have ac:=((U.le (b.trans (u.trans m))).cn t (by have:=U.lt;have:=b.size;omega))
  refine Wr (.fB gQ (by rfl) rfl ac) rfl ?_
  refine Wr (.fB gQ (by rfl) rfl ar) rfl ?_
  have bd:=((V.le (b.trans (u.trans m))).cb t (V.rn (by have:=b.size;omega)))
  have be:=((X.le (b.trans (u.trans m))).cb t (X.rn (by have:=b.size;omega)))
  have bf:=(ba.cb t (ba.rl (by have:=aq.lt;omega)))
  have bg:=(bb.cb t (bb.rl (by have:=aq.lt;omega)))
  refine W.cl WA rfl rfl (CW bc bd.vec be.vec (by omega) (by omega) bd.cap.1 be.cap.1 bf.vec bg.vec (by omega) (by omega) bf.cap.1 bg.cap.1) ?_
  rintro _ bZ ⟨bh,bi,bj,bk,rfl,bl,bm,O⟩
  refine W.sA gV rfl rfl (ac.le O) ?_
  intro bH au J
  have au:fA bH H 37 #[.slice bh ((eP ((jW (fE (⟨((ji s.1 xs (fq xs a x).1 k).n),((ji s.1 xs (fq xs a x).1 k).d)⟩:Fr)) (fE (⟨((gN s.1 (xs.getD k eO) (((fq xs a x).1).getD k 0)).n),((gN s.1 (xs.getD k eO) (((fq xs a x).1).getD k 0)).d)⟩:Fr))).n)).length) bi,.slice bj ((eP ((jW (fE (⟨((ji s.1 xs (fq xs a x).1 k).n),((ji s.1 xs (fq xs a x).1 k).d)⟩:Fr)) (fE (⟨((gN s.1 (xs.getD k eO) (((fq xs a x).1).getD k 0)).n),((gN s.1 (xs.getD k eO) (((fq xs a x).1).getD k 0)).d)⟩:Fr))).d)).length) bk]:=au
  refine W.nil (E.gI (E.eY (WC.region (Wn 1 rfl (Wa (.add rfl rfl (by omega)) rfl (Wn 1 rfl (W.nil ?_)))))))
  have bI:=((((a5.le m).ch t (fun q hqq hF=>by cases hqq;have:=am.lt hF;have:=b.size;have:=a4;omega)).le O).ch J (fun q hqq hF=>by cases hqq;have:=hP.lt hF;have:=S.size;have:=h.size;have:=e.size;have:=L;omega))
  have bJ:=((((T.le (b.trans (u.trans m))).cn t (by have:=T.lt;have:=b.size;omega)).le O).cn J (by have:=y.lt;have:=h.size;have:=e.size;omega))
  have bK:=((((Y.le (u.trans m)).cb t (Y.rn (by omega))).le O).cb J (K.rn (by have:=e.size;omega)))
  have bL:=(bl.cb J (bl.rl (by have:=ac.lt;omega)))
  have bM:=(bm.cb J (bm.rl (by have:=ac.lt;omega)))
  refine E.again (k+1,bh,bi,bj,bk) (.of rfl) ?_ ?_
  ·exact⟨by omega,(((((aa.trans u).trans m).tb t aa a4).trans O).tb J L5 L),by have:=aF;have:=b.size;have:=u.size;have:=m.size;have:=t.size;have:=O.size;have:=J.size;omega,bI,bJ,bK,au,(bL.mono (by have:=b.size;have:=u.size;have:=m.size;have:=t.size;omega)),(bM.mono (by have:=b.size;have:=u.size;have:=m.size;have:=t.size;omega))⟩
  first|omega|(simp only[];omega)
 refine Cn rfl (dF c1) (WC.exit (E.fC (E.fC (E.gW (E.eY (Sq (WC.PD (fun bN w'=>Le w w'/\fA w' H 37 #[.slice Ax ((eP (ji s.1 xs (fq xs a x).1 k).n).length) cx,.slice Ay ((eP (ji s.1 xs (fq xs a x).1 k).d).length) cy]/\eU w' D.heap.size 143 dv 1 Ax ((eP (ji s.1 xs (fq xs a x).1 k).n).length) cx (eP (ji s.1 xs (fq xs a x).1 k).n)/\eU w' D.heap.size 143 dv 1 Ay ((eP (ji s.1 xs (fq xs a x).1 k).d).length) cy (eP (ji s.1 xs (fq xs a x).1 k).d)/\eU w' R.heap.size 3 iv 1 ad ((fq xs a x).1.length) ae ((fq xs a x).1)) [0,1,2,3,4,5,6] mixed (by kernel_rfl) fun bN P=>?_)))))))
 have bn:=aE.trans P
 have bo:=(U.le P)
 have av:=(V.le P)
 have aw:=(X.le P)
 have ax:=(aG.le P)
 refine⟨⟨bn,bo,av,aw,ax⟩,?_⟩
 refine GS.rd rfl rfl (fun w' hs=> .fB gQ (by rfl) rfl hs.2.1) rfl rfl rfl ?_
 refine GS.any rfl rfl (.move rfl) rfl rfl rfl (GS.any rfl rfl (.fV 0 underlying47 kR rfl rfl (K.vec.isSome fT (by omega)) rfl (by omega)) rfl rfl rfl (GS.rd rfl rfl (fun w' hs=> .jB (v:= .int .i64 (((fq xs a x).1).getD 0 0)) gM rfl hs.2.2.2.2.vec fT (gD ((fq xs a x).1) 0 (by first|omega|(simp only[List.length_cons,List.length_nil];omega))) rfl) rfl rfl rfl ?_))
 refine GS.iO rfl rfl rfl rfl (Ef.storeAll gV (by rfl) rfl rfl (T.le P) (by rfl) (by simp[Value.oneCell']) ?_)
 intro bO ay Z
 have ay:fA bO Q 37 #[.slice Ax ((eP (ji s.1 xs (fq xs a x).1 k).n).length) cx,.slice Ay ((eP (ji s.1 xs (fq xs a x).1 k).d).length) cy]:=ay
 have bp:=bn.tb Z L0 az
 have bq:=(av.cb Z (av.rl (by have:=y.lt;have:=h.size;omega)))
 have bs:=(aw.cb Z (aw.rl (by have:=y.lt;have:=h.size;omega)))
 refine⟨⟨bp,(bo.cn Z (by have:=y.lt;have:=h.size;have:=e.size;omega)),bq,bs,(ax.cb Z (ax.rl (by have:=y.lt;omega)))⟩,?_⟩
 refine GS.any rfl rfl (.assign rfl) rfl rfl rfl (GS.any rfl rfl (.assign rfl) rfl rfl rfl (GS.nil (E.eY (Rt (E.gU rfl (iB rfl ay gQ (by rfl)) rfl rfl ?_)))))
 have hkn:k=n:=(by omega)
 subst hkn
 have hod:fM s.1 xs a x=(ji s.1 xs (fq xs a x).1 xs.length,(fq xs a x).1.getD 0 0,0):=if_pos (Decidable.not_not.1 (by assumption))
 rw[hod,hl]
 exact⟨_,_,_,_,rfl,(bq.mono L2.size),(bs.mono L2.size),bp⟩

theorem Gi {ML uk um:Option Addr}{Gc OI qz cn1 qA cd1 p1 q1:Nat}{Cw:List fO.Edge}{s1:Int}{z1:Bool}{MM uo uq:Option Addr}{Gz OJ qB cn2 qC cd2 p2 q2:Nat}{Cx:List fO.Edge}{s2:Int}{z2:Bool}(w:World)(hw1:Vec w fD 9 ML Gc Cw)(hn1:Vec w dv 1 uk qz (eP p1))(hd1:Vec w dv 1 um qA (eP q1))(bw1:Gc<=10000)(Xg:qz<=10000)(Xh:qA<=10000)(kn1:qz<=cn1)(kd1:qA<=cd1)(hw2:Vec w fD 9 MM Gz Cx)(hn2:Vec w dv 1 uo qB (eP p2))(hd2:Vec w dv 1 uq qC (eP q2))(bw2:Gz<=10000)(Xi:qB<=10000)(Xj:qC<=10000)(kn2:qB<=cn2)(kd2:qC<=cd2):Calls prog 146 #[.agg #[.slice ML Gc OI,.slice uk qz cn1,.slice um qA cd1,.int .i64 s1,.bool (z1)],.agg #[.slice MM Gz OJ,.slice uo qB cn2,.slice uq qC cd2,.int .i64 s2,.bool (z2)]] w fun r w'=>r= .returned (.bool (tJ (⟨Cw,⟨p1,q1⟩,s1⟩:kY) ((⟨Cx,⟨p2,q2⟩,s2⟩:kY),z2)))/\Le w w':=by
 have Z:=hw1.1;have aa:=hn1.1;have ab:=hd1.1
 have ac:=hw2.1;have ad:=hn2.1;have ae:=hd2.1
 refine enter func146 rfl rfl (Sr (W.ef rfl rfl rfl (Ef.iM rfl fun x T af (U:fA T x 138 #[.slice ML Gc OI,.slice uk qz cn1,.slice um qA cd1,.int .i64 s1,.bool (z1)]) V=>(W.ef rfl rfl rfl (Ef.iM rfl fun y K ah (m:fA K y 138 #[.slice MM Gz OJ,.slice uo qB cn2,.slice uq qC cd2,.int .i64 s2,.bool (z2)]) L=>?_)))))
 have e:=((Le.refl w).trans V).trans L
 refine Wn 1 rfl (Nx (Sq (Sr (Wa (.eZ Mh rfl) rfl (Wr (.fe (v:= .bool z2) ZU rfl m rfl) rfl (Wn 1 rfl (Nx ?_)))))))
 by_cases N:z2=true
 ·refine Cn rfl (congrArg not N) (Sn (Sr (Wa (.eZ FT rfl) rfl ?_)))
  have z:=(U.le L)
  refine Wr (.vO [.slice uk qz cn1,.slice um qA cd1] gQ rfl (by decide) rfl z rfl) rfl (Wa (.eZ FT rfl) rfl (Wr (.vO [.slice uo qB cn2,.slice uq qC cd2] gQ rfl (by decide) rfl m rfl) rfl (W.cl WE rfl rfl (CV K (hn1.le e) (hd1.le e) (by omega) (by omega) (by omega) (by omega) (hn2.le e) (hd2.le e) (by omega) (by omega) (by omega) (by omega)) ?_)))
  rintro _ X ⟨rfl,f⟩
  have d:=e.trans f
  refine Wn 1 rfl (Nx (Sq (Sr (Wn 2 rfl ?_))))
  by_cases O:(kQ (fE (⟨p1,q1⟩:Fr)) (fE (⟨p2,q2⟩:Fr)))≠0
  ·refine Dt O rfl rfl (Wn 6 rfl (Nx (WC.gL rfl (Sr (Wn 2 rfl ?_)))))
   by_cases h:0<(kQ (fE (⟨p1,q1⟩:Fr)) (fE (⟨p2,q2⟩:Fr)))
   ·refine Dt h rfl rfl (Wn 3 rfl (W.fZ rfl rfl rfl rfl rfl (W.fZ rfl rfl rfl rfl rfl (W.fZ rfl rfl rfl rfl rfl (W.fZ rfl rfl rfl rfl rfl (W.fZ rfl rfl rfl rfl rfl ?_))))))
    refine Wn 3 rfl (Nx (Rt (E.eX (E.fu rfl rfl ?_))))
    have b:z2=true:=by first|assumption|(cases z2<;>simp_all)
    subst b
    exact⟨rB ((Bool.eq_iff_iff.2 (by rw[pI];simp only[decide_eq_true_eq,Bool.false_eq_true,false_iff,true_iff];omega)):_=tJ (⟨Cw,⟨p1,q1⟩,s1⟩:kY) ((⟨Cx,⟨p2,q2⟩,s2⟩:kY),true)),d⟩
   refine Df h rfl rfl (Wn 2 rfl ?_)
   by_cases i:(kQ (fE (⟨p1,q1⟩:Fr)) (fE (⟨p2,q2⟩:Fr)))=0
   ·refine Wg (Any.rd (.dec (.move rfl) (dT i)) _) rfl (Wg (Any.rd (.eZ uP rfl) _) rfl (Wg (.fe (v:= .int .i64 s1) gM rfl (z.le f) rfl) rfl (Wg (Any.rd (.eZ uP rfl) _) rfl (Wg (.fe (v:= .int .i64 s2) gM rfl (m.le f) rfl) rfl (Wn 1 rfl ?_)))))
    refine Wg (Any.rd (.mM rfl rfl rfl) _) rfl (Wn 2 rfl (Nx (Rt (E.eX (E.fu rfl rfl ?_)))))
    have b:z2=true:=by first|assumption|(cases z2<;>simp_all)
    subst b
    exact⟨rB ((Bool.eq_iff_iff.2 (by rw[pI];simp only[decide_eq_true_eq,Bool.false_eq_true,false_iff,true_iff];omega)):_=tJ (⟨Cw,⟨p1,q1⟩,s1⟩:kY) ((⟨Cx,⟨p2,q2⟩,s2⟩:kY),true)),d⟩
   refine Wg (Any.rd (.dec (.move rfl) (dF i)) _) rfl (Wn 5 rfl (Wg (Any.rd (.mO rfl rfl rfl) _) rfl (Wn 2 rfl (Nx (Rt (E.eX (E.fu rfl rfl ?_)))))))
   have b:z2=true:=by first|assumption|(cases z2<;>simp_all)
   subst b
   exact⟨rB ((Bool.eq_iff_iff.2 (by rw[pI];simp only[decide_eq_true_eq,Bool.false_eq_true,false_iff,true_iff];omega)):_=tJ (⟨Cw,⟨p1,q1⟩,s1⟩:kY) ((⟨Cx,⟨p2,q2⟩,s2⟩:kY),true)),d⟩
  refine Df O rfl rfl (Wg (Any.rd (.eZ uP rfl) _) rfl ?_)
  have A:=(z.le f)
  refine Wg (.fe (v:= .int .i64 s1) gM rfl A rfl) rfl (Wg (Any.rd (.eZ uP rfl) _) rfl ?_)
  have C:=(m.le f)
  refine Wg (.fe (v:= .int .i64 s2) gM rfl C rfl) rfl (Wn 2 rfl (Nx ?_))
  by_cases P:s1≠s2
  ·refine Cy rfl (dT P) (Sr (Wn 2 rfl ?_))
   by_cases h:0<(kQ (fE (⟨p1,q1⟩:Fr)) (fE (⟨p2,q2⟩:Fr)))
   ·refine Dt h rfl rfl (Wn 3 rfl (W.fZ rfl rfl rfl rfl rfl (W.fZ rfl rfl rfl rfl rfl (W.fZ rfl rfl rfl rfl rfl (W.fZ rfl rfl rfl rfl rfl (W.fZ rfl rfl rfl rfl rfl ?_))))))
    refine Wn 3 rfl (Nx (Rt (E.eX (E.fu rfl rfl ?_))))
    have b:z2=true:=by first|assumption|(cases z2<;>simp_all)
    subst b
    exact⟨rB ((Bool.eq_iff_iff.2 (by rw[pI];simp only[decide_eq_true_eq,Bool.false_eq_true,false_iff,true_iff];omega)):_=tJ (⟨Cw,⟨p1,q1⟩,s1⟩:kY) ((⟨Cx,⟨p2,q2⟩,s2⟩:kY),true)),d⟩
   refine Df h rfl rfl (Wn 2 rfl ?_)
   by_cases i:(kQ (fE (⟨p1,q1⟩:Fr)) (fE (⟨p2,q2⟩:Fr)))=0
   ·refine Wg (Any.rd (.dec (.move rfl) (dT i)) _) rfl (Wg (Any.rd (.eZ uP rfl) _) rfl (Wg (.fe (v:= .int .i64 s1) gM rfl A rfl) rfl (Wg (Any.rd (.eZ uP rfl) _) rfl (Wg (.fe (v:= .int .i64 s2) gM rfl C rfl) rfl (Wn 1 rfl ?_)))))
    refine Wg (Any.rd (.mM rfl rfl rfl) _) rfl (Wn 2 rfl (Nx (Rt (E.eX (E.fu rfl rfl ?_)))))
    have b:z2=true:=by first|assumption|(cases z2<;>simp_all)
    subst b
    exact⟨rB ((Bool.eq_iff_iff.2 (by rw[pI];simp only[decide_eq_true_eq,Bool.false_eq_true,false_iff,true_iff];omega)):_=tJ (⟨Cw,⟨p1,q1⟩,s1⟩:kY) ((⟨Cx,⟨p2,q2⟩,s2⟩:kY),true)),d⟩
   refine Wg (Any.rd (.dec (.move rfl) (dF i)) _) rfl (Wn 5 rfl (Wg (Any.rd (.mO rfl rfl rfl) _) rfl (Wn 2 rfl (Nx (Rt (E.eX (E.fu rfl rfl ?_)))))))
   have b:z2=true:=by first|assumption|(cases z2<;>simp_all)
   subst b
   exact⟨rB ((Bool.eq_iff_iff.2 (by rw[pI];simp only[decide_eq_true_eq,Bool.false_eq_true,false_iff,true_iff];omega)):_=tJ (⟨Cw,⟨p1,q1⟩,s1⟩:kY) ((⟨Cx,⟨p2,q2⟩,s2⟩:kY),true)),d⟩
  refine Cn rfl (dF P) (Sn (Sq (Sr (Wn 1 rfl (Nx (WC.block (WC.loop (ι:=Nat) (fun k=>[(2,.pointer (some ⟨x,0,none⟩)),(3,.pointer (some ⟨y,0,none⟩)),(6,.int .i64 ((k:Nat):Int))]) (fun k l=>(k<=Gc/\k<=Gz)/\(je Cw Cx=je (Cw.drop k) (Cx.drop k))/\Le w l/\X.heap.size<=l.heap.size/\fA l x 138 #[.slice ML Gc OI,.slice uk qz cn1,.slice um qA cd1,.int .i64 s1,.bool (z1)]/\fA l y 138 #[.slice MM Gz OJ,.slice uo qB cn2,.slice uq qC cd2,.int .i64 s2,.bool (z2)]) (fun k=>Gc-k) 0 ?_ ?_ ?_)))))))
  ·exact .of rfl
  ·exact⟨⟨Nat.zero_le _,Nat.zero_le _⟩,rfl,d,Nat.le_refl _,A,C⟩
  rintro k l ⟨hk,Z5,D,Y,n,s⟩
  refine Sq (Sr (Wn 1 rfl (Wa (.eZ nQ rfl) rfl (Wr (.fe (v:= .slice ML Gc OI) ni rfl n rfl) rfl (Wr (.len underlying22 rfl) rfl (Wn 1 rfl ?_))))))
  by_cases Q:((k:Nat):Int)<((Gc:Nat):Int)
  ·refine Dt Q rfl rfl (Wn 1 rfl (Wg (Any.rd (.eZ nQ rfl) _) rfl (Wg (.fe (v:= .slice MM Gz OJ) ni rfl s rfl) rfl (Wg (.len underlying22 rfl) rfl (Wn 2 rfl (Nx ?_))))))
   by_cases R:((k:Nat):Int)<((Gz:Nat):Int)
   ·refine Cy rfl (dT R) (Sn (Sq (WC.block (Sq (WC.draw [0,1,2,3,4,5,6,7,8,9,10,11,12] mixed (by kernel_rfl) fun w9 t=>?_)))))
    have u:=D.trans t
    refine Ga rfl (.eZ nQ rfl) ?_
    have F:=(n.le t)
    refine Gd rfl (.fe (v:= .slice ML Gc OI) ni rfl F rfl) (Gn 1 rfl (Ga rfl (.fV k underlying22 iI rfl rfl (hw1.isSome eQ (by omega)) rfl (by omega)) (Ga rfl (.gH iY (hw1.isSome eQ (by omega)) rfl) (Gd rfl (.ik (j:=k) (o:=2) (v:= .int .i64 ((Cw.getD k eO).c)) gM rfl (hw1.le u) eQ (gD Cw eO (by omega)) rfl) (Ga rfl (.eZ nQ rfl) ?_)))))
    have H:=(s.le t)
    refine Gd rfl (.fe (v:= .slice MM Gz OJ) ni rfl H rfl) (Gn 1 rfl (Ga rfl (.fV k underlying22 iI rfl rfl (hw2.isSome eQ (by omega)) rfl (by omega)) (Ga rfl (.gH iY (hw2.isSome eQ (by omega)) rfl) (Gd rfl (.ik (j:=k) (o:=2) (v:= .int .i64 ((Cx.getD k eO).c)) gM rfl (hw2.le u) eQ (gD Cx eO (by omega)) rfl) (Gn 1 rfl (G.nil (E.eY ?_)))))))
    by_cases S:((Cw.getD k eO).c)≠((Cx.getD k eO).c)
    ·refine Cy rfl (dT S) (Sq (WC.draw [0,1,2,3,4,5,6,7,8,9,10,11,12,13] mixed (by kernel_rfl) fun ai I=>?_))
     have J:=u.trans I
     refine Ga rfl (.eZ nQ rfl) (Gd rfl (.fe (v:= .slice ML Gc OI) ni rfl (F.le I) rfl) (Gn 1 rfl (Ga rfl (.fV k underlying22 iI rfl rfl (hw1.isSome eQ (by omega)) rfl (by omega)) (Ga rfl (.gH iY (hw1.isSome eQ (by omega)) rfl) (Gd rfl (.ik (j:=k) (o:=2) (v:= .int .i64 ((Cw.getD k eO).c)) gM rfl (hw1.le J) eQ (gD Cw eO (by omega)) rfl) ?_)))))
     refine Ga rfl (.eZ nQ rfl) (Gd rfl (.fe (v:= .slice MM Gz OJ) ni rfl (H.le I) rfl) (Gn 1 rfl (Ga rfl (.fV k underlying22 iI rfl rfl (hw2.isSome eQ (by omega)) rfl (by omega)) (Ga rfl (.gH iY (hw2.isSome eQ (by omega)) rfl) (Gd rfl (.ik (j:=k) (o:=2) (v:= .int .i64 ((Cx.getD k eO).c)) gM rfl (hw2.le J) eQ (gD Cx eO (by omega)) rfl) ?_)))))
     refine Gn 2 rfl (G.nil (E.eY (Rt (E.gT (E.eX (E.eX (E.gT (E.eX (E.fu rfl rfl ?_)))))))))
     have b:z2=true:=by first|assumption|(cases z2<;>simp_all)
     subst b
     have hev:=(Jq Z5 (by omega) (by omega)).1 (by assumption)
     exact⟨rB ((Bool.eq_iff_iff.2 (by rw[pI];simp only[decide_eq_true_eq];omega)):_=tJ (⟨Cw,⟨p1,q1⟩,s1⟩:kY) ((⟨Cx,⟨p2,q2⟩,s2⟩:kY),true)),J⟩
    refine Cn rfl (dF S) (WC.skip (E.gI (E.eY (WC.region (Wn 1 rfl (Wa (.add rfl rfl (by omega)) rfl (Wn 1 rfl (W.nil (E.again (k+1) (.of rfl) ?_ ?_)))))))))
    ·exact⟨by omega,(Jq Z5 (by omega) (by omega)).2 (by omega),u,by have:=Y;have:=t.size;omega,F,H⟩
    first|omega|(simp only[];omega)
   refine Cn rfl (dF R) (WC.exit (E.fC (E.fC (E.gW (E.eY (Sr (Wa (.eZ nQ rfl) rfl (Wr (.fe (v:= .slice ML Gc OI) ni rfl n rfl) rfl (Wr (.len underlying22 rfl) rfl (Wa (.eZ nQ rfl) rfl ?_))))))))))
   refine Wr (.fe (v:= .slice MM Gz OJ) ni rfl s rfl) rfl (Wr (.len underlying22 rfl) rfl (Wn 2 rfl (Nx (Rt (E.fu rfl rfl ?_)))))
   have b:z2=true:=by first|assumption|(cases z2<;>simp_all)
   subst b
   have hev:=Jr Z5 (by omega) (by omega) (by omega)
   exact⟨rB ((Bool.eq_iff_iff.2 (by rw[pI];simp only[decide_eq_true_eq];omega)):_=tJ (⟨Cw,⟨p1,q1⟩,s1⟩:kY) ((⟨Cx,⟨p2,q2⟩,s2⟩:kY),true)),D⟩
  refine Df Q rfl rfl (Wn 6 rfl (Nx (WC.iD rfl (WC.exit (E.fC (E.fC (E.gW (E.eY (Sr (Wa (.eZ nQ rfl) rfl (Wr (.fe (v:= .slice ML Gc OI) ni rfl n rfl) rfl (Wr (.len underlying22 rfl) rfl (Wa (.eZ nQ rfl) rfl (Wr (.fe (v:= .slice MM Gz OJ) ni rfl s rfl) rfl ?_))))))))))))))
  refine Wr (.len underlying22 rfl) rfl (Wn 2 rfl (Nx (Rt (E.fu rfl rfl ?_))))
  have b:z2=true:=by first|assumption|(cases z2<;>simp_all)
  subst b
  have hev:=Jr Z5 (by omega) (by omega) (by omega)
  exact⟨rB ((Bool.eq_iff_iff.2 (by rw[pI];simp only[decide_eq_true_eq];omega)):_=tJ (⟨Cw,⟨p1,q1⟩,s1⟩:kY) ((⟨Cx,⟨p2,q2⟩,s2⟩:kY),true)),D⟩
 refine Cy rfl (congrArg not (Bool.eq_false_iff.2 N)) (Sr (Wn 1 rfl (Nx (Rt (E.eX (E.fu rfl rfl ?_))))))
 have b:z2=false:=by first|assumption|(cases z2<;>simp_all)
 subst b
 exact⟨rfl,e⟩
end Go.Proofs.YtkaedikifgpkeaaGreatDoor

namespace Go.Proofs.YtkaedikifgpkeaaGreatDoor
open Tryz
open Go Go.Sx Go.Num Go.fO Go.oF Go.uI
set_option maxRecDepth 20000
def o7 (e:fO.Edge):fO.Edge:=⟨e.t,e.f,e.c,e.r,⟨0,0,0,0,0⟩⟩
theorem Xm {m:MF}{e:fO.Edge}{a:Int}(h:jJ e a=true):qY m e a=nV (nV m ⟨e.f,e.c⟩ ⟨max 0 ((cnt (m (iC e)) e.r).lo-a),max ((cnt (m (iC e)) e.r).hi-a) (max 0 ((cnt (m (iC e)) e.r).lo-a)+1),e.r⟩) ⟨e.t,e.c⟩ ⟨min e.r ((cnt (m (nK e)) e.r).lo+a),min (e.r+1) ((cnt (m (nK e)) e.r).hi+a),e.r⟩:=by
  have b:qY m e a=nV (nV m (iC e) (zy e a (ofM m (iC e) e.r))) (nK e) (zA e a (ofM m (nK e) e.r)):=if_pos h
  rw[b]
  unfold zy zA ofM
  rw[Int.max_comm 0,Int.min_comm e.r,Int.min_comm (e.r+1)]
  rfl
theorem KP (e:fO.Edge)(w:World):Calls prog 94 #[.agg (fD e).toArray] w fun r w'=>r= .returned (.agg (fD (o7 e)).toArray)/\Le w w':=by
 refine enter func94 rfl rfl (Sr (W.ef rfl rfl rfl (Ef.iM rfl fun k l z (m:fA l k 66 (fD e).toArray) n=>?_)))
 have h:=(Le.refl w).trans n
 refine W.ef rfl rfl rfl (Ef.fI z66 fun i o s (u:fA o i 66 (fD eO).toArray) j=>(Nx (Sr (Wa (.eZ jK rfl) rfl ?_))))
 have b:=(m.le j)
 refine Wr (.fe (v:= .int .i64 e.t) gM rfl b rfl) rfl (Wa (.eZ iX rfl) rfl (Wr (.fe (v:= .int .i64 e.f) gM rfl b rfl) rfl (Wa (.eZ iY rfl) rfl (Wr (.fe (v:= .int .i64 e.c) gM rfl b rfl) rfl (Wa (.eZ iF rfl) rfl ?_)))))
 refine Wr (.fe (v:= .int .i64 e.r) gM rfl b rfl) rfl (Wa (.gF (fD (⟨e.t,e.f,e.c,e.r,Li⟩)) Zu z66 rfl rfl) rfl (W.iO rfl rfl (Ef.storeAll iI (by rfl) rfl rfl u (by simp only[List.size_toArray,eQ.len]) (eQ.one (⟨e.t,e.f,e.c,e.r,Li⟩)) ?_)))
 intro x d y
 have d:fA x i 66 (fD (⟨e.t,e.f,e.c,e.r,Li⟩)).toArray:=d
 refine Nx (Rt (E.fu rfl (iB rfl d iJ (by rfl)) ?_))
 exact⟨rfl,((h.trans j).tb y h s)⟩

theorem UD {base gp:Nat}{F:Nat->Prop}{s:MF×Nat}(e:fO.Edge)(a:Int)(w:World)(hP:ib w base gp F s)(hN:s.2<=99000):Calls prog 42 #[.pointer (some ⟨gp,0,none⟩),.agg (fD e).toArray,.int .i64 (a)] w fun r w'=>r= .returned (.tuple #[])/\∃F',ib w' base gp F' (qY s.1 e a,s.2+2)/\Cs w F F'/\jU w w' F:=by
 have hgm:=hP.good
 refine enter func42 rfl rfl (Sr (W.ef rfl rfl rfl (Ef.iM rfl fun A C S (D:fA C A 66 (fD e).toArray) m=>(Nx (Sq (Sr (Wr (.fB iJ (by rfl) rfl D) rfl ?_)))))))
 refine Wn 1 rfl (W.cl WN rfl rfl (wG e a C) ?_)
 rintro _ ae ⟨rfl,d⟩
 have H:=((jU.refl w F).le m).le d
 refine Wn 1 rfl (Nx ?_)
 by_cases I:(jJ e a)=true
 ·refine Cn rfl (congrArg not I) ?_
  have hsm:=l9 (by assumption:jJ e a=true)
  have hmz:=lv hsm.1
  have hrm:0<=e.r/\e.r<=1125899906842624:=by omega
  have hof:=oO hgm (iC e) (show 0<e.r by omega) (show e.r<=1125899906842624 by omega)
  have BA:j3 (cnt (s.1 (iC (o7 e))) (o7 e).r)/\(cnt (s.1 (iC (o7 e))) (o7 e).r).rm=e.r/\(cnt (s.1 (iC (o7 e))) (o7 e).r).lo<=e.r:=oO hgm (nK e) (show 0<e.r by omega) (show e.r<=1125899906842624 by omega)
  unfold j3 ofM at hof
  unfold j3 at BA
  have hbr:(o7 e).r=e.r:=rfl
  refine Sn (Sr (Wn 1 rfl ?_))
  have J:=(D.le d)
  refine Wr (.fB iJ (by rfl) rfl J) rfl ?_
  have f:=(hP.le (m.trans d))
  refine W.cl P6 rfl rfl (uA e f hrm (by omega)) ?_
  rintro _ T ⟨rfl,c⟩
  refine Wn 5 rfl (Nx (Sr (Wn 2 rfl (Wa (.sub rfl rfl (by omega)) rfl (Wr (.max2 rfl rfl) rfl (Wn 1 rfl (Nx (Sr ?_))))))))
  have n:=(J.le c)
  refine Wr (.fB iJ (by rfl) rfl n) rfl ?_
  refine W.cl abg rfl rfl (KP e T) ?_
  rintro _ af ⟨rfl,b⟩
  have K:=(H.le c).le b
  refine W.ef rfl rfl rfl (Ef.fI z66 fun o U t (V:fA U o 66 (fD eO).toArray) u=>?_)
  have X:=K.le u
  refine W.iO rfl rfl (Ef.storeAll iI (by rfl) rfl rfl V (by simp only[List.size_toArray,eQ.len]) (eQ.one (o7 e)) ?_)
  intro L j x
  have j:fA L o 66 (fD (o7 e)).toArray:=j
  have Y:jU w L F:=X.ch x (fun i hi hlt=>by cases hi;exact absurd hlt (by have:=K.size;have:=t;omega))
  refine Nx (Sr (Wn 1 rfl (Wr (.fB iJ (by rfl) rfl j) rfl ?_)))
  have N:=((f.le (c.trans (b.trans u))).ch x (fun q hqq hF=>by cases hqq;have:=f.lt hF;have:=c.size;have:=b.size;have:=t;omega))
  refine W.cl P6 rfl rfl (uA (o7 e) N hrm (by omega)) ?_
  rintro _ ah ⟨rfl,l⟩
  have y:=Y.le l
  refine Wn 5 rfl (Nx (Sr (Wn 1 rfl ?_)))
  have O:=(((n.le (b.trans u)).cn x (by have:=n.lt;have:=b.size;omega)).le l)
  refine Wr (.fB iJ (by rfl) rfl O) rfl ?_
  refine Wn 3 rfl (Wa (.sub rfl rfl (by omega)) rfl (Wn 1 rfl (Wa (.add rfl rfl (by omega)) rfl (Wr (.max2 rfl rfl) rfl (W.cl Tw rfl rfl (AY e (max 0 (((cnt (s.1 (iC e)) e.r).lo)-a)) (max (((cnt (s.1 (iC e)) e.r).hi)-a) ((max 0 (((cnt (s.1 (iC e)) e.r).lo)-a))+1)) (N.le l) (by unfold j3;simp only;omega) (by omega)) ?_)))))
  rintro _ ai ⟨rfl,aj,Z,P,z⟩
  have Q:=y.sub z (fun i hi hlt=>hi)
  have R:=O.iQ z (show¬F A from(fun hF=>by have:=hP.lt hF;have:=S;omega))
  refine Nx (WC.region (Wn 1 rfl (Wr (.fB iJ (by rfl) rfl ((j.le l).iQ z (show¬F o from(fun hF=>by have:=f.lt hF;have:=c.size;have:=b.size;have:=t;omega)))) rfl ?_)))
  refine Wa (.eZ iF rfl) rfl (Wr (.fe (v:= .int .i64 e.r) gM rfl R rfl) rfl (Wn 2 rfl (Wa (.add rfl rfl (by omega)) rfl (Wr (.min2 rfl rfl) rfl (Wa (.eZ iF rfl) rfl ?_)))))
  refine Wr (.fe (v:= .int .i64 e.r) gM rfl R rfl) rfl (Wa (.add rfl rfl (by omega)) rfl (Wn 2 rfl (Wa (.add rfl rfl (by omega)) rfl (Wr (.min2 rfl rfl) rfl (W.cl Tw rfl rfl (AY (o7 e) (min e.r (((cnt (s.1 (iC (o7 e))) (o7 e).r).lo)+a)) (min (e.r+1) (((cnt (s.1 (iC (o7 e))) (o7 e).r).hi)+a)) Z (by unfold j3;simp only;omega) (by omega)) ?_)))))
  rintro _ ak ⟨rfl,aa,ab,ac,ad⟩
  refine W.nil (E.end_ (E.nO rfl ?_))
  exact⟨rfl,aa,(ab).up (Xm (by assumption)).symm (Nat.le_refl _),fun k hk=>(ac k hk).elim (fun h=>(P k h).imp id (fun hz=>Nat.le_trans (y).size hz)) (fun hz=> .inr (Nat.le_trans (Q).size hz)),(Q.sub ad (fun i hi hlt=>((P _ hi).elim id (fun hz=>absurd hlt (Nat.not_lt.2 (Nat.le_trans (y).size hz))))))⟩
 refine Cy rfl (congrArg not (Bool.eq_false_iff.2 I)) (Rt (E.eX (E.nO rfl ?_)))
 exact⟨rfl,F,(hP.le (m.trans d)).up (if_neg (by assumption)).symm (show s.2<=s.2+2 by omega),fun k hk=> .inl hk,H⟩

theorem KQ {gp n c:Nat}{A:Option Addr}{ws:List Rw}(w:World)(hp:fA w gp 117 #[.slice A n c])(hV:Vec w GA 5 A n ws)(hn:n<=100000):Calls prog 39 #[.pointer (some ⟨gp,0,none⟩)] w fun r w'=>∃JO A' n' c',r= .returned (.pointer (some ⟨JO,0,none⟩))/\fA w' JO 117 #[.slice A' n' c']/\eU w' w.heap.size 173 GA 5 A' n' c' ws/\w.heap.size<=JO/\rowOf A' c'≠some JO/\Le w w':=by
 have hl:=hV.1
 refine enter func39 rfl rfl ?_
 have b:=Le.refl w
 refine Sr (Wn 1 rfl (Nx (Sr (W.ef rfl rfl rfl (Ef.kU underlying115 Ep fun m o z C e=>?_)))))
 have d:=b.trans e
 have f:eU o w.heap.size 173 GA 5 (some ⟨m,0,none⟩) 0 0 []:=eU.nil _ _ _ _ _ _
 refine Wn 1 rfl (Wa (.nilCheck rfl) rfl (Wa (.eZ pF rfl) rfl (Wr (.fe (v:= .slice A n c) y8 rfl (hp.le d) rfl) rfl (W.ef rfl rfl rfl (Ef.Nu underlying115 Ep underlying115 jZ rfl f rfl (hV.le d) (by omega) (by unfold maxLen;omega) (by have:=e.size;omega) ?_)))))
 intro h i D j s F
 have k:=d.gG s (fun q hq=>Nat.le_trans b.size (f.row hq).1)
 refine Wa (.gF [.slice h (0+n) i] VN z117 rfl rfl) rfl (W.ef rfl rfl rfl (Ef.iM rfl fun t u x (y:fA u t 117 #[.slice h (0+n) i]) l=>(Wn 1 rfl (Nx (Rt (E.fu rfl rfl ?_))))))
 exact⟨_,_,_,_,rfl,y,by simpa using((j.le l).mono b.size),(by have:=x;have:=k.size;omega),(j.rn (by omega)),(k.trans l)⟩

theorem Ru {w:World}{base gp:Nat}{F:Nat->Prop}{s:MF×Nat}(hP:ib w base gp F s)(hN:s.2<=99000):Calls prog 39 #[.pointer (some ⟨gp,0,none⟩)] w fun r w'=>∃JO F',r= .returned (.pointer (some ⟨JO,0,none⟩))/\ib w' w.heap.size JO F' s/\Le w w':=by
  obtain⟨A,n,c,ws,d,b,o,e,f,h,i,t,u⟩:=hP
  have hl:=b.1
  refine Calls.mono (KQ w d b.vec (by omega)) ?_
  rintro r w' ⟨JO,A',n',c',hr,k1,k2,j,l,m⟩
  exact⟨JO,fun k=>k=JO\/rowOf A' c'=some k,hr,⟨A',n',c',ws,k1,k2,l,e,f,h,i,fun _=>Iff.rfl,j⟩,m⟩
end Go.Proofs.YtkaedikifgpkeaaGreatDoor

namespace Go.Proofs.YtkaedikifgpkeaaGreatDoor
open Tryz
open Go Go.Sx Go.oF
set_option maxRecDepth 20000
theorem Rv {a b:Nat}(h:eP a=eP b):a=b:=by
  have:=congrArg val h
  rwa [iV,iV]at this
theorem MX {A A2:Option Addr}{n c n2 c2 p q:Nat}(w:World)(hV:Vec w dv 1 A n (eP p))(hW:Vec w dv 1 A2 n2 (eP q))(hn:n<=1000000):Calls prog 47 #[.slice A n c,.slice A2 n2 c2] w fun r w'=>r= .returned (.bool (decide (p=q)))/\Le w w':=by
 have hl:=hV.1;have s:=hW.1
 refine enter func47 rfl rfl ?_
 have e:=Le.refl w
 refine Sr (Wn 1 rfl (Nx (Sq (Sr (Wn 1 rfl (Wr (.len underlying35 rfl) rfl (Wn 1 rfl (Wr (.len underlying35 rfl) rfl (Wn 1 rfl (Nx ?_))))))))))
 by_cases f:((n:Nat):Int)≠((n2:Nat):Int)
 ·refine Cy rfl (dT f) (Sr (Wn 1 rfl (Nx (Rt (E.eX (E.fu rfl rfl ?_))))))
  exact⟨rB (dF (fun h=>by subst h;omega)).symm,e⟩
 refine Cn rfl (dF f) (Sn (Sq (Sr (Wn 1 rfl (Nx (WC.block (WC.loop (ι:=Nat) (fun k=>[(0,.slice A n c),(1,.slice A2 n2 c2),(5,.int .i64 ((k:Nat):Int))]) (fun k d=>(k<=n)/\(∀j,j<k->(eP p).getD j 0=(eP q).getD j 0)/\Le w d/\w.heap.size<=d.heap.size) (fun k=>n-k) 0 ?_ ?_ ?_)))))))
 ·exact .of rfl
 ·exact⟨Nat.zero_le _,fun j hj=>absurd hj (Nat.not_lt_zero _),e,Nat.le_refl _⟩
 rintro k d ⟨hk,hz,i,o⟩
 refine Sq (Sr (Wn 2 rfl (Wr (.len underlying35 rfl) rfl (Wn 1 rfl (Nx ?_)))))
 by_cases l:((k:Nat):Int)<((n:Nat):Int)
 ·refine Cy rfl (dT l) (Sn (Sq (WC.block (Sq (WC.draw [0,1,2,3,4,5,6,7,8] mixed (by kernel_rfl) fun t m=>?_)))))
  have b:=i.trans m
  refine Gn 2 rfl (Ga rfl (.fV k underlying35 fP rfl rfl (hV.isSome fF (by omega)) rfl (by omega)) (Gd rfl (.jB (v:= .int .u32 ((((eP p).getD k 0):Nat):Int)) gP rfl (hV.le b) fF (gD (eP p) 0 (by first|omega|(simp only[List.length_cons,List.length_nil];omega))) rfl) ?_))
  refine Gn 2 rfl (Ga rfl (.fV k underlying35 fP rfl rfl (hW.isSome fF (by omega)) rfl (by omega)) (Gd rfl (.jB (v:= .int .u32 ((((eP q).getD k 0):Nat):Int)) gP rfl (hW.le b) fF (gD (eP q) 0 (by first|omega|(simp only[List.length_cons,List.length_nil];omega))) rfl) ?_))
  refine Gn 1 rfl (G.nil (E.eY ?_))
  by_cases c2:((((eP p).getD k 0):Nat):Int)≠((((eP q).getD k 0):Nat):Int)
  ·refine Cy rfl (dT c2) (Sr (Wn 1 rfl (Nx (Rt (E.gT (E.eX (E.eX (E.gT (E.eX (E.fu rfl rfl ?_))))))))))
   exact⟨rB (dF (fun h=>by subst h;omega)).symm,b⟩
  refine Cn rfl (dF c2) (WC.skip (E.gI (E.eY (WC.region (Wn 1 rfl (Wa (.add rfl rfl (by omega)) rfl (Wn 1 rfl (W.nil (E.again (k+1) (.of rfl) ?_ ?_)))))))))
  ·exact⟨by omega,fun j hj=>by rcases Nat.lt_or_ge j k with h|h;exact hz j h;rw[show j=k by omega];omega,b,by have:=o;have:=m.size;omega⟩
  first|omega|(simp only[];omega)
 refine Cn rfl (dF l) (WC.exit (E.fC (E.fC (E.gW (E.eY (Sr (Wn 1 rfl (Nx (Rt (E.fu rfl rfl ?_))))))))))
 exact⟨rB (dT (Rv (BJ (by omega) (fun j hj=>hz j (by omega))))).symm,i⟩

theorem Js {uk um:Option Addr}{qz cn1 qA cd1 p1 q1:Nat}{uo uq:Option Addr}{qB cn2 qC cd2 p2 q2:Nat}(w:World)(hn1:Vec w dv 1 uk qz (eP p1))(hd1:Vec w dv 1 um qA (eP q1))(Xg:qz<=10000)(Xh:qA<=10000)(hn2:Vec w dv 1 uo qB (eP p2))(hd2:Vec w dv 1 uq qC (eP q2))(Xi:qB<=10000)(Xj:qC<=10000):Calls prog 13 #[.agg #[.slice uk qz cn1,.slice um qA cd1],.agg #[.slice uo qB cn2,.slice uq qC cd2]] w fun r w'=>r= .returned (.bool (decide ((⟨p1,q1⟩:Fr)=⟨p2,q2⟩)))/\Le w w':=by
 have u:=hn1.1;have x:=hd1.1
 have y:=hn2.1;have z:=hd2.1
 refine enter func13 rfl rfl (Sr (W.ef rfl rfl rfl (Ef.iM rfl fun k l A (m:fA l k 37 #[.slice uk qz cn1,.slice um qA cd1]) n=>(W.ef rfl rfl rfl (Ef.iM rfl fun o f C (h:fA f o 37 #[.slice uo qB cn2,.slice uq qC cd2]) i=>?_)))))
 have d:=((Le.refl w).trans n).trans i
 refine Wn 1 rfl (Nx (Sr (Wa (.eZ lW rfl) rfl ?_)))
 have j:=(m.le i)
 refine Wr (.fe (v:= .slice uk qz cn1) jl rfl j rfl) rfl (Wa (.eZ lW rfl) rfl (Wr (.fe (v:= .slice uo qB cn2) jl rfl h rfl) rfl (W.cl Yu rfl rfl (MX f (hn1.le d) (hn2.le d) (by omega)) ?_)))
 rintro _ s ⟨rfl,e⟩
 have b:=d.trans e
 by_cases c:p1=p2
 ·refine Dt c rfl rfl (Wg (Any.rd (.eZ kN rfl) _) rfl (Wg (.fe (v:= .slice um qA cd1) jl rfl (j.le e) rfl) rfl (Wg (Any.rd (.eZ kN rfl) _) rfl (Wg (.fe (v:= .slice uq qC cd2) jl rfl (h.le e) rfl) rfl (W.mW rfl rfl rfl rfl rfl rfl ?_)))))
  refine Ef.call Yu rfl rfl (MX s (hd1.le b) (hd2.le b) (by omega)) ?_
  rintro _ D ⟨rfl,t⟩
  refine⟨_,rfl,?_⟩
  refine Wn 2 rfl (Nx (Rt (E.fu rfl rfl ?_)))
  exact⟨rB (by simp[c]),(b.trans t)⟩
 refine Df c rfl rfl (Wn 7 rfl (Nx (Rt (E.fu rfl rfl ?_))))
 exact⟨rB (by simp[c]),b⟩
end Go.Proofs.YtkaedikifgpkeaaGreatDoor

