/- LedgerSides: for every input the law answers true and leaves its arguments as they were. -/
import Derived.Test.YtkpmaajniagncaaGreatDoorLedgerSidesS
set_option linter.defProp false
set_option linter.unusedVariables false
set_option linter.unusedSimpArgs false
namespace Go.Proofs.YtkpmaajniagncaaGreatDoor
open Tryz
open Go Go.Sx Go.Fv Go.Num Go.KJ Go.Gz Go.Lsp Go.JQ Go.yA Go.Scp Go.E8
set_option maxRecDepth 20000
theorem aiw {am op:Int}{s:ny}(h:kz am op s)(hn:s.cs=[]):BB [s.h0,s.h1]/\(pE ⟨[s.h0,s.h1],[],0,[],0,0⟩ ⟨0,0,1,s.h0,s.h1⟩ 0).2=0/\qE s (pE ⟨[s.h0,s.h1],[],0,[],0,0⟩ ⟨0,0,1,s.h0,s.h1⟩ 0).1:=by
 have h0:=h.Vq
 have h1:=h.Vr
 have ht:=h.tot
 have hp:=h.top
 rw[hn]at ht
 have hz:jT []=0:=Z
 rw[hz]at ht
 obtain⟨k1,k2⟩:=aao s.no s.rt h0 h1
 refine⟨⟨by simp,fun x hx=>by simp at hx;rcases hx with rfl|rfl<;>omega,by simp;omega⟩,k1,?_⟩
 have e:s=⟨s.no,s.h0,s.h1,[],s.rt⟩:=by rw[<-hn]
 rw[<-e]at k2
 exact k2
theorem Zp {α:Type}{l:List α}{i:Nat}{z:α}(h:i<l.length):l.getD i z∈l:=by simp[List.getD,h]
theorem I9 (p:CW)(hp:vO p){C:Cx}(ZG:C=CB p){Ad:Option Addr}{nd cd:Nat}{ds:List KD}(w:World)(hDs:Vec w FH 4 Ad nd ds)(hof:∀d∈ds,zB d)(hT:C8 w)(xz:¬C.Zc):Calls prog 3 #[.agg (vz p).toArray,.slice Ad nd cd] w fun r w'=>r= .returned (.bool true)/\Le w w':=by
 have hdl:=hDs.1
 refine En func3 Z (Sr (Yv Z fun f c m (i:ik c f 29 (vz p).toArray) j=>Yx 1 Z (Sr (Yc Z (II c) fun k e=>Yx 1 Z (Sr (Yh Z (i.le e) (Yc Z (Zl p k hp ZG xz) fun n l=>?_)))))))
 refine Yx 5 Z (Sq (Rn 7 Z (Ct Z (Rn 2 Z (Rt (E.il (E.iC Z Z ?_)))))))
 exact⟨rfl,((((Le.refl w).trans j).trans e).trans l)⟩
set_option maxHeartbeats 4000000 in
theorem FI (p:CW) (hp:vO p) {C:Cx} (ZG:C=CB p) {Ad:Option Addr} {nd cd:Nat} {ds:List KD} (w:World) (hDs:Vec w FH 4 Ad nd ds) (hof:∀d∈ds,zB d) (hT:C8 w) (xz:C.Zc):Calls prog 3 #[.agg (vz p).toArray,.slice Ad nd cd] w fun r w'=>r= .returned (.bool true)/\Le w w':=by
 have hdl:=hDs.1
 have hB:=Zh hp;rw[<-ZG]at hB
 have hrel:=aiw ((hB.dl xz).Zo (no:=0) (by decide)) (by rw[at_nil])
 refine En func3 Z (Sr (Yv Z fun b1 bb da (b2:ik bb b1 29 (vz p).toArray) bc=>Yx 1 Z (Sr (Yc Z (II bb) fun aI aJ=>?_))))
 have L2:=((Le.refl w).trans bc).trans aJ
 refine Yx 1 Z (Sr (Yh Z (b2.le aJ) (Yd Z (Zm p aI hp ZG xz) ?_)))
 rintro _ db ⟨gt,aK,t0,rfl,aL,aM,bd⟩
 have L4:=L2.trans bd
 refine Yx 5 Z (Sq (Rn 7 Z ?_))
 by_cases c0:6<(nd:Int)
 ·refine Cy Z (dT c0) (Rn 2 Z (Rt (E.il (E.iC Z Z ?_))))
  exact⟨rfl,L4⟩
 refine Cn Z (dF c0) ?_
 have hnd:nd<=6:=by omega
 refine Sn (Sr ?_)
 obtain⟨b3,dc,aN⟩:=id aL;obtain⟨de,dg,b4⟩:=id (aN.s 0 (by omega))
 have be:=(b4.l 0 (by omega)).vec;rw[aM.lg (by omega)]at be;have dh:=be.1
 refine Yn 3 Z (Yi 0 Z (Yk (.pointer (some ⟨(b3.gs 0),0,none⟩)) Z aN.b Z (Yd Z (QK (aN.s 0 (by omega)) aM ((hB.dl xz).ok hB.k hB.ok (by decide)) (by omega)) ?_)))
 rintro _ di ⟨b5,b6,rfl,dj,aw⟩
 refine W.ab Z z38 Jm (wN Z) fun b7 bf dk (aO:ik bf b7 38 #[J ((C.at_ oO ((0:Nat):Int)).no),J ((C.at_ oO ((0:Nat):Int)).h0),J ((C.at_ oO ((0:Nat):Int)).h1),.slice b5 ((C.at_ oO ((0:Nat):Int)).cs.length) b6,J ((C.at_ oO ((0:Nat):Int)).rt)]) ax=>Nx (Rr 1 Z (Yi 0 Z (Yk (J ((C.at_ oO ((0:Nat):Int)).h0)) Z aO Z (Yn 1 Z (Yi 1 Z (Yk (J ((C.at_ oO ((0:Nat):Int)).h1)) Z aO Z (W.ef Z Z Z (Ef.iw (len:=2) [_,_] underlying48 Je Z (by simp[Value.cells]) Z (by decide) (by decide) ?_))))))))
 intro bg ad b8 aP ae
 have L8:=((L4.trans aw).trans ax).trans ae
 have aP:ik ad bg 3 (([(C.at_ oO ((0:Nat):Int)).h0,(C.at_ oO ((0:Nat):Int)).h1]).map iv).flatten.toArray:=aP
 have b9:iy ad bf.heap.size 3 iv 1 (some ⟨bg,0,none⟩) 2 2 ([(C.at_ oO ((0:Nat):Int)).h0,(C.at_ oO ((0:Nat):Int)).h1]):=aP.j4 b8 iQ Z Z (by decide)
 refine Yd Z (R7 ad b9.vec hrel.1) ?_
 rintro _ dm ⟨ay,ca,rfl,aQ,az⟩
 refine Yx 1 Z (Sq (Rr 1 Z (Wa (.dec (.Lc (by kernel_rfl) Z) Z) Z (Yn 2 Z (Wg (Any.rd (.kU (cells:=(jq (⟨0,1⟩:jw)).toArray) underlying35 nC z35 Z Z) _) Z (Yn 1 Z (Yb [J ((C.at_ oO ((0:Nat):Int)).h0),J ((C.at_ oO ((0:Nat):Int)).h1)] Z (aO.le (ae.trans az)) Z (Wg (Any.rd (.iF (iV (⟨0,0,1,(C.at_ oO ((0:Nat):Int)).h0,(C.at_ oO ((0:Nat):Int)).h1⟩:Seat)) P7 z52 Z Z) _) Z (Yd Z (zn (s:=(⟨[(C.at_ oO ((0:Nat):Int)).h0,(C.at_ oO ((0:Nat):Int)).h1],[],0,[],0,0⟩:rP)) (⟨0,0,1,(C.at_ oO ((0:Nat):Int)).h0,(C.at_ oO ((0:Nat):Int)).h1⟩:Seat) 0 aQ) ?_)))))))))
 rintro _ cc ⟨bh,rfl,ce,cf,aR⟩
 have bi:=(aL.le (aw.trans (ax.trans (ae.trans az))))
 have _:=aw.size
 have _:=ax.size
 have _:=ae.size
 have bj:=(show∀k,aK k->¬ca k from(fun k B D=>by have:=aQ.old D;have:=aL.lt B;omega))
 have cg:∀k,aK k->¬bh k:=fun k hk hF=>(cf _ hF).elim (bj k hk) (fun hz=>by have:=bi.lt hk;omega)
 refine Yq 1 Z (dF (fun h=>h hrel.2.1)) (Yx 1 Z (Cf Z (Sn (Sq (Rn 1 Z (Bk ?_))))))
 refine WC.loop (ι:=Nat×Nat×(Nat->List kT)×Bb×(Nat->Prop)×rP×(Nat->Prop)) (fun⟨k,n,L,tk,Fk,ld,Fl⟩=>[(1,.slice Ad nd cd),(5,.bool true),(6,.pointer (some ⟨gt,0,none⟩)),(9,.pointer (some ⟨ay,0,none⟩)),(10,J (k:Int))]) (fun⟨k,n,L,tk,Fk,ld,Fl⟩ af=>(k<=nd)/\(Qt C n L tk)/\(Dl C k L)/\(n<=2*k)/\(qE (C.at_ L 0) ld)/\Le w af/\cc.heap.size<=af.heap.size/\Au af aI.heap.size gt Fk tk/\kQ af ad.heap.size ay Fl ld/\(∀k,Fk k->¬Fl k)) (fun⟨k,n,L,tk,Fk,ld,Fl⟩=>nd-k) (0,0,oO,t0,aK,(pE ⟨[(C.at_ oO ((0:Nat):Int)).h0,(C.at_ oO ((0:Nat):Int)).h1],[],0,[],0,0⟩ ⟨0,0,1,(C.at_ oO ((0:Nat):Int)).h0,(C.at_ oO ((0:Nat):Int)).h1⟩ 0).1,bh) ?_ ?_ ?_
 ·exact .of Z
 ·exact⟨Nat.zero_le _,aM,(hB.dl xz),Nat.zero_le _,hrel.2.2,((L8.trans az).jP aR (fun i hi=>Nat.le_trans L8.size (aQ.old hi))),Nat.le_refl _,(bi.ji aR bj),ce,cg⟩
 rintro⟨k,n,L,tk,Fk,ld,Fl⟩ af ⟨hk,hQ,hD,hn,hR,aS,ci,aT,aU,cj⟩
 refine Sq (Rn 4 Z ?_)
 by_cases c2:(k:Int)<(nd:Int)
 ·refine Cy Z (dT c2) ?_
  have hdm:ds.getD k SY∈ds:=Zp (by omega)
  obtain⟨d,hde⟩:∃d,d=ds.getD k SY:=⟨_,rfl⟩
  have hd:=hof d (by rw[hde];exact hdm)
  obtain⟨dn,dp,dq,dr⟩:=id hd
  refine Nb (Rr 2 Z (Ys k Z (hDs.isSome I7 (by omega)) (Wr (.lX ahF Z (hDs.le aS) I7 (by have q:=jN ds SY (show k<ds.length by omega);rw[<-hde]at q;exact q)) Z (W.ab Z z56 afn (I7.one d) fun ah bk bl (aV:ik bk ah 56 (FH d).toArray) aA=>?_))))
  have bm:=aS.trans aA
  refine Nx (Rr 1 Z (Yk (.int .u8 (d.sd:Int)) Z aV Z (Wa (.LQ Z Z (by omega)) Z (Wr (.Tp (rG underlying5) underlying3 Z (IntWalk.i64_in _ (by omega))) Z (Yx 1 Z (Sr ?_))))))
  have aW:=(aT.le aA)
  obtain⟨aX,du,bn⟩:=id aW;obtain⟨t,dw,bo⟩:=id (bn.s (d.sd%2) (by omega))
  have bp:=(bo.l (d.sd%2) (by omega)).vec;rw[hQ.lg (by omega)]at bp;have ck:=bp.1
  refine Yn 4 Z (Yi (d.sd%2) Z (Yk (.pointer (some ⟨(aX.gs (d.sd%2)),0,none⟩)) Z bn.b (oN (⟨aX.gs,aX.qa⟩:vR) (by omega)) (Yn 3 Z (Yi (d.sd%2) Z (Yk (.slice ((t (d.sd%2)).A) ((t (d.sd%2)).n) ((t (d.sd%2)).c)) Z bo.b (oM (⟨(tk.z (d.sd%2)),t⟩:sF) (by omega)) (Yx 2 Z (Sq (Rr 1 Z (Yh Z aV ?_)))))))))
  refine Yd Z (abS bk aW hQ hD (by omega) hn hB (hT.le bm) (Nat.lt_of_lt_of_le hT.lt L2.size) hd) ?_
  rintro _ cm ⟨u,ai,e,rfl,aY,Q,co,cp,aB⟩
  have bq:=bm.jP aB (fun i hi=>Nat.le_trans L2.size (aW.old hi))
  have bs:=(aU.le aA)
  have bt:=(show∀k,Fl k->¬Fk k from(fun k B D=>cj k D B))
  have aZ:=bs.ji aB bt
  have bu:∀k,Fl k->¬u k:=fun k hk hF=>(cp _ hF).elim (bt k hk) (fun hz=>by have:=bs.lt hk;omega)
  refine Yx 1 Z (Cf Z (Sn (WC.cut (ι:=rP×(Nat->Prop)) (fun⟨m,aj⟩=>[(1,.slice Ad nd cd),(5,.bool true),(6,.pointer (some ⟨gt,0,none⟩)),(9,.pointer (some ⟨ay,0,none⟩)),(10,J (k:Int))]) (fun⟨m,aj⟩ ak=>(qE (C.at_ (jo C L d) 0) m)/\(∀q,u q->¬aj q)/\Le w ak/\cm.heap.size<=ak.heap.size/\Au ak aI.heap.size gt u ai/\kQ ak ad.heap.size ay aj m) ?_ ?_)))
  ·refine Sr ?_
   obtain⟨x,dx,aC⟩:=id aY;obtain⟨f,dy,aD⟩:=id (aC.s (d.sd%2) (by omega))
   have al:=(aD.l (d.sd%2) (by omega)).vec;rw[Q.lg (by omega)]at al;have dz:=al.1
   refine Yn 1 Z ?_
   by_cases F:qA C L d
   ·have hln:=congrArg List.length (OZ F);rw[List.length_append,List.length_singleton]at hln
    refine Yn 3 Z (Yi (d.sd%2) Z (Yk (.pointer (some ⟨(x.gs (d.sd%2)),0,none⟩)) Z aC.b (oN (⟨x.gs,x.qa⟩:vR) (by omega)) (Yn 3 Z (Yi (d.sd%2) Z (Yk (.slice ((f (d.sd%2)).A) ((f (d.sd%2)).n) ((f (d.sd%2)).c)) Z aD.b (oM (⟨(ai.z (d.sd%2)),f⟩:sF) (by omega)) (Yt 3 Z (Nx (Ct Z (Rr 4 Z ?_)))))))))
    refine Yi (d.sd%2) Z (Yk (.pointer (some ⟨(x.gs (d.sd%2)),0,none⟩)) Z aC.b (oN (⟨x.gs,x.qa⟩:vR) (by omega)) (Yn 3 Z (Yi (d.sd%2) Z (Yk (.slice ((f (d.sd%2)).A) ((f (d.sd%2)).n) ((f (d.sd%2)).c)) Z aD.b (oM (⟨(ai.z (d.sd%2)),f⟩:sF) (by omega)) (Yn 1 Z (Ys ((t (d.sd%2)).n) Z (al.isSome jK (by omega)) (Wa (.Hd adG (al.isSome jK (by omega)) Z) Z (Wr (.aeX (j:=(t (d.sd%2)).n) (o:=1) (jl ((((jo C L d) (d.sd%2)).getD ((t (d.sd%2)).n) iJ).c)) Lh Z (by decide) Z al jK (jN ((jo C L d) (d.sd%2)) iJ (by first|omega|(simp only[List.length_cons,List.length_nil];omega))) Z) Z (W.ab Z z83 Bl (iN.one ((((jo C L d) (d.sd%2)).getD ((t (d.sd%2)).n) iJ).c)) fun bv cq cr (ct:ik cq bv 83 (jl ((((jo C L d) (d.sd%2)).getD ((t (d.sd%2)).n) iJ).c)).toArray) H=>?_)))))))))
    refine Nx (Sr ?_)
    have hgd:(jo C L d (d.sd%2)).getD (t (d.sd%2)).n iJ=jd L d:=by rw[<-ck];exact Vj F
    have bcd:=ct
    rw[hgd]at bcd
    have a0:=(aZ.le H)
    have ho:=abT hD hB (by omega) hd F hR (a0).good
    refine Yn 3 Z (Yk (J (((jd L d).c).id)) Z bcd Z (Yn 1 Z (Yk (J (((jd L d).c).am)) Z bcd Z (Yn 1 Z (Yk (.int .u64 (((jd L d).c).pt:Int)) Z bcd Z (Yd Z (Ka (s:=ld) 0 ((d.sd:Int)%2) (((jd L d).c).id) (((jd L d).c).am) (((jd L d).c).pt) ((x8 d).2.2) a0 ho.1) ?_))))))
    rintro _ dA ⟨R,rfl,S,bw,I⟩
    have a1:=(bq.trans H).jP I (fun i hi=>Nat.le_trans L8.size (a0.old hi))
    have bx:=(aY.le H)
    have bz:=((aV.ji aB (show¬Fk ah from(fun hF=>by have:=aT.lt hF;have:=bl;omega))).le H)
    have bA:=(show∀k,u k->¬Fl k from(fun k B D=>bu k D B))
    have an:=bx.ji I bA
    have a2:∀k,u k->¬R k:=fun k hk hF=>(bw _ hF).elim (bA k hk) (fun hz=>by have:=bx.lt hk;omega)
    have bB:=(show¬Fl ah from(fun hF=>by have:=aU.lt hF;have:=bl;omega))
    have aE:=bz.ji I bB
    have cu:¬R ah:=fun hF=>(bw _ hF).elim bB (fun hz=>by have:=bz.lt;omega)
    have bC:=bcd.ji I (show¬Fl bv from(fun hF=>by have:=aZ.lt hF;have:=cr;omega))
    refine Yq 1 Z (dF (fun h=>h ho.1)) ?_
    have he:=abU hD hB (by omega) hd F ho.2 (S).good
    refine Yn 2 Z (Yk (.int .u8 (d.dd:Int)) Z aE Z (Wg (Any.rd (.LQ Z Z (by omega)) _) Z (Yn 1 Z ?_)))
    by_cases bD:((d.dd:Int)%3)=0
    ·refine Yq 1 Z (dT bD) (Yn 3 Z (Yk (J (((jd L d).c).id)) Z bC Z (Yn 1 Z (Yk (.int .u64 (d.se:Int)) Z aE Z (Wg (Any.rd (.BQ d.se 2305843009213688668 (d.se%2305843009213688668) Z Z Z Z (by omega) Z) _) Z (Wg (Any.rd (.addN 1 (d.se%2305843009213688668) (nu d) Z Z Z Z (by unfold nu;omega)) _) Z (Yd Z (Bo (s:=(nI ld 0 ((d.sd:Int)%2) (((jd L d).c).id) (((jd L d).c).am) (((jd L d).c).pt)).1) 0 ((d.sd:Int)%2) (((jd L d).c).id) (nu d) S) ?_)))))))
     rintro _ dB ⟨bE,rfl,cv,cw,aF⟩
     have bF:=(show∀k,u k->¬R k from a2)
     have cx:∀k,u k->¬bE k:=fun k hk hF=>(cw _ hF).elim (bF k hk) (fun hz=>by have:=an.lt hk;omega)
     refine Yq 1 Z (dF (fun h=>h (he.1 (by omega)).1)) (Wg (Any.rd (.BJ Z Z Z) _) Z (Yn 3 Z (Yk (.int .u8 (d.dd:Int)) Z (aE.ji aF (show¬R ah from cu)) Z (Wg (Any.rd (.LQ Z Z (by omega)) _) Z (Yf 1 Z (Yn 7 Z (Wg (Any.rd (.AU Z Z Z) _) Z (Yx 1 Z (Cf Z ?_)))))))))
     refine WC.skip (E.meet ((lZ ((nI ld 0 ((d.sd:Int)%2) (((jd L d).c).id) (((jd L d).c).am) (((jd L d).c).pt)).1) 0 ((d.sd:Int)%2) (((jd L d).c).id) (nu d)).1,bE) (.of Z) ?_)
     exact⟨(he.1 (by omega)).2,cx,(a1.jP aF (fun i hi=>Nat.le_trans L8.size (S.old hi))),by have:=H.size;have:=I.size;have:=aF.size;omega,(an.ji aF bF),cv⟩
    refine Yq 1 Z (dF bD) (Yn 10 Z (Wg (Any.rd (.AU Z Z Z) _) Z (Yn 3 Z (Yk (.int .u8 (d.dd:Int)) Z aE Z (Wg (Any.rd (.LQ Z Z (by omega)) _) Z (Yn 1 Z ?_))))))
    by_cases bG:((d.dd:Int)%3)=1
    ·refine Yq 1 Z (dT bG) (Yn 3 Z (Yk (J (((jd L d).c).id)) Z bC Z (Yd Z (Oe (s:=(nI ld 0 ((d.sd:Int)%2) (((jd L d).c).id) (((jd L d).c).am) (((jd L d).c).pt)).1) 0 ((d.sd:Int)%2) (((jd L d).c).id) S) ?_)))
     rintro _ dC ⟨bH,rfl,cy,cz,a3⟩
     have bI:=(show∀k,u k->¬R k from a2)
     have cA:∀k,u k->¬bH k:=fun k hk hF=>(cz _ hF).elim (bI k hk) (fun hz=>by have:=an.lt hk;omega)
     refine Yq 1 Z (dF (fun h=>h (he.2 (by omega)).1)) (Wg (Any.rd (.BJ Z Z Z) _) Z (Yx 1 Z (Cf Z (WC.skip (E.meet ((um ((nI ld 0 ((d.sd:Int)%2) (((jd L d).c).id) (((jd L d).c).am) (((jd L d).c).pt)).1) 0 ((d.sd:Int)%2) (((jd L d).c).id)).1,bH) (.of Z) ?_)))))
     exact⟨(he.2 (by omega)).2,cA,(a1.jP a3 (fun i hi=>Nat.le_trans L8.size (S.old hi))),by have:=H.size;have:=I.size;have:=a3.size;omega,(an.ji a3 bI),cy⟩
    refine Yq 1 Z (dF bG) (Yn 6 Z (Wg (Any.rd (.AU Z Z Z) _) Z (Yx 1 Z (Cf Z (WC.skip (E.meet ((nI ld 0 ((d.sd:Int)%2) (((jd L d).c).id) (((jd L d).c).am) (((jd L d).c).pt)).1,R) (.of Z) ?_))))))
    exact⟨(Zn F (by omega) ho.2),a2,a1,by have:=H.size;have:=I.size;omega,an,S⟩
   have hln:(jo C L d (d.sd%2)).length=(L (d.sd%2)).length:=by rw[Dh F]
   refine Yn 3 Z (Yi (d.sd%2) Z (Yk (.pointer (some ⟨(x.gs (d.sd%2)),0,none⟩)) Z aC.b (oN (⟨x.gs,x.qa⟩:vR) (by omega)) (Yn 3 Z (Yi (d.sd%2) Z (Yk (.slice ((f (d.sd%2)).A) ((f (d.sd%2)).n) ((f (d.sd%2)).c)) Z aD.b (oM (⟨(ai.z (d.sd%2)),f⟩:sF) (by omega)) (Yf 3 Z (Nx (Cf Z (WC.skip ?_)))))))))
   refine E.meet (ld,Fl) (.of Z) ?_
   exact⟨(by rw[Dh F];exact hR),(fun k B D=>bu k D B),bq,Nat.le_refl _,aY,aZ⟩
  rintro⟨m,aj⟩ ak ⟨y,cB,cC,cD,bJ,cE⟩
  refine Sr ?_
  have ao:=hD.agX hB (by omega) hd;have bK:=ao.ok hB.k hB.ok (by omega)
  refine Yx 1 Z (Bk (WC.rounds 3 (uo.step (Sq (Sr (Yq 2 Z (show _=true from by first|decide|rfl) (Nx (Ct Z (Nb ?_)))))))))
  refine Sr ?_
  obtain⟨cF,dD,a4⟩:=id bJ;obtain⟨dE,dG,cG⟩:=id (a4.s 0 (by omega))
  have bL:=(cG.l 0 (by omega)).vec;rw[Q.lg (by omega)]at bL;have dH:=bL.1
  refine Yn 4 Z (Yi 0 Z (Yk (.pointer (some ⟨(cF.gs 0),0,none⟩)) Z a4.b Z (Yd Z (QK (a4.s 0 (by omega)) Q bK (by omega)) ?_)))
  rintro _ dI ⟨cH,a5,rfl,cI,aG⟩
  refine W.ab Z z38 Jm (wN Z) fun cJ cK dJ (cL:ik cK cJ 38 #[J ((C.at_ (jo C L d) (e:Int)).no),J ((C.at_ (jo C L d) (e:Int)).h0),J ((C.at_ (jo C L d) (e:Int)).h1),.slice cH ((C.at_ (jo C L d) (e:Int)).cs.length) a5,J ((C.at_ (jo C L d) (e:Int)).rt)]) ap=>Nx (Rr 1 Z ?_)
  have bM:=(cE.le (aG.trans ap))
  refine Yc Z (by have h:=Io (s:=m) 0 bM;rw[(zF y (e:Int)).seen.1,(zF y (e:Int)).seen.2]at h;exact h) fun dK U=>?_
  refine Yn 1 Z (Wa (.extract (v:= .agg (iV (⟨0,0,1,(C.at_ (jo C L d) (e:Int)).h0,(C.at_ (jo C L d) (e:Int)).h1⟩:Seat)).toArray) Z Z) Z (Yn 1 Z (W.ab Z z52 wu (iI.one (⟨0,0,1,(C.at_ (jo C L d) (e:Int)).h0,(C.at_ (jo C L d) (e:Int)).h1⟩:Seat)) fun cM cN dL (cO:ik cN cM 52 (iV (⟨0,0,1,(C.at_ (jo C L d) (e:Int)).h0,(C.at_ (jo C L d) (e:Int)).h1⟩:Seat)).toArray) V=>Yx 1 Z (Sq (WC.draw [0,1,2,3,4,5,6,7,8,9,10,12,11,13,14,15,16,17,19,18,20,21,22] mixed (by kernel_rfl) ?_)))))
  intro aiA Ja
  refine Xn 4 Z (Xb [J ((⟨0,0,1,(C.at_ (jo C L d) (e:Int)).h0,(C.at_ (jo C L d) (e:Int)).h1⟩:Seat).h0),J ((⟨0,0,1,(C.at_ (jo C L d) (e:Int)).h0,(C.at_ (jo C L d) (e:Int)).h1⟩:Seat).h1)] Z (cO.le Ja) Z (Xn 1 Z ?_))
  have a6:=(cL.le (U.trans (V.trans Ja)))
  refine Xb [J ((C.at_ (jo C L d) (e:Int)).h0),J ((C.at_ (jo C L d) (e:Int)).h1)] Z a6 Z (F7 Z (.dec (.neA PV Z Z (sU (d:=9998) (⟨(⟨0,0,1,(C.at_ (jo C L d) (e:Int)).h0,(C.at_ (jo C L d) (e:Int)).h1⟩:Seat).h0,(⟨0,0,1,(C.at_ (jo C L d) (e:Int)).h0,(C.at_ (jo C L d) (e:Int)).h1⟩:Seat).h1⟩:jw) (⟨(C.at_ (jo C L d) (e:Int)).h0,(C.at_ (jo C L d) (e:Int)).h1⟩:jw))) (congrArg (fun b=> !b) (dT Z))) (Xn 3 Z (Xh Z a6 ?_)))
  have bN:=(bM.le (U.trans (V.trans Ja)))
  refine Xc Z (by have h:=qw (s:=m) 0 bN;rw[(zF y (e:Int)).worth (i:=0) (by decide)]at h;exact h) fun cP K=>?_
  have bO:=(cI.le (ap.trans (U.trans (V.trans (Ja.trans K)))))
  refine Xc Z (zX (c:=a5) 0 (by omega) cP bO.vec (ao.Zo (by omega))) fun dM N=>Xq 1 Z (dF (fun h=>h Z)) (Xn 3 Z (Xh Z (a6.le (K.trans N)) ?_))
  have bP:=(bN.le (K.trans N))
  refine Xc Z (by have h:=qw (s:=m) 1 bP;rw[(zF y (e:Int)).worth (i:=1) (by decide)]at h;exact h) fun cQ X=>?_
  refine Xc Z (zX (c:=a5) 1 (by omega) cQ (bO.le (N.trans X)).vec (ao.Zo (by omega))) fun dN aq=>Xq 1 Z (dF (fun h=>h Z)) (Xx 1 Z (Cf Z (WC.skip (E.jD (E.iM (Rg (Yn 1 Z (Wa (.as (.add Z Z (by decide)) Z) Z ?_))))))))
  refine Yn 1 Z (W.nil (E.round (uo.step (Sq (Sr (Yq 2 Z (show _=true from by first|decide|rfl) (Nx (Ct Z (Nb ?_)))))))))
  refine Sr ?_
  have bQ:=(bJ.le (aG.trans (ap.trans (U.trans (V.trans (Ja.trans (K.trans (N.trans (X.trans aq)))))))))
  obtain⟨cR,dO,a7⟩:=id bQ;obtain⟨dP,dQ,cS⟩:=id (a7.s 1 (by omega))
  have bR:=(cS.l 1 (by omega)).vec;rw[Q.lg (by omega)]at bR;have dR:=bR.1
  refine Yn 4 Z (Yi 1 Z (Yk (.pointer (some ⟨(cR.gs 1),0,none⟩)) Z a7.b Z (Yd Z (QK (a7.s 1 (by omega)) Q bK (by omega)) ?_)))
  rintro _ dS ⟨cT,a8,rfl,cU,aH⟩
  refine W.ab Z z38 Jm (wN Z) fun cV cW dU (cX:ik cW cV 38 #[J ((C.at_ (jo C L d) (e:Int)).no),J ((C.at_ (jo C L d) (e:Int)).h0),J ((C.at_ (jo C L d) (e:Int)).h1),.slice cT ((C.at_ (jo C L d) (e:Int)).cs.length) a8,J ((C.at_ (jo C L d) (e:Int)).rt)]) ar=>Nx (Rr 1 Z ?_)
  have bS:=(bP.le (X.trans (aq.trans (aH.trans ar))))
  refine Yc Z (by have h:=Io (s:=m) 0 bS;rw[(zF y (e:Int)).seen.1,(zF y (e:Int)).seen.2]at h;exact h) fun dV Y=>?_
  refine Yn 1 Z (Wa (.extract (v:= .agg (iV (⟨0,0,1,(C.at_ (jo C L d) (e:Int)).h0,(C.at_ (jo C L d) (e:Int)).h1⟩:Seat)).toArray) Z Z) Z (Yn 1 Z (W.ab Z z52 wu (iI.one (⟨0,0,1,(C.at_ (jo C L d) (e:Int)).h0,(C.at_ (jo C L d) (e:Int)).h1⟩:Seat)) fun cY cZ dW (c1:ik cZ cY 52 (iV (⟨0,0,1,(C.at_ (jo C L d) (e:Int)).h0,(C.at_ (jo C L d) (e:Int)).h1⟩:Seat)).toArray) aa=>Yx 1 Z (Sq (WC.draw [0,1,2,3,4,5,6,7,8,9,10,12,11,13,14,15,16,17,19,18,20,21,22] mixed (by kernel_rfl) fun aiB Jb=>Xn 4 Z (Xb [J ((⟨0,0,1,(C.at_ (jo C L d) (e:Int)).h0,(C.at_ (jo C L d) (e:Int)).h1⟩:Seat).h0),J ((⟨0,0,1,(C.at_ (jo C L d) (e:Int)).h0,(C.at_ (jo C L d) (e:Int)).h1⟩:Seat).h1)] Z (c1.le Jb) Z (Xn 1 Z ?_)))))))
  have a9:=(cX.le (Y.trans (aa.trans Jb)))
  refine Xb [J ((C.at_ (jo C L d) (e:Int)).h0),J ((C.at_ (jo C L d) (e:Int)).h1)] Z a9 Z (F7 Z (.dec (.neA PV Z Z (sU (d:=9998) (⟨(⟨0,0,1,(C.at_ (jo C L d) (e:Int)).h0,(C.at_ (jo C L d) (e:Int)).h1⟩:Seat).h0,(⟨0,0,1,(C.at_ (jo C L d) (e:Int)).h0,(C.at_ (jo C L d) (e:Int)).h1⟩:Seat).h1⟩:jw) (⟨(C.at_ (jo C L d) (e:Int)).h0,(C.at_ (jo C L d) (e:Int)).h1⟩:jw))) (congrArg (fun b=> !b) (dT Z))) (Xn 3 Z (Xh Z a9 ?_)))
  have bT:=(bS.le (Y.trans (aa.trans Jb)))
  refine Xc Z (by have h:=qw (s:=m) 0 bT;rw[(zF y (e:Int)).worth (i:=0) (by decide)]at h;exact h) fun c3 O=>?_
  have bU:=(cU.le (ar.trans (Y.trans (aa.trans (Jb.trans O)))))
  refine Xc Z (zX (c:=a8) 0 (by omega) c3 bU.vec (ao.Zo (by omega))) fun dX P=>Xq 1 Z (dF (fun h=>h Z)) (Xn 3 Z (Xh Z (a9.le (O.trans P)) ?_))
  have bV:=(bT.le (O.trans P))
  refine Xc Z (by have h:=qw (s:=m) 1 bV;rw[(zF y (e:Int)).worth (i:=1) (by decide)]at h;exact h) fun c4 ac=>?_
  refine Xc Z (zX (c:=a8) 1 (by omega) c4 (bU.le (P.trans ac)).vec (ao.Zo (by omega))) fun dY au=>?_
  have c5:=(((((((((((((((((cC.trans aG).trans ap).trans U).trans V).trans Ja).trans K).trans N).trans X).trans aq).trans aH).trans ar).trans Y).trans aa).trans Jb).trans O).trans P).trans ac).trans au
  refine Xq 1 Z (dF (fun h=>h Z)) (Xx 1 Z (Cf Z (WC.skip (E.jD (E.iM (Rg (Yn 1 Z (Wa (.as (.add Z Z (by decide)) Z) Z (Yn 1 Z ?_)))))))))
  refine W.nil (E.round (uo.step (Sq (Sr (Yq 2 Z (show _=false from by first|decide|rfl) (Nx (Cf Z (WC.exit (E.jW ?_)))))))))
  refine E.jW (E.rQ (E.jD (E.iM (Rg (Yn 1 Z (Yp Z (Yn 1 Z (W.nil ?_))))))))
  have c6:=(bQ.le (aH.trans (ar.trans (Y.trans (aa.trans (Jb.trans (O.trans (P.trans (ac.trans au)))))))))
  have c7:=(bV.le (ac.trans au))
  refine E.again (k+1,e,(jo C L d),ai,u,m,aj) (.of Z) ?_ ?_
  ·exact⟨by omega,Q,(hD.agX hB (by omega) hd),co,y,c5,by have:=ci;have:=aG.size;have:=ap.size;have:=U.size;have:=V.size;have:=Ja.size;have:=K.size;have:=N.size;have:=X.size;have:=aq.size;have:=aH.size;have:=ar.size;have:=Y.size;have:=aa.size;have:=Jb.size;have:=O.size;have:=P.size;have:=ac.size;have:=au.size;have:=cD;have:=bc.size;have:=aJ.size;have:=bd.size;have:=az.size;have:=aR.size;have:=aA.size;have:=aB.size;omega,c6,c7,cB⟩
  first|omega|(simp only[];omega)
 refine Cn Z (dF c2) ?_
 have hkn:k=nd:=by omega
 refine Ex (Sq (WC.draw [0,1,2,3,4,5,6,7,9,10,11,12,13,14,15,16,17,8,18,19,20] mixed (by kernel_rfl) fun dZ ba=>?_))
 have c8:=(aT.le ba)
 obtain⟨c9,d0,bW⟩:=id c8;obtain⟨d1,d2,bX⟩:=id (bW.s 0 (by omega))
 have bY:=(bX.l 0 (by omega)).vec;rw[hQ.lg (by omega)]at bY;have d3:=bY.1
 refine Xn 3 Z ?_
 have bZ:=(aU.le ba)
 refine Xc Z (by have h:=Im (s:=ld) bZ;rw[hR.lost]at h;exact h) fun d4 av=>?_
 refine Xq 1 Z (show _=true from by first|decide|rfl) (Xn 6 Z (Xi 0 Z (Xk (.pointer (some ⟨(c9.gs 0),0,none⟩)) Z (bW.b.le av) Z (Xn 3 Z (Xk (J (((tk.z 0).ch).am)) Z (bX.b.le av) Z (Xc Z (by have h:=Kb (s:=ld) (bZ.le av);rw[hR.total]at h;exact h) fun d5 b0=>?_))))))
 refine Xq 1 Z (dT (by rw[hQ.ch (by decide)];exact hD.rs.tot)) (Xx 2 Z (Re Z Z ?_))
 exact⟨rfl,(((aS.trans ba).trans av).trans b0)⟩
theorem Jc (p:CW)(hp:vO p){Ad:Option Addr}{nd cd:Nat}{ds:List KD}(w:World)(hDs:Vec w FH 4 Ad nd ds)(hof:∀d∈ds,zB d)(hT:C8 w):Calls prog 3 #[.agg (vz p).toArray,.slice Ad nd cd] w fun r w'=>r= .returned (.bool true)/\Le w w':=by
 by_cases h:(CB p).Zc
 ·exact FI p hp Z w hDs hof hT h
 ·exact I9 p hp Z w hDs hof hT h
end Go.Proofs.YtkpmaajniagncaaGreatDoor
