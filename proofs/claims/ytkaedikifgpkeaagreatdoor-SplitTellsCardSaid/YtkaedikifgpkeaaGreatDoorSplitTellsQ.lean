/- SplitTells: for every input the law answers true and leaves its arguments as they were. -/
import Derived.Test.YtkaedikifgpkeaaGreatDoorSplitTellsP
set_option linter.unusedVariables false
set_option linter.unusedSimpArgs false
namespace Go.Proofs.YtkaedikifgpkeaaGreatDoor
open Tryz
open Go Go.Sx Go.Num Go.fO Go.oF Go.uI Go.tH
set_option maxRecDepth 20000
set_option maxHeartbeats 4000000
theorem Gq {d:Nat}:(eP (gY 0 1).n).length<=1/\(eP (gY 0 1).d).length<=1:=by
  rw[yN (by decide)]
  exact⟨gJ (by decide),gJ (by decide)⟩
theorem Dh {p q:Nat}(hok:okF ⟨p,q⟩):0<kQ (fE (⟨p,q⟩:Fr)) (fE (⟨(gY 0 1).n,(gY 0 1).d⟩:Fr))↔p≠0:=by
  have e:(⟨(gY 0 1).n,(gY 0 1).d⟩:Fr)=⟨0,1⟩:=yN (by decide)
  rw[e,qM hok,show fE ⟨0,1⟩=⟨0,1⟩from by decide,G9]
  unfold SC
  simp only[Nat.zero_mul,Nat.mul_one]
  omega
def Xr (b:FB)(Aw:Option Addr)(cw:Nat)(An:Option Addr)(cn:Nat)(Ad:Option Addr)(cd:Nat):Value:= .agg #[.slice Aw b.1.way.length cw,.slice An (eP b.1.fQ.n).length cn,.slice Ad (eP b.1.fQ.d).length cd,.int .i64 b.1.sent,.bool b.2]
def Oy (w:World)(bs:Nat)(b:FB)(Aw:Option Addr)(cw:Nat)(An:Option Addr)(cn:Nat)(Ad:Option Addr)(cd:Nat):Prop:=
  eU w bs 66 fD 9 Aw b.1.way.length cw b.1.way/\eU w bs 143 dv 1 An (eP b.1.fQ.n).length cn (eP b.1.fQ.n)/\eU w bs 143 dv 1 Ad (eP b.1.fQ.d).length cd (eP b.1.fQ.d)/\b.1.way.length<=8/\(eP b.1.fQ.n).length<=100/\(eP b.1.fQ.d).length<=100
def RL (w:World)(bs:Nat)(b:FB)(r:Ending):Prop:=∃Aw cw An cn Ad cd,r= .returned (Xr b Aw cw An cn Ad cd)/\Oy w bs b Aw cw An cn Ad cd
theorem Oz {g:List fO.Edge}{m:MF}{to a x:Int}{k:Nat}{way:List fO.Edge}{b:FB}(h:GV way=to)(h1:ES m a x way b):jR g m to a x (k+1) way b=(fo m a x way,true):=by unfold jR;rw[if_pos h,if_pos h1]
theorem OA {g:List fO.Edge}{m:MF}{to a x:Int}{k:Nat}{way:List fO.Edge}{b:FB}(h:GV way=to)(h1:¬ES m a x way b):jR g m to a x (k+1) way b=b:=by unfold jR;rw[if_pos h,if_neg h1]
theorem RN {g:List fO.Edge}{m:MF}{to a x:Int}{k:Nat}{way:List fO.Edge}{b:FB}(h:¬GV way=to):jR g m to a x (k+1) way b=g.foldl (Jm (jR g m to a x k) way) b:=by rw[jR,if_neg h]
theorem sQ {α:Type}{f:FB->α->FB}{b:FB}{l:List α}{z:α}{k:Nat}(hk:k<l.length):(l.take (k+1)).foldl f b=f ((l.take k).foldl f b) (l.getD k z):=by
  rw[List.take_add_one,List.foldl_append]
  simp[List.getD,hk]
theorem Gs {bs base gp ng cg:Nat}{F:Nat->Prop}{s:MF×Nat}{Ag:Option Addr}{g:List fO.Edge}{to a x:Int}{k:Nat}{A:Option Addr}{n c:Nat}{way:List fO.Edge}{b:FB}{Aw An Ad:Option Addr}{cw cn cd:Nat}(w:World)(hP:ib w base gp F s)(hN:s.2<=100000)(hg:Vec w fD 9 Ag ng g)(R8:ng<=1000000)(ih:∀(Gj:List fO.Edge) {A':Option Addr} {n' c':Nat} (b':FB) {Aw' An' Ad':Option Addr} {cw' cn' cd':Nat} (w1:World),Le w w1->eU w1 bs 66 fD 9 A' n' c' Gj->n'+k=9->1<=k->Oy w1 bs b' Aw' cw' An' cn' Ad' cd'->Calls prog 86 #[.slice Ag ng cg,.pointer (some ⟨gp,0,none⟩),.slice A' n' c',.int .i64 to,.int .i64 a,.int .i64 x,Xr b' Aw' cw' An' cn' Ad' cd'] w1 fun r w2=>RL w2 bs (jR g s.1 to a x k Gj b') r/\Le w1 w2)(Gl:bs<=w.heap.size)(hW:eU w bs 66 fD 9 A n c way)(hnk:n+k=8)(hn1:1<=n)(hB:Oy w bs b Aw cw An cn Ad cd):Calls prog 86 #[.slice Ag ng cg,.pointer (some ⟨gp,0,none⟩),.slice A n c,.int .i64 to,.int .i64 a,.int .i64 x,.agg #[.slice Aw b.1.way.length cw,.slice An ((eP b.1.fQ.n).length) cn,.slice Ad ((eP b.1.fQ.d).length) cd,.int .i64 b.1.sent,.bool (b.2)]] w fun r w'=>RL w' bs (jR g s.1 to a x (k+1) way b) r/\Le w w':=by
 obtain⟨hBw,OL,hBd,hBl⟩:=hB
 have hgm:=hP.good
 have hol:=yK hgm way a x
 have hwl:=hW.vec.1
 have hgl:=hg.1
 have cL:=Gq (d:=0)
 refine enter func86 rfl rfl ?_
 have L0:=Le.refl w
 refine Sr (W.ef rfl rfl rfl (Ef.iM rfl fun ah bH a4 (ai:fA bH ah 138 #[.slice Aw b.1.way.length cw,.slice An ((eP b.1.fQ.n).length) cn,.slice Ad ((eP b.1.fQ.d).length) cd,.int .i64 b.1.sent,.bool (b.2)]) D=>?_))
 have L1:=L0.trans D
 refine W.ef rfl rfl rfl (Ef.fI z138 fun Y aI aJ (ae:fA aI Y 138 #[.slice none 0 0,.slice none 0 0,.slice none 0 0,.int .i64 0,.bool false]) C=>?_)
 have L2:=L1.trans C
 refine Nx (Sr (Wn 2 rfl (Wr (.len underlying22 rfl) rfl (Wa (.sub rfl rfl (by omega)) rfl (Wa (.fV (n-1) underlying22 iI rfl rfl (hW.vec.isSome eQ (by omega)) (by omega) (by omega)) rfl (Wa (.gH jK (hW.vec.isSome eQ (by omega)) rfl) rfl ?_))))))
 have f3:=(hW.le (D.trans C))
 refine Wr (.ik (j:=(n-1)) (o:=1) (v:= .int .i64 ((way.getD (n-1) eO).t)) gM rfl f3.vec eQ (gD way eO (by omega)) rfl) rfl (Wn 1 rfl (Nx (Sq (Sr (Wn 3 rfl (Nx ?_))))))
 by_cases c0:((way.getD (n-1) eO).t)=to
 ·refine Cy rfl (dT c0) (Sr (Wn 4 rfl (W.cl YZ rfl rfl (KO (c:=c) a x aI (hP.le (D.trans C)) f3.vec (by omega) (by omega)) ?_)))
  rintro _ cM ⟨al,am,an,ao,rfl,au,av,m⟩
  have L5:=L2.trans m
  refine Wn 1 rfl (Wa (.extract (v:= .agg #[.slice al ((eP ((fM s.1 way a x).1.n)).length) am,.slice an ((eP ((fM s.1 way a x).1.d)).length) ao]) rfl rfl) rfl (Wn 2 rfl (W.ef rfl rfl rfl (Ef.fI z37 fun a5 bI bJ (bK:fA bI a5 37 #[.slice none 0 0,.slice none 0 0]) u=>(W.sA gV rfl rfl bK ?_)))))
  intro a6 aw y
  have aw:fA a6 a5 37 #[.slice al ((eP ((fM s.1 way a x).1.n)).length) am,.slice an ((eP ((fM s.1 way a x).1.d)).length) ao]:=aw
  refine Wn 2 rfl (Nx (Sr (W.cl Tv rfl rfl (AX 0 1 a6 (by omega) (by omega) (by omega)) ?_)))
  rintro _ cN ⟨a7,a8,a9,ba,rfl,aK,aL,i⟩
  have L8:=((L5.trans u).tb y L5 bJ).trans i
  refine Wn 1 rfl (Wa (.extract (v:= .agg #[.slice a7 ((eP ((gY 0 1).n)).length) a8,.slice a9 ((eP ((gY 0 1).d)).length) ba]) rfl rfl) rfl (Wn 1 rfl (W.ef rfl rfl rfl (Ef.fI z37 fun bb bL bM (bN:fA bL bb 37 #[.slice none 0 0,.slice none 0 0]) H=>(W.sA gV rfl rfl bN ?_)))))
  intro bO ax I
  have ax:fA bO bb 37 #[.slice a7 ((eP ((gY 0 1).n)).length) a8,.slice a9 ((eP ((gY 0 1).d)).length) ba]:=ax
  have bc:=(L8.trans H).tb I L8 bM
  refine Wn 1 rfl (Nx (Sr (Wn 1 rfl ?_)))
  have aM:=((aw.le (i.trans H)).cn I (by have:=aw.lt;have:=i.size;omega))
  refine Wr (.fB gQ (by rfl) rfl aM) rfl ?_
  refine Wn 1 rfl (Wa (.gF [.slice A n c,.slice al ((eP ((fM s.1 way a x).1.n)).length) am,.slice an ((eP ((fM s.1 way a x).1.d)).length) ao,.int .i64 ((fM s.1 way a x).2.1),.bool true] Zw z138 rfl rfl) rfl (W.ef rfl rfl rfl (Ef.fI z138 fun bd bP bQ (bR:fA bP bd 138 #[.slice none 0 0,.slice none 0 0,.slice none 0 0,.int .i64 0,.bool false]) S=>(W.sA BQ rfl rfl bR ?_))))
  intro aO aP T
  have aP:fA aO bd 138 #[.slice A n c,.slice al ((eP ((fM s.1 way a x).1.n)).length) am,.slice an ((eP ((fM s.1 way a x).1.d)).length) ao,.int .i64 ((fM s.1 way a x).2.1),.bool true]:=aP
  have be:=(bc.trans S).tb T bc bQ
  refine Nx ?_
  have aQ:=((((((ai.le (C.trans (m.trans u))).cn y (by have:=ai.lt;have:=C.size;have:=m.size;omega)).le (i.trans H)).cn I (by have:=ai.lt;have:=C.size;have:=m.size;have:=u.size;have:=y.size;have:=i.size;omega)).le S).cn T (by have:=ai.lt;have:=C.size;have:=m.size;have:=u.size;have:=y.size;have:=i.size;have:=H.size;have:=I.size;omega))
  have aR:=((((((hBw.le (D.trans (C.trans (m.trans u)))).cb y (hBw.rn (by have:=D.size;have:=C.size;have:=m.size;omega))).le (i.trans H)).cb I (hBw.rn (by have:=D.size;have:=C.size;have:=m.size;have:=u.size;have:=y.size;have:=i.size;omega))).le S).cb T (hBw.rn (by have:=D.size;have:=C.size;have:=m.size;have:=u.size;have:=y.size;have:=i.size;have:=H.size;have:=I.size;omega)))
  have aS:=((((((OL.le (D.trans (C.trans (m.trans u)))).cb y (OL.rn (by have:=D.size;have:=C.size;have:=m.size;omega))).le (i.trans H)).cb I (OL.rn (by have:=D.size;have:=C.size;have:=m.size;have:=u.size;have:=y.size;have:=i.size;omega))).le S).cb T (OL.rn (by have:=D.size;have:=C.size;have:=m.size;have:=u.size;have:=y.size;have:=i.size;have:=H.size;have:=I.size;omega)))
  have aT:=((((((hBd.le (D.trans (C.trans (m.trans u)))).cb y (hBd.rn (by have:=D.size;have:=C.size;have:=m.size;omega))).le (i.trans H)).cb I (hBd.rn (by have:=D.size;have:=C.size;have:=m.size;have:=u.size;have:=y.size;have:=i.size;omega))).le S).cb T (hBd.rn (by have:=D.size;have:=C.size;have:=m.size;have:=u.size;have:=y.size;have:=i.size;have:=H.size;have:=I.size;omega)))
  have ay:=((((((ae.le (m.trans u)).cn y (by have:=ae.lt;have:=m.size;omega)).le (i.trans H)).cn I (by have:=ae.lt;have:=m.size;have:=u.size;have:=y.size;have:=i.size;omega)).le S).cn T (by have:=ae.lt;have:=m.size;have:=u.size;have:=y.size;have:=i.size;have:=H.size;have:=I.size;omega))
  refine WC.cut (ι:=Unit) (fun _u=>[(13,.pointer (some ⟨ah,0,none⟩)),(14,.pointer (some ⟨Y,0,none⟩))]) (fun _u Z=>(((((fM s.1 way a x).2.2)=0)/\(0<(kQ (fE (⟨((fM s.1 way a x).1.n),((fM s.1 way a x).1.d)⟩:Fr)) (fE (⟨((gY 0 1).n),((gY 0 1).d)⟩:Fr))))/\¬((tJ (⟨way,⟨((fM s.1 way a x).1.n),((fM s.1 way a x).1.d)⟩,(fM s.1 way a x).2.1⟩:kY) ((⟨b.1.way,⟨b.1.fQ.n,b.1.fQ.d⟩,b.1.sent⟩:kY),b.2))=true))\/((((fM s.1 way a x).2.2)=0)/\¬(0<(kQ (fE (⟨((fM s.1 way a x).1.n),((fM s.1 way a x).1.d)⟩:Fr)) (fE (⟨((gY 0 1).n),((gY 0 1).d)⟩:Fr)))))\/(¬(((fM s.1 way a x).2.2)=0)))/\Le w Z/\aO.heap.size<=Z.heap.size/\fA Z ah 138 #[.slice Aw b.1.way.length cw,.slice An ((eP b.1.fQ.n).length) cn,.slice Ad ((eP b.1.fQ.d).length) cd,.int .i64 b.1.sent,.bool (b.2)]/\eU Z bs 66 fD 9 Aw b.1.way.length cw b.1.way/\eU Z bs 143 dv 1 An ((eP b.1.fQ.n).length) cn (eP b.1.fQ.n)/\eU Z bs 143 dv 1 Ad ((eP b.1.fQ.d).length) cd (eP b.1.fQ.d)/\fA Z Y 138 #[.slice none 0 0,.slice none 0 0,.slice none 0 0,.int .i64 0,.bool false]) ?_ ?_
  ·refine Sr (Wn 2 rfl ?_)
   by_cases ap:((fM s.1 way a x).2.2)=0
   ·refine Dt ap rfl rfl (Wg (.fB gQ (by rfl) rfl ((aM.le S).cn T (by have:=aM.lt;omega))) rfl ?_)
    refine Wg (.fB gQ (by rfl) rfl ((ax.le S).cn T (by have:=ax.lt;omega))) rfl ?_
    have aU:=((((((au.le u).cb y (au.rn (by omega))).le (i.trans H)).cb I (au.rn (by have:=u.size;have:=y.size;have:=i.size;omega))).le S).cb T (au.rn (by have:=u.size;have:=y.size;have:=i.size;have:=H.size;have:=I.size;omega)))
    have aV:=((((((av.le u).cb y (av.rn (by omega))).le (i.trans H)).cb I (av.rn (by have:=u.size;have:=y.size;have:=i.size;omega))).le S).cb T (av.rn (by have:=u.size;have:=y.size;have:=i.size;have:=H.size;have:=I.size;omega)))
    have bf:=((((aK.le H).cb I (aK.rn (by omega))).le S).cb T (aK.rn (by have:=H.size;have:=I.size;omega)))
    have bg:=((((aL.le H).cb I (aL.rn (by omega))).le S).cb T (aL.rn (by have:=H.size;have:=I.size;omega)))
    refine W.mW rfl rfl rfl rfl rfl rfl (Ef.call WE rfl rfl (CV aO aU.vec aV.vec (by omega) (by omega) aU.cap.1 aV.cap.1 bf.vec bg.vec (by omega) (by omega) bf.cap.1 bg.cap.1) ?_)
    rintro _ bS ⟨rfl,K⟩
    refine⟨_,rfl,?_⟩
    have bh:=be.trans K
    refine Wn 2 rfl ?_
    by_cases az:0<(kQ (fE (⟨((fM s.1 way a x).1.n),((fM s.1 way a x).1.d)⟩:Fr)) (fE (⟨((gY 0 1).n),((gY 0 1).d)⟩:Fr)))
    ·refine Dt az rfl rfl ?_
     have bi:=(aP.le K)
     refine Wg (.fB vR (by rfl) rfl bi) rfl ?_
     have bj:=(aQ.le K)
     refine Wg (.fB vR (by rfl) rfl bj) rfl ?_
     have bl:=(((((((f3.le (m.trans u)).cb y (f3.rn (by have:=m.size;omega))).le (i.trans H)).cb I (f3.rn (by have:=m.size;have:=u.size;have:=y.size;have:=i.size;omega))).le S).cb T (f3.rn (by have:=m.size;have:=u.size;have:=y.size;have:=i.size;have:=H.size;have:=I.size;omega))).le K)
     have aA:=(aU.le K)
     have aB:=(aV.le K)
     have bm:=(aR.le K)
     have aW:=(aS.le K)
     have aX:=(aT.le K)
     refine W.mW rfl rfl rfl rfl rfl rfl (Ef.call Y0 rfl rfl (Gi (z1:=true) (z2:=b.2) bS bl.vec aA.vec aB.vec (by omega) (by omega) (by omega) aA.cap.1 aB.cap.1 bm.vec aW.vec aX.vec (by omega) (by omega) (by omega) aW.cap.1 aX.cap.1) ?_)
     rintro _ cO ⟨rfl,U⟩
     refine⟨_,rfl,?_⟩
     have bn:=bh.trans U
     refine Wn 1 rfl (Nx ?_)
     by_cases c1:(tJ (⟨way,⟨((fM s.1 way a x).1.n),((fM s.1 way a x).1.d)⟩,(fM s.1 way a x).2.1⟩:kY) ((⟨b.1.way,⟨b.1.fQ.n,b.1.fQ.d⟩,b.1.sent⟩:kY),b.2))=true
     ·refine Cy rfl c1 (Sr (Wr (.fB vR (by rfl) rfl (bi.le U)) rfl ?_))
      refine W.sA BQ rfl rfl (ay.le (K.trans U)) ?_
      intro bT aY aC
      have aY:fA bT Y 138 #[.slice A n c,.slice al ((eP ((fM s.1 way a x).1.n)).length) am,.slice an ((eP ((fM s.1 way a x).1.d)).length) ao,.int .i64 ((fM s.1 way a x).2.1),.bool true]:=aY
      refine Nx (Rt (E.eX (E.eX (E.fu rfl (iB rfl aY vR (by rfl)) ?_))))
      have hlk:jR g s.1 to a x (k+1) way b=(fo s.1 a x way,true):=Oz (by rw[<-hwl]at c0;exact c0:GV way=to) (⟨by assumption,(Dh (qj (by assumption))).1 (by assumption),by assumption⟩:ES s.1 a x way b)
      rw[hlk]
      subst hwl
      exact⟨⟨_,_,_,_,_,_,rfl,((bl.le U).cb aC (hW.rn (by have:=D.size;omega))),(((aA.le U).cb aC (aA.rl (by have:=ae.lt;omega))).mono (Nat.le_trans Gl L2.size)),(((aB.le U).cb aC (aB.rl (by have:=ae.lt;omega))).mono (Nat.le_trans Gl L2.size)),(show way.length<=8 by omega),hol.1,hol.2⟩,(bn.tb aC L1 aJ)⟩
     refine Cn rfl (Bool.eq_false_iff.2 c1) (WC.skip (E.meet () (.of rfl) ?_))
     exact⟨Or.inl ⟨ap,az,c1⟩,bn,by have:=K.size;have:=U.size;omega,(bj.le U),(bm.le U),(aW.le U),(aX.le U),(ay.le (K.trans U))⟩
    refine Df az rfl rfl (Wn 4 rfl (Nx (WC.iD rfl (WC.skip (E.meet () (.of rfl) ?_)))))
    exact⟨Or.inr (Or.inl ⟨ap,az⟩),bh,by have:=K.size;omega,(aQ.le K),(aR.le K),(aS.le K),(aT.le K),(ay.le K)⟩
   refine Df ap rfl rfl (Wn 10 rfl (Nx (WC.iD rfl (WC.skip (E.meet () (.of rfl) ?_)))))
   exact⟨Or.inr (Or.inr ap),be,Nat.le_refl _,aQ,aR,aS,aT,ay⟩
  rintro _u Z ⟨bU,bV,cP,bW,bX,bY,bZ,b0⟩
  refine Sr (Wr (.fB vR (by rfl) rfl bW) rfl ?_)
  refine W.sA BQ rfl rfl b0 ?_
  intro b1 aZ aE
  have aZ:fA b1 Y 138 #[.slice Aw b.1.way.length cw,.slice An ((eP b.1.fQ.n).length) cn,.slice Ad ((eP b.1.fQ.d).length) cd,.int .i64 b.1.sent,.bool (b.2)]:=aZ
  refine Nx (Rt (E.eX (E.fu rfl (iB rfl aZ vR (by rfl)) ?_)))
  have hlk:jR g s.1 to a x (k+1) way b=b:=OA (by rw[<-hwl]at c0;exact c0:GV way=to) (fun ht=>by first|exact absurd ht.1 (by assumption)|exact absurd ((Dh (qj ht.1)).2 ht.2.1) (by assumption)|exact absurd ht.2.2 (by assumption)|exact bU.elim (fun h=>absurd ht.2.2 h.2.2) fun h=>h.elim (fun h=>absurd ((Dh (qj ht.1)).2 ht.2.1) h.2) fun h=>absurd ht.1 h)
  rw[hlk]
  exact⟨⟨_,_,_,_,_,_,rfl,(bX.cb aE (hBw.rn (by have:=D.size;omega))),(bY.cb aE (OL.rn (by have:=D.size;omega))),(bZ.cb aE (hBd.rn (by have:=D.size;omega))),hBl⟩,(bV.tb aE L1 aJ)⟩
 refine Cn rfl (dF c0) (Sn (Sq (Sr (Wn 1 rfl (Nx (WC.block ?_))))))
 refine WC.loop (ι:=Nat×FB×(Option Addr)×Nat×(Option Addr)×Nat×(Option Addr)×Nat) (fun⟨j,bk,Ax,cx,Ay,cy,Az,cz⟩=>[(0,.slice Ag ng cg),(1,.pointer (some ⟨gp,0,none⟩)),(2,.slice A n c),(3,.int .i64 to),(4,.int .i64 a),(5,.int .i64 x),(13,.pointer (some ⟨ah,0,none⟩)),(14,.pointer (some ⟨Y,0,none⟩)),(22,.int .i64 ((j:Nat):Int))]) (fun⟨j,bk,Ax,cx,Ay,cy,Az,cz⟩ V=>(j<=g.length)/\(bk=(g.take j).foldl (Jm (jR g s.1 to a x k) way) b)/\(bk.1.way.length<=8/\(eP bk.1.fQ.n).length<=100/\(eP bk.1.fQ.d).length<=100)/\Le w V/\aI.heap.size<=V.heap.size/\ib V base gp F s/\eU V bs 66 fD 9 A n c way/\fA V ah 138 #[.slice Ax bk.1.way.length cx,.slice Ay ((eP bk.1.fQ.n).length) cy,.slice Az ((eP bk.1.fQ.d).length) cz,.int .i64 bk.1.sent,.bool (bk.2)]/\eU V bs 66 fD 9 Ax bk.1.way.length cx bk.1.way/\eU V bs 143 dv 1 Ay ((eP bk.1.fQ.n).length) cy (eP bk.1.fQ.n)/\eU V bs 143 dv 1 Az ((eP bk.1.fQ.d).length) cz (eP bk.1.fQ.d)/\fA V Y 138 #[.slice none 0 0,.slice none 0 0,.slice none 0 0,.int .i64 0,.bool false]) (fun⟨j,bk,Ax,cx,Ay,cy,Az,cz⟩=>g.length-j) (0,b,Aw,cw,An,cn,Ad,cd) ?_ ?_ ?_
 ·exact .of rfl
 ·exact⟨Nat.zero_le _,rfl,hBl,L2,Nat.le_refl _,(hP.le (D.trans C)),f3,(ai.le C),(hBw.le (D.trans C)),(OL.le (D.trans C)),(hBd.le (D.trans C)),ae⟩
 rintro⟨j,bk,Ax,cx,Ay,cy,Az,cz⟩ V ⟨hj,hbk,hbl,aq,bo,aj,ar,af,aa,ab,ac,X⟩
 refine Sq (Sr (Wn 2 rfl (Wr (.len underlying22 rfl) rfl (Wn 1 rfl (Nx ?_)))))
 by_cases c2:((j:Nat):Int)<((ng:Nat):Int)
 ·refine Cy rfl (dT c2) (Sn (Sq (WC.block (Sr (W.ef rfl rfl rfl (Ef.kU underlying22 zw fun b2 b3 cQ cR L=>?_))))))
  have Q:eU b3 V.heap.size 66 fD 9 (some ⟨b2,0,none⟩) 0 0 []:=eU.nil _ _ _ _ _ _
  refine Wn 1 rfl ?_
  have a0:=(ar.le L)
  refine W.ef rfl rfl rfl (Ef.Nu underlying22 zw underlying22 eQ rfl Q rfl a0.vec (by omega) (by unfold maxLen;omega) (by have:=L.size;omega) ?_)
  intro cS cT b4 b5 N cU
  have bp:=(aq.trans L).gG N (fun q hq=>Nat.le_trans aq.size (Q.row hq).1)
  have b6:=b5.cast (m':=(0+n)) (ys:=way) rfl (List.nil_append _)
  refine Wn 1 rfl (Nx (Sr (Wn 3 rfl (Wa (.fV j underlying22 iI rfl rfl (hg.isSome eQ (by omega)) rfl (by omega)) rfl (Wr (.j5 iJ rfl (hg.le bp) eQ (gD g eO (by omega))) rfl (W.ef rfl rfl rfl (Ef.gq (len:=1) [_] underlying22 zw rfl (by simp[Value.cells,eQ.len]) rfl (by decide) (by decide) ?_)))))))
  intro bq bt b7 aF J
  have aF:fA bt bq 66 (([g.getD j eO]).map fD).flatten.toArray:=aF
  have cV:eU bt b4.heap.size 66 fD 9 (some ⟨bq,0,none⟩) 1 1 ([g.getD j eO]):=aF.kL b7 eQ rfl rfl (by decide)
  have R:=(b6.le J)
  refine W.ef rfl rfl rfl (Ef.mP (a:=(g.getD j eO)) underlying22 zw underlying22 eQ rfl R rfl aF (by omega) (by unfold maxLen;omega) (by have:=L.size;have:=N.size;have:=J.size;omega) ?_)
  intro cW cX b8 b9 P cY
  have bu:=b9.cast (m':=((0+n)+1)) (ys:=(way++[(g.getD j eO)])) rfl rfl
  refine Wn 1 rfl (Nx (Sr (Wn 1 rfl (W.cl YC rfl rfl (Ew b8 bu.vec (by omega)) ?_))))
  rintro _ bv ⟨rfl,O⟩
  have a1:=((bp.trans J).gG P (fun q hq=>Nat.le_trans aq.size (R.row hq).1)).trans O
  refine Wn 1 rfl (Nx (Sr (Wn 1 rfl (Nx ?_))))
  by_cases c3:(nH (way++[(g.getD j eO)]))=true
  ·refine Cy rfl c3 ?_
   have hwg:=kZ (by assumption:nH (way++[(g.getD j eO)])=true)
   rw[List.length_append,List.length_singleton]at hwg
   refine WC.region (Wn 6 rfl ?_)
   have bw:=(((((af.le L).ch N (Q.rl (by have:=af.lt;omega))).le J).ch P (R.rl (by have:=af.lt;omega))).le O)
   refine Wr (.fB vR (by rfl) rfl bw) rfl ?_
   have ca:=(bu.le O)
   have cc:=(((((aa.le L).ch N (Apart.symm (fun q e f=>by have:=(aa.row e).2;have:=(Q.row f).1;omega))).le J).ch P (Apart.symm (fun q e f=>by have:=(aa.row e).2;have:=(R.row f).1;omega))).le O)
   have ce:=(((((ab.le L).ch N (Apart.symm (fun q e f=>by have:=(ab.row e).2;have:=(Q.row f).1;omega))).le J).ch P (Apart.symm (fun q e f=>by have:=(ab.row e).2;have:=(R.row f).1;omega))).le O)
   have cf:=(((((ac.le L).ch N (Apart.symm (fun q e f=>by have:=(ac.row e).2;have:=(Q.row f).1;omega))).le J).ch P (Apart.symm (fun q e f=>by have:=(ac.row e).2;have:=(R.row f).1;omega))).le O)
   have ci:Oy bv bs bk _ _ _ _ _ _:=⟨cc,ce,cf,hbl⟩
   have cj:=ih (way++[(g.getD j eO)]) bk bv a1 (ca.mono (Nat.le_trans Gl aq.size)) (by omega) (by omega) ci
   refine W.cl YA rfl rfl cj ?_
   rintro _ cZ ⟨⟨bx,bz,bA,bB,bC,bD,rfl,bE,bF,bG,ck,cm,co⟩,ak⟩
   have aG:=(bw.le ak)
   refine W.sA BQ rfl rfl aG ?_
   intro cp a2 ad
   have a2:fA cp ah 138 #[.slice bx ((jR g s.1 to a x k (way++[(g.getD j eO)]) bk).1.way.length) bz,.slice bA ((eP (jR g s.1 to a x k (way++[(g.getD j eO)]) bk).1.fQ.n).length) bB,.slice bC ((eP (jR g s.1 to a x k (way++[(g.getD j eO)]) bk).1.fQ.d).length) bD,.int .i64 ((jR g s.1 to a x k (way++[(g.getD j eO)]) bk).1.sent),.bool ((jR g s.1 to a x k (way++[(g.getD j eO)]) bk).2)]:=a2
   refine W.nil (E.gI (E.eY (WC.region (Wn 1 rfl (Wa (.add rfl rfl (by omega)) rfl (Wn 1 rfl (W.nil ?_)))))))
   have cq:=((((((aj.le L).ch N (fun q hqq hF=>by have:=(Q.row hqq).1;have:=aj.lt hF;omega)).le J).ch P (fun q hqq hF=>by have:=(R.row hqq).1;have:=aj.lt hF;omega)).le (O.trans ak)).ch ad (fun q hqq hF=>by cases hqq;have:=hP.lt hF;have:=a4;omega))
   have cr:=(((((a0.ch N (Apart.symm (fun q e f=>by have:=(ar.row e).2;have:=(Q.row f).1;omega))).le J).ch P (Apart.symm (fun q e f=>by have:=(ar.row e).2;have:=(R.row f).1;omega))).le (O.trans ak)).cb ad (hW.rn (by omega)))
   have cs:=(bE.ch ad (fun q hq=>by cases hq;exact eU.lV bE aG (by decide)))
   have ct:=(bF.ch ad (fun q hq=>by cases hq;exact eU.lV bF aG (by decide)))
   have cu:=(bG.ch ad (fun q hq=>by cases hq;exact eU.lV bG aG (by decide)))
   have cv:=((((((X.le L).ch N (Q.rl (by have:=X.lt;omega))).le J).ch P (R.rl (by have:=X.lt;omega))).le (O.trans ak)).cn ad (by have:=ai.lt;omega))
   refine E.again (j+1,(jR g s.1 to a x k (way++[(g.getD j eO)]) bk),bx,bz,bA,bB,bC,bD) (.of rfl) ?_ ?_
   ·exact⟨by omega,(by rw[sQ (z:=eO) (l:=g) (by omega),<-hbk];exact(if_pos (by assumption)).symm),⟨ck,cm,co⟩,((a1.trans ak).tb ad L0 a4),by have:=bo;have:=L.size;have:=N.size;have:=J.size;have:=P.size;have:=O.size;have:=ak.size;have:=ad.size;omega,cq,cr,a2,cs,ct,cu,cv⟩
   first|omega|(simp only[];omega)
  refine Cn rfl (Bool.eq_false_iff.2 c3) (WC.skip (E.gI (E.eY (WC.region (Wn 1 rfl (Wa (.add rfl rfl (by omega)) rfl (Wn 1 rfl (W.nil ?_))))))))
  have cA:=(((((aj.le L).ch N (fun q hqq hF=>by have:=(Q.row hqq).1;have:=aj.lt hF;omega)).le J).ch P (fun q hqq hF=>by have:=(R.row hqq).1;have:=aj.lt hF;omega)).le O)
  have cB:=((((a0.ch N (Apart.symm (fun q e f=>by have:=(ar.row e).2;have:=(Q.row f).1;omega))).le J).ch P (Apart.symm (fun q e f=>by have:=(ar.row e).2;have:=(R.row f).1;omega))).le O)
  have cC:=(((((af.le L).ch N (Q.rl (by have:=af.lt;omega))).le J).ch P (R.rl (by have:=af.lt;omega))).le O)
  have cD:=(((((aa.le L).ch N (Apart.symm (fun q e f=>by have:=(aa.row e).2;have:=(Q.row f).1;omega))).le J).ch P (Apart.symm (fun q e f=>by have:=(aa.row e).2;have:=(R.row f).1;omega))).le O)
  have cE:=(((((ab.le L).ch N (Apart.symm (fun q e f=>by have:=(ab.row e).2;have:=(Q.row f).1;omega))).le J).ch P (Apart.symm (fun q e f=>by have:=(ab.row e).2;have:=(R.row f).1;omega))).le O)
  have cF:=(((((ac.le L).ch N (Apart.symm (fun q e f=>by have:=(ac.row e).2;have:=(Q.row f).1;omega))).le J).ch P (Apart.symm (fun q e f=>by have:=(ac.row e).2;have:=(R.row f).1;omega))).le O)
  have cG:=(((((X.le L).ch N (Q.rl (by have:=X.lt;omega))).le J).ch P (R.rl (by have:=X.lt;omega))).le O)
  refine E.again (j+1,bk,Ax,cx,Ay,cy,Az,cz) (.of rfl) ?_ ?_
  ·exact⟨by omega,(by rw[sQ (z:=eO) (l:=g) (by omega),<-hbk];exact(if_neg (by assumption)).symm),hbl,a1,by have:=bo;have:=L.size;have:=N.size;have:=J.size;have:=P.size;have:=O.size;omega,cA,cB,cC,cD,cE,cF,cG⟩
  first|omega|(simp only[];omega)
 refine Cn rfl (dF c2) (WC.exit (E.fC (E.fC (E.gW (E.eY (Sr (Wr (.fB vR (by rfl) rfl af) rfl ?_)))))))
 refine W.sA BQ rfl rfl X ?_
 intro cH a3 aH
 have a3:fA cH Y 138 #[.slice Ax bk.1.way.length cx,.slice Ay ((eP bk.1.fQ.n).length) cy,.slice Az ((eP bk.1.fQ.d).length) cz,.int .i64 bk.1.sent,.bool (bk.2)]:=a3
 refine Nx (Rt ?_)
 have cI:=(aa.ch aH (fun q hq=>by cases hq;exact eU.lV aa X (by decide)))
 have cJ:=(ab.ch aH (fun q hq=>by cases hq;exact eU.lV ab X (by decide)))
 have cK:=(ac.ch aH (fun q hq=>by cases hq;exact eU.lV ac X (by decide)))
 refine E.fu rfl (iB rfl a3 vR (by rfl)) ?_
 have Td:j=g.length:=(by omega)
 have hlk:jR g s.1 to a x (k+1) way b=bk:=(by rw[RN (fun h=>c0 (by rw[<-hwl];exact h)),hbk,Td,List.take_length])
 rw[hlk]
 exact⟨⟨_,_,_,_,_,_,rfl,cI,cJ,cK,hbl⟩,(aq.tb aH L1 aJ)⟩


theorem Di {bs base gp ng cg:Nat}{F:Nat->Prop}{s:MF×Nat}{Ag:Option Addr}{g:List fO.Edge}{to a x:Int}:∀(k:Nat) (way:List fO.Edge) {A:Option Addr} {n c:Nat} (b:FB) {Aw An Ad:Option Addr} {cw cn cd:Nat} (w:World),ib w base gp F s->s.2<=100000->Vec w fD 9 Ag ng g->ng<=1000000->bs<=w.heap.size->eU w bs 66 fD 9 A n c way->n+k=9->1<=k->1<=n->Oy w bs b Aw cw An cn Ad cd->
    Calls prog 86 #[.slice Ag ng cg,.pointer (some ⟨gp,0,none⟩),.slice A n c,.int .i64 to,.int .i64 a,.int .i64 x,Xr b Aw cw An cn Ad cd] w fun r w2=>RL w2 bs (jR g s.1 to a x k way b) r/\Le w w2
  |0,_,_,_,_,_,_,_,_,_,_,_,_,_,_,_,_,_,_,_,h,_,_=>absurd h (by decide)
  |k+1,way,A,n,c,b,Aw,An,Ad,cw,cn,cd,w,hP,hN,hg,R8,hbs,hW,hnk,_,hn1,hB=>
    Gs w hP hN hg R8 (fun Gj A' n' c' b' Aw' An' Ad' cw' cn' cd' w1 hl hW' hn' hk' hB'=>Di k Gj b' w1 (hP.le hl) hN (hg.le hl) R8 (Nat.le_trans hbs hl.size) hW' hn' hk' (by omega) hB') hbs hW (by omega) hn1 hB

end Go.Proofs.YtkaedikifgpkeaaGreatDoor

namespace Go.Proofs.YtkaedikifgpkeaaGreatDoor
open Tryz
open Go Go.Sx Go.Num Go.fO Go.oF Go.uI Go.tH
set_option maxRecDepth 20000
set_option maxHeartbeats 4000000
theorem K3 {g:List fO.Edge}{m:MF}{fr to a x:Int}{b:FB}(hm:ic m)(hb:mR g fr to a x=false)(hq:b=sK g m fr to a x)(h:b.2=true):gz g m fr to a x=(b.1.way,b.1.fQ,0):=by subst hq;rw[Jp hm hb,if_pos h]
theorem K4 {g:List fO.Edge}{m:MF}{fr to a x:Int}{b:FB}(hm:ic m)(hb:mR g fr to a x=false)(hq:b=sK g m fr to a x)(h:¬b.2=true):gz g m fr to a x=([],⟨0,0⟩,19):=by subst hq;rw[Jp hm hb,if_neg h]
theorem M4 {w:World}{bs e:Nat}(h:eU w bs e dv 1 none 0 0 []):eU w bs e dv 1 none (eP 0).length 0 (eP 0):=by rw[eT];exact h
theorem UK {w:World}{gb:Nat}(h:fA w gb 138 #[.slice none 0 0,.slice none 0 0,.slice none 0 0,.int .i64 0,.bool false]):fA w gb 138 #[.slice none (((j6,false):FB).1.way.length) 0,.slice none ((eP ((j6,false):FB).1.fQ.n).length) 0,.slice none ((eP ((j6,false):FB).1.fQ.d).length) 0,.int .i64 (((j6,false):FB).1.sent),.bool (((j6,false):FB).2)]:=by
  show fA w gb 138 #[.slice none 0 0,.slice none (eP 0).length 0,.slice none (eP 0).length 0,.int .i64 0,.bool false]
  rw[eT];exact h
theorem ll {g:List fO.Edge}{fr to a x:Int}:mR g fr to a x=true↔(ko g=false\/fr<0\/11<fr\/to<0\/11<to\/fr=to\/a<1\/1125899906842624<a\/x<1\/1048576<x):=by
  unfold mR
  simp[jv]
  cases ko g<;>simp<;>omega
theorem UL {g:List fO.Edge}{fr to a x:Int}(h:ko g=true)(h1:¬(fr<0\/11<fr\/to<0\/11<to\/fr=to\/a<1\/1125899906842624<a\/x<1\/1048576<x)):mR g fr to a x=false:=by
  cases hb:mR g fr to a x
  · rfl
  · rcases ll.1 hb with q|q
    · rw[h]at q;cases q
    · exact absurd q h1
theorem lu {g:List fO.Edge}{fr to a x:Int}(h:¬ko g=true):mR g fr to a x=true:=ll.2 (.inl (by cases hh:ko g;rfl;exact absurd hh h))
theorem Dj {base gp:Nat}{F:Nat->Prop}{s:MF×Nat}(fr to a x:Int){A:Option Addr}{n c:Nat}{g:List fO.Edge}(w:World)(hP:ib w base gp F s)(hV:Vec w fD 9 A n g)(hn:n<=1000000)(hN:s.2<=100000):Calls prog 38 #[.slice A n c,.pointer (some ⟨gp,0,none⟩),.int .i64 fr,.int .i64 to,.int .i64 a,.int .i64 (x)] w fun r w'=>∃Aw cw An cn Ad cd,r= .returned (.tuple #[.slice Aw (gz g s.1 fr to a x).1.length cw,.agg #[.slice An (eP (gz g s.1 fr to a x).2.1.n).length cn,.slice Ad (eP (gz g s.1 fr to a x).2.1.d).length cd],.int .i64 (gz g s.1 fr to a x).2.2])/\eU w' w.heap.size 66 fD 9 Aw (gz g s.1 fr to a x).1.length cw (gz g s.1 fr to a x).1/\eU w' w.heap.size 143 dv 1 An (eP (gz g s.1 fr to a x).2.1.n).length cn (eP (gz g s.1 fr to a x).2.1.n)/\eU w' w.heap.size 143 dv 1 Ad (eP (gz g s.1 fr to a x).2.1.d).length cd (eP (gz g s.1 fr to a x).2.1.d)/\Le w w':=by
 have hl:=hV.1
 have hgm:=hP.good
 refine enter func38 rfl rfl ?_
 have e:=Le.refl w
 refine Sr (Wn 1 rfl (W.ef rfl rfl rfl (Ef.fI z37 fun h ap i (k:fA ap h 37 #[.slice none 0 0,.slice none 0 0]) H=>?_)))
 have L1:=e.trans H
 refine Wn 1 rfl (Nx (Sr (Wn 1 rfl (W.cl abd rfl rfl (Jl ap (hV.le L1) (by omega)) ?_))))
 rintro _ bL ⟨rfl,b⟩
 have m:=L1.trans b
 refine Wn 1 rfl (Nx (Sq (Sr (Wn 2 rfl ?_))))
 by_cases aq:(ko g)=true
 ·refine Wa (.dec (.move rfl) (congrArg not aq)) rfl (Wn 3 rfl ?_)
  by_cases ar:fr<0
  ·refine Dt ar rfl rfl (Wn 32 rfl (Nx (WC.gL rfl (Sr (Wa (.gF [.slice none 0 0,.slice none 0 0] jY z37 rfl rfl) rfl (Wn 1 rfl (W.sA gV rfl rfl (k.le b) ?_)))))))
   intro aT Y aU
   have Y:fA aT h 37 #[.slice none 0 0,.slice none 0 0]:=Y
   have L4:=m.tb aU e i
   refine Wn 1 rfl (Nx (Rt (E.eX (E.gU rfl rfl (iB rfl Y gQ (by rfl)) rfl ?_))))
   rw[iT (by first|exact lu (by assumption)|exact ll.2 (.inr (by omega)))]
   exact⟨none,0,none,0,none,0,by simp only[eT];rfl,eU.nil _ _ _ _ _ _,by simp only[eT];exact eU.nil _ _ _ _ _ _,by simp only[eT];exact eU.nil _ _ _ _ _ _,L4⟩
  refine Df ar rfl rfl (Wn 3 rfl ?_)
  by_cases au:11<fr
  ·refine Dt au rfl rfl (Wn 28 rfl (Nx (WC.gL rfl (Sr (Wa (.gF [.slice none 0 0,.slice none 0 0] jY z37 rfl rfl) rfl (Wn 1 rfl (W.sA gV rfl rfl (k.le b) ?_)))))))
   intro aV Z aW
   have Z:fA aV h 37 #[.slice none 0 0,.slice none 0 0]:=Z
   have L6:=m.tb aW e i
   refine Wn 1 rfl (Nx (Rt (E.eX (E.gU rfl rfl (iB rfl Z gQ (by rfl)) rfl ?_))))
   rw[iT (by first|exact lu (by assumption)|exact ll.2 (.inr (by omega)))]
   exact⟨none,0,none,0,none,0,by simp only[eT];rfl,eU.nil _ _ _ _ _ _,by simp only[eT];exact eU.nil _ _ _ _ _ _,by simp only[eT];exact eU.nil _ _ _ _ _ _,L6⟩
  refine Df au rfl rfl (Wn 3 rfl ?_)
  by_cases av:to<0
  ·refine Dt av rfl rfl (Wn 24 rfl (Nx (WC.gL rfl (Sr (Wa (.gF [.slice none 0 0,.slice none 0 0] jY z37 rfl rfl) rfl (Wn 1 rfl (W.sA gV rfl rfl (k.le b) ?_)))))))
   intro aX aa aY
   have aa:fA aX h 37 #[.slice none 0 0,.slice none 0 0]:=aa
   have L8:=m.tb aY e i
   refine Wn 1 rfl (Nx (Rt (E.eX (E.gU rfl rfl (iB rfl aa gQ (by rfl)) rfl ?_))))
   rw[iT (by first|exact lu (by assumption)|exact ll.2 (.inr (by omega)))]
   exact⟨none,0,none,0,none,0,by simp only[eT];rfl,eU.nil _ _ _ _ _ _,by simp only[eT];exact eU.nil _ _ _ _ _ _,by simp only[eT];exact eU.nil _ _ _ _ _ _,L8⟩
  refine Df av rfl rfl (Wn 3 rfl ?_)
  by_cases aw:11<to
  ·refine Dt aw rfl rfl (Wn 20 rfl (Nx (WC.gL rfl (Sr (Wa (.gF [.slice none 0 0,.slice none 0 0] jY z37 rfl rfl) rfl (Wn 1 rfl (W.sA gV rfl rfl (k.le b) ?_)))))))
   intro aZ ab a0
   have ab:fA aZ h 37 #[.slice none 0 0,.slice none 0 0]:=ab
   have a1:=m.tb a0 e i
   refine Wn 1 rfl (Nx (Rt (E.eX (E.gU rfl rfl (iB rfl ab gQ (by rfl)) rfl ?_))))
   rw[iT (by first|exact lu (by assumption)|exact ll.2 (.inr (by omega)))]
   exact⟨none,0,none,0,none,0,by simp only[eT];rfl,eU.nil _ _ _ _ _ _,by simp only[eT];exact eU.nil _ _ _ _ _ _,by simp only[eT];exact eU.nil _ _ _ _ _ _,a1⟩
  refine Df aw rfl rfl (Wn 4 rfl ?_)
  by_cases ax:fr=to
  ·refine Dt ax rfl rfl (Wn 15 rfl (Nx (WC.gL rfl (Sr (Wa (.gF [.slice none 0 0,.slice none 0 0] jY z37 rfl rfl) rfl (Wn 1 rfl (W.sA gV rfl rfl (k.le b) ?_)))))))
   intro a2 ac a3
   have ac:fA a2 h 37 #[.slice none 0 0,.slice none 0 0]:=ac
   have a4:=m.tb a3 e i
   refine Wn 1 rfl (Nx (Rt (E.eX (E.gU rfl rfl (iB rfl ac gQ (by rfl)) rfl ?_))))
   rw[iT (by first|exact lu (by assumption)|exact ll.2 (.inr (by omega)))]
   exact⟨none,0,none,0,none,0,by simp only[eT];rfl,eU.nil _ _ _ _ _ _,by simp only[eT];exact eU.nil _ _ _ _ _ _,by simp only[eT];exact eU.nil _ _ _ _ _ _,a4⟩
  refine Df ax rfl rfl (Wn 3 rfl ?_)
  by_cases ay:a<1
  ·refine Dt ay rfl rfl (Wn 11 rfl (Nx (WC.gL rfl (Sr (Wa (.gF [.slice none 0 0,.slice none 0 0] jY z37 rfl rfl) rfl (Wn 1 rfl (W.sA gV rfl rfl (k.le b) ?_)))))))
   intro a5 ad a6
   have ad:fA a5 h 37 #[.slice none 0 0,.slice none 0 0]:=ad
   have a7:=m.tb a6 e i
   refine Wn 1 rfl (Nx (Rt (E.eX (E.gU rfl rfl (iB rfl ad gQ (by rfl)) rfl ?_))))
   rw[iT (by first|exact lu (by assumption)|exact ll.2 (.inr (by omega)))]
   exact⟨none,0,none,0,none,0,by simp only[eT];rfl,eU.nil _ _ _ _ _ _,by simp only[eT];exact eU.nil _ _ _ _ _ _,by simp only[eT];exact eU.nil _ _ _ _ _ _,a7⟩
  refine Df ay rfl rfl (Wn 3 rfl ?_)
  by_cases az:1125899906842624<a
  ·refine Dt az rfl rfl (Wn 7 rfl (Nx (WC.gL rfl (Sr (Wa (.gF [.slice none 0 0,.slice none 0 0] jY z37 rfl rfl) rfl (Wn 1 rfl (W.sA gV rfl rfl (k.le b) ?_)))))))
   intro a8 ae a9
   have ae:fA a8 h 37 #[.slice none 0 0,.slice none 0 0]:=ae
   have ba:=m.tb a9 e i
   refine Wn 1 rfl (Nx (Rt (E.eX (E.gU rfl rfl (iB rfl ae gQ (by rfl)) rfl ?_))))
   rw[iT (by first|exact lu (by assumption)|exact ll.2 (.inr (by omega)))]
   exact⟨none,0,none,0,none,0,by simp only[eT];rfl,eU.nil _ _ _ _ _ _,by simp only[eT];exact eU.nil _ _ _ _ _ _,by simp only[eT];exact eU.nil _ _ _ _ _ _,ba⟩
  refine Df az rfl rfl (Wn 3 rfl ?_)
  by_cases aA:x<1
  ·refine Dt aA rfl rfl (Wn 3 rfl (Nx (WC.gL rfl (Sr (Wa (.gF [.slice none 0 0,.slice none 0 0] jY z37 rfl rfl) rfl (Wn 1 rfl (W.sA gV rfl rfl (k.le b) ?_)))))))
   intro bb af bc
   have af:fA bb h 37 #[.slice none 0 0,.slice none 0 0]:=af
   have bd:=m.tb bc e i
   refine Wn 1 rfl (Nx (Rt (E.eX (E.gU rfl rfl (iB rfl af gQ (by rfl)) rfl ?_))))
   rw[iT (by first|exact lu (by assumption)|exact ll.2 (.inr (by omega)))]
   exact⟨none,0,none,0,none,0,by simp only[eT];rfl,eU.nil _ _ _ _ _ _,by simp only[eT];exact eU.nil _ _ _ _ _ _,by simp only[eT];exact eU.nil _ _ _ _ _ _,bd⟩
  refine Df aA rfl rfl (Wn 3 rfl (Nx ?_))
  by_cases c0:1048576<x
  ·refine Cy rfl (dT c0) (Sr (Wa (.gF [.slice none 0 0,.slice none 0 0] jY z37 rfl rfl) rfl (Wn 1 rfl (W.sA gV rfl rfl (k.le b) ?_))))
   intro be ah bf
   have ah:fA be h 37 #[.slice none 0 0,.slice none 0 0]:=ah
   have bg:=m.tb bf e i
   refine Wn 1 rfl (Nx (Rt (E.eX (E.gU rfl rfl (iB rfl ah gQ (by rfl)) rfl ?_))))
   rw[iT (by first|exact lu (by assumption)|exact ll.2 (.inr (by omega)))]
   exact⟨none,0,none,0,none,0,by simp only[eT];rfl,eU.nil _ _ _ _ _ _,by simp only[eT];exact eU.nil _ _ _ _ _ _,by simp only[eT];exact eU.nil _ _ _ _ _ _,bg⟩
  refine Cn rfl (dF c0) ?_
  have hbad:mR g fr to a x=false:=UL (by assumption) (by omega)
  have hft:=(zm hbad).2.2.2.1
  refine Sn (Sr (W.ef rfl rfl rfl (Ef.fI z138 fun N K aB (bh:fA K N 138 #[.slice none 0 0,.slice none 0 0,.slice none 0 0,.int .i64 0,.bool false]) I=>(Nx (Sq (Sr (Wn 1 rfl (Nx (WC.block ?_)))))))))
  refine WC.loop (ι:=Nat×FB×(Option Addr)×Nat×(Option Addr)×Nat×(Option Addr)×Nat) (fun⟨j,bk,Ax,cx,Ay,cy,Az,cz⟩=>[(0,.slice A n c),(1,.pointer (some ⟨gp,0,none⟩)),(2,.int .i64 fr),(3,.int .i64 to),(4,.int .i64 a),(5,.int .i64 x),(13,.pointer (some ⟨h,0,none⟩)),(16,.pointer (some ⟨N,0,none⟩)),(17,.int .i64 ((j:Nat):Int))]) (fun⟨j,bk,Ax,cx,Ay,cy,Az,cz⟩ t=>(j<=g.length)/\(bk=(g.take j).foldl (Gh (jR g s.1 to a x 8) fr) (j6,false))/\(bk.1.way.length<=8/\(eP bk.1.fQ.n).length<=100/\(eP bk.1.fQ.d).length<=100)/\Le w t/\K.heap.size<=t.heap.size/\ib t base gp F s/\fA t h 37 #[.slice none 0 0,.slice none 0 0]/\fA t N 138 #[.slice Ax bk.1.way.length cx,.slice Ay ((eP bk.1.fQ.n).length) cy,.slice Az ((eP bk.1.fQ.d).length) cz,.int .i64 bk.1.sent,.bool (bk.2)]/\eU t w.heap.size 66 fD 9 Ax bk.1.way.length cx bk.1.way/\eU t w.heap.size 143 dv 1 Ay ((eP bk.1.fQ.n).length) cy (eP bk.1.fQ.n)/\eU t w.heap.size 143 dv 1 Az ((eP bk.1.fQ.d).length) cz (eP bk.1.fQ.d)) (fun⟨j,bk,Ax,cx,Ay,cy,Az,cz⟩=>g.length-j) (0,(j6,false),none,0,none,0,none,0) ?_ ?_ ?_
  ·exact .of rfl
  ·exact⟨Nat.zero_le _,rfl,(by simp only[j6,eT];decide),(m.trans I),Nat.le_refl _,(hP.le (H.trans (b.trans I))),(k.le (b.trans I)),(UK bh),(eU.nil K w.heap.size 66 fD 9 none),(M4 (eU.nil K w.heap.size 143 dv 1 none)),(M4 (eU.nil K w.heap.size 143 dv 1 none))⟩
  rintro⟨j,bk,Ax,cx,Ay,cy,Az,cz⟩ t ⟨hj,hbk,hbl,L,aC,aE,O,P,Q,R,S⟩
  have bM:w.heap.size<=t.heap.size:=by have:=H.size;have:=b.size;have:=I.size;omega
  have bN:w.heap.size<=t.heap.size:=by have:=H.size;have:=b.size;have:=I.size;omega
  have bO:w.heap.size<=t.heap.size:=by have:=H.size;have:=b.size;have:=I.size;omega
  refine Sq (Sr (Wn 2 rfl (Wr (.len underlying22 rfl) rfl (Wn 1 rfl (Nx ?_)))))
  by_cases c1:((j:Nat):Int)<((n:Nat):Int)
  ·refine Cy rfl (dT c1) (Sn (Sq (WC.block (Sr (Wn 2 rfl (Wa (.fV j underlying22 iI rfl rfl (hV.isSome eQ (by omega)) rfl (by omega)) rfl (Wa (.gH iX (hV.isSome eQ (by omega)) rfl) rfl (Wr (.ik (j:=j) (o:=0) (v:= .int .i64 ((g.getD j eO).f)) gM rfl (hV.le L) eQ (gD g eO (by omega)) rfl) rfl (Wn 2 rfl (Nx ?_))))))))))
   by_cases c2:((g.getD j eO).f)=fr
   ·refine Cy rfl (dT c2) (WC.draw [0,1,2,3,4,5,7,8,9,10,6,11,12] mixed (by kernel_rfl) fun w9 C=>?_)
    have ai:=L.trans C
    refine Gn 4 rfl (Ga rfl (.fV j underlying22 iI rfl rfl (hV.isSome eQ (by omega)) rfl (by omega)) (Gd rfl (.j5 iJ rfl (hV.le ai) eQ (gD g eO (by omega))) (Gn 3 rfl ?_)))
    have aF:=(P.le C)
    refine Gd rfl (.fB vR (by rfl) rfl aF) ?_
    refine G.ef rfl rfl rfl rfl rfl (Ef.gq (len:=1) [_] underlying22 zw rfl (by simp[Value.cells,eQ.len]) rfl (by decide) (by decide) ?_)
    intro aG T bi aj u
    refine⟨fun _=>u,?_⟩
    have ak:=ai.trans u
    have aj:fA T aG 66 (([g.getD j eO]).map fD).flatten.toArray:=aj
    have bj:eU T w9.heap.size 66 fD 9 (some ⟨aG,0,none⟩) 1 1 ([g.getD j eO]):=aj.kL bi eQ rfl rfl (by decide)
    have bl:=(Q.le (C.trans u))
    have bm:=(R.le (C.trans u))
    have bn:=(S.le (C.trans u))
    have bo:Oy T w.heap.size bk _ _ _ _ _ _:=⟨bl,bm,bn,hbl⟩
    have aH:=(aE.le (C.trans u))
    have bp:=Di (cg:=c) (to:=to) (a:=a) (x:=x) 8 ([g.getD j eO]) bk T aH hN (hV.le ak) (by omega) ak.size (bj.mono ai.size) (by first|rfl|simp|omega) (by decide) (by first|decide|simp|omega) bo
    refine G.ef rfl rfl rfl rfl rfl (Ef.call YA rfl rfl bp ?_)
    rintro _ bP ⟨⟨aI,aJ,aK,aL,aM,aO,rfl,aP,aQ,aR,bq,bs,bt⟩,J⟩
    refine⟨_,rfl,?_⟩
    refine⟨fun _=>J,?_⟩
    have U:=(aF.le (u.trans J))
    refine G.iO rfl rfl rfl rfl (Ef.storeAll BQ (by rfl) rfl rfl U (by rfl) (by simp[Value.oneCell']) ?_)
    intro bu al D
    refine noT (by kernel_rfl) ?_
    have al:fA bu N 138 #[.slice aI ((jR g s.1 to a x 8 ([g.getD j eO]) bk).1.way.length) aJ,.slice aK ((eP (jR g s.1 to a x 8 ([g.getD j eO]) bk).1.fQ.n).length) aL,.slice aM ((eP (jR g s.1 to a x 8 ([g.getD j eO]) bk).1.fQ.d).length) aO,.int .i64 ((jR g s.1 to a x 8 ([g.getD j eO]) bk).1.sent),.bool ((jR g s.1 to a x 8 ([g.getD j eO]) bk).2)]:=al
    refine G.nil (E.gI (E.eY (WC.region (Wn 1 rfl (Wa (.add rfl rfl (by omega)) rfl (Wn 1 rfl (W.nil ?_)))))))
    have bv:=((aH.le J).ch D (fun q hqq hF=>by cases hqq;have:=hP.lt hF;have:=H.size;have:=b.size;have:=aB;omega))
    have bw:=((O.le (C.trans (u.trans J))).cn D (by have:=k.lt;have:=b.size;omega))
    have bx:=(aP.ch D (fun q hq=>by cases hq;exact eU.lV aP U (by decide)))
    have bz:=(aQ.ch D (fun q hq=>by cases hq;exact eU.lV aQ U (by decide)))
    have bA:=(aR.ch D (fun q hq=>by cases hq;exact eU.lV aR U (by decide)))
    refine E.again (j+1,(jR g s.1 to a x 8 ([g.getD j eO]) bk),aI,aJ,aK,aL,aM,aO) (.of rfl) ?_ ?_
    ·exact⟨by omega,(by rw[sQ (z:=eO) (l:=g) (by omega),<-hbk];exact(if_pos (by assumption)).symm),⟨bq,bs,bt⟩,((ak.trans J).tb D m aB),by have:=aC;have:=C.size;have:=u.size;have:=J.size;have:=D.size;omega,bv,bw,al,bx,bz,bA⟩
    first|omega|(simp only[];omega)
   refine Cn rfl (dF c2) (WC.skip (E.gI (E.eY (WC.region (Wn 1 rfl (Wa (.add rfl rfl (by omega)) rfl (Wn 1 rfl (W.nil (E.again (j+1,bk,Ax,cx,Ay,cy,Az,cz) (.of rfl) ?_ ?_)))))))))
   ·exact⟨by omega,(by rw[sQ (z:=eO) (l:=g) (by omega),<-hbk];exact(if_neg (by assumption)).symm),hbl,L,by have:=aC;omega,aE,O,P,Q,R,S⟩
   first|omega|(simp only[];omega)
  refine Cn rfl (dF c1) (WC.exit (E.fC (E.fC (E.gW (E.eY (Sq (Sr (Wa (.eZ Mh rfl) rfl (Wr (.fe (v:= .bool bk.2) ZU rfl P rfl) rfl (Wn 1 rfl (Nx ?_)))))))))))
  by_cases c3:bk.2=true
  ·refine Cn rfl (congrArg not c3) (Sn (Sq (WC.draw [0,1,2,3,4,5,6] mixed (by kernel_rfl) fun bQ y=>(Ga rfl (.eZ nQ rfl) ?_))))
   have aS:=(P.le y)
   refine Gd rfl (.fe (v:= .slice Ax bk.1.way.length cx) ni rfl aS rfl) (Ga rfl (.eZ FT rfl) (Gd rfl (.vO [.slice Ay ((eP bk.1.fQ.n).length) cy,.slice Az ((eP bk.1.fQ.d).length) cz] gQ rfl (by decide) rfl aS rfl) (Gn 1 rfl ?_)))
   have V:=(O.le y)
   refine G.iO rfl rfl rfl rfl (Ef.storeAll gV (by rfl) rfl rfl V (by rfl) (by simp[Value.oneCell']) ?_)
   intro bB am X
   refine noT (by kernel_rfl) ?_
   have am:fA bB h 37 #[.slice Ay ((eP bk.1.fQ.n).length) cy,.slice Az ((eP bk.1.fQ.d).length) cz]:=am
   refine Gn 1 rfl (G.nil (E.eY (Rt ?_)))
   have bC:=((Q.le y).ch X (fun q hq=>by cases hq;exact eU.lV (Q.le y) V (by decide)))
   have bD:=((R.le y).ch X (fun q hq=>by cases hq;exact eU.lV (R.le y) V (by decide)))
   have bE:=((S.le y).ch X (fun q hq=>by cases hq;exact eU.lV (S.le y) V (by decide)))
   refine E.gU rfl rfl (iB rfl am gQ (by rfl)) rfl ?_
   have Td:j=g.length:=(by omega)
   have hbF:bk=sK g s.1 fr to a x:=(by rw[hbk,Td,List.take_length];rfl)
   rw[K3 hgm hbad hbF (by assumption)]
   exact⟨_,_,_,_,_,_,rfl,(bC.mono e.size),(bD.mono e.size),(bE.mono e.size),((L.trans y).tb X e i)⟩
  refine Cy rfl (congrArg not (Bool.eq_false_iff.2 c3)) (Sr (Wa (.gF [.slice none 0 0,.slice none 0 0] jY z37 rfl rfl) rfl (Wn 1 rfl (W.sA gV rfl rfl O ?_))))
  intro bF an bG
  have an:fA bF h 37 #[.slice none 0 0,.slice none 0 0]:=an
  have bH:=L.tb bG e i
  refine Wn 1 rfl (Nx (Rt (E.eX (E.gU rfl rfl (iB rfl an gQ (by rfl)) rfl ?_))))
  have Td:j=g.length:=(by omega)
  have hbF:bk=sK g s.1 fr to a x:=(by rw[hbk,Td,List.take_length];rfl)
  rw[K4 hgm hbad hbF (by assumption)]
  exact⟨none,0,none,0,none,0,by simp only[eT];rfl,eU.nil _ _ _ _ _ _,by simp only[eT];exact eU.nil _ _ _ _ _ _,by simp only[eT];exact eU.nil _ _ _ _ _ _,bH⟩
 refine Wa (.dec (.move rfl) (congrArg not (Bool.eq_false_iff.2 aq))) rfl (Wn 36 rfl (Nx (WC.gL rfl (Sr (Wa (.gF [.slice none 0 0,.slice none 0 0] jY z37 rfl rfl) rfl (Wn 1 rfl (W.sA gV rfl rfl (k.le b) ?_)))))))
 intro bI ao bJ
 have ao:fA bI h 37 #[.slice none 0 0,.slice none 0 0]:=ao
 have bK:=m.tb bJ e i
 refine Wn 1 rfl (Nx (Rt (E.eX (E.gU rfl rfl (iB rfl ao gQ (by rfl)) rfl ?_))))
 rw[iT (by first|exact lu (by assumption)|exact ll.2 (.inr (by omega)))]
 exact⟨none,0,none,0,none,0,by simp only[eT];rfl,eU.nil _ _ _ _ _ _,by simp only[eT];exact eU.nil _ _ _ _ _ _,by simp only[eT];exact eU.nil _ _ _ _ _ _,bK⟩


end Go.Proofs.YtkaedikifgpkeaaGreatDoor

namespace Go.Proofs.YtkaedikifgpkeaaGreatDoor
open Tryz
open Go Go.Sx Go.Num Go.fO Go.oF Go.uI Go.tH
set_option maxRecDepth 20000
set_option maxHeartbeats 4000000
section
variable {w w':World}{base gp:Nat}{F:Nat->Prop}{s:MF×Nat}
theorem ib.ty (h:ib w base gp F s){k:Nat}(hk:F k):∃cs,fA w k 117 cs\/fA w k 173 cs:=by
  obtain⟨A,n,c,ws,b,d,_,_,_,_,_,e,_⟩:=h
  rcases(e k).1 hk with rfl|hk
  · exact⟨_,.inl b⟩
  · rcases d.2.2 with⟨_,rfl⟩|⟨g',cur,rfl,_,hh,_⟩
    · rw[iL]at hk;cases hk
    · have:=mg hk
      subst this
      exact⟨_,.inr hh⟩
theorem RO {g t t':Nat}{cs cs':Array Value}(h:fA w g t cs)(h':fA w g t' cs'):t=t':=by
  have c:w.heap[g]? =_:=h
  have b:w.heap[g]? =_:=h'
  rw[c]at b
  injection b with e3
  injection e3
theorem ib.Dk (h:ib w base gp F s){g t:Nat}{cs:Array Value}(hb:fA w g t cs)(h1:117≠t)(h2:173≠t):¬F g:=fun hF=>by
  obtain⟨cs',h|h⟩:=h.ty hF
  · exact h1 (RO h hb)
  · exact h2 (RO h hb)
theorem ib.oU {b e sz n c:Nat}{α:Type}{f:α->List Value}{A:Option Addr}{xs:List α}(h:ib w base gp F s)(ho:eU w b e f sz A n c xs)(h1:117≠e)(h2:173≠e):∀g,rowOf A c=some g->¬F g:=fun g hg hF=>by
  obtain⟨cs',h|h⟩:=h.ty hF
  · exact ho.lV h (Ne.symm h1) hg
  · exact ho.lV h (Ne.symm h2) hg
theorem il.chT {bs:Nat}{rs:List yU}{ps:List tK}{G:Nat->Prop}(h:il w bs rs ps)(k:jU w w' G)(hp:ib w base gp G s)(h1:117≠66)(h2:173≠66)(h3:117≠3)(h4:173≠3):il w' bs rs ps:=
  ⟨h.1,fun i hi=>⟨(h.2 i hi).1,(h.2 i hi).2.iQ k (hp.oU (h.2 i hi).2 h1 h2),(h.2 i hi).3.iQ k (hp.oU (h.2 i hi).3 h3 h4),(h.2 i hi).4.iQ k (hp.oU (h.2 i hi).4 h3 h4)⟩⟩
end
theorem K5 {a n:Int}(h:fw a n≠[]):(fw a n).length=n.toNat:=by
  unfold fw at h ⊢
  split at h
  · exact absurd rfl h
  · rw[if_neg (by assumption),List.length_map,List.length_range]
theorem VU:(gY 1 1).n=1:=by decide
theorem VV:(gY 1 1).d=1:=by decide
theorem xY (a n:Int)(w:World)(ha:a<=9223372036854775807):Calls prog 16 #[.int .i64 a,.int .i64 (n)] w fun r w'=>∃A c,r= .returned (.slice A (fw a n).length c)/\eU w' w.heap.size 3 iv 1 A (fw a n).length c (fw a n)/\Le w w':=by
 refine enter func16 rfl rfl ?_
 have b:=Le.refl w
 refine Sr (Wn 1 rfl (Nx (Sq (Sr (Wn 2 rfl ?_)))))
 by_cases m:n<1
 ·refine Dt m rfl rfl (Wn 8 rfl (Nx (WC.gL rfl (Sr (Wn 1 rfl (Nx (Rt (E.eX (E.fu rfl rfl ?_)))))))))
  have hz:fw a n=[]:=(by unfold fw;rw[if_pos (by omega)])
  rw[hz]
  exact⟨none,0,rfl,eU.nil _ _ _ _ _ _,b⟩
 refine Df m rfl rfl (Wn 3 rfl ?_)
 by_cases o:8<n
 ·refine Dt o rfl rfl (Wn 4 rfl (Nx (WC.gL rfl (Sr (Wn 1 rfl (Nx (Rt (E.eX (E.fu rfl rfl ?_)))))))))
  have hz:fw a n=[]:=(by unfold fw;rw[if_pos (by omega)])
  rw[hz]
  exact⟨none,0,rfl,eU.nil _ _ _ _ _ _,b⟩
 refine Df o rfl rfl (Wn 4 rfl (Nx ?_))
 by_cases s:a<n
 ·refine Cy rfl (dT s) (Sr (Wn 1 rfl (Nx (Rt (E.eX (E.fu rfl rfl ?_))))))
  have hz:fw a n=[]:=(by unfold fw;rw[if_pos (by omega)])
  rw[hz]
  exact⟨none,0,rfl,eU.nil _ _ _ _ _ _,b⟩
 refine Cn rfl (dF s) ?_
 have hqa:=Int.ediv_le_self n (show 0<=a by omega)
 have K:=Int.ediv_nonneg (show 0<=a by omega) (show 0<=n by omega)
 refine Sn (Sr (Wn 1 rfl (Nx (Sq (Sr (Wn 1 rfl (Nx (WC.block (WC.loop (ι:=Nat×(Option Addr)×Nat) (fun⟨i,Ao,co⟩=>[(0,.int .i64 a),(1,.int .i64 n),(5,.slice Ao i co),(6,.int .i64 ((i:Nat):Int))]) (fun⟨i,Ao,co⟩ d=>(i<=n.toNat)/\Le w d/\w.heap.size<=d.heap.size/\eU d w.heap.size 3 iv 1 Ao i co ((List.range i).map (kX a n))) (fun⟨i,Ao,co⟩=>n.toNat-i) (0,none,0) ?_ ?_ ?_)))))))))
 ·exact .of rfl
 ·exact⟨Nat.zero_le _,b,Nat.le_refl _,(eU.nil w w.heap.size 3 iv 1 none)⟩
 rintro⟨i,Ao,co⟩ d ⟨hi,k,t,l⟩
 have u:w.heap.size<=d.heap.size:=by omega
 refine Sq (Sr (Wn 3 rfl (Nx ?_)))
 by_cases v:((i:Nat):Int)<n
 ·refine Cy rfl (dT v) (Sn (Sq (WC.block (Sr (Wn 2 rfl (Wa (.quo rfl rfl (by omega)) rfl (Wn 1 rfl (Nx (Sq (Sr (Wn 3 rfl (Wa (.rem rfl rfl (by omega)) rfl (Wn 1 rfl (Nx ?_))))))))))))))
  by_cases x:((i:Nat):Int)<(a%n)
  ·refine Cy rfl (dT x) ?_
   have hsu:=Jv K (show 1<=n by omega) (by omega)
   refine WC.region (Wn 1 rfl (Wa (.add rfl rfl (by omega)) rfl (Wn 1 rfl (Nx (WC.region (Wn 2 rfl (W.ef rfl rfl rfl (Ef.gq (len:=1) [_] underlying47 Gx rfl (by simp[Value.cells]) rfl (by decide) (by decide) ?_))))))))
   intro y z L e f
   have e:fA z y 3 (([((a/n)+1)]).map iv).flatten.toArray:=e
   have U:eU z d.heap.size 3 iv 1 (some ⟨y,0,none⟩) 1 1 ([((a/n)+1)]):=e.kL L fT rfl rfl (by decide)
   have C:=(l.le f)
   refine W.ef rfl rfl rfl (Ef.mP (a:=((a/n)+1)) underlying47 Gx underlying47 fT rfl C rfl e (by omega) (by unfold maxLen;omega) (by have:=u;have:=f.size;omega) ?_)
   intro N O V P D X
   refine Wn 1 rfl (W.nil (E.gI (E.eY (WC.region (Wn 1 rfl (Wa (.add rfl rfl (by omega)) rfl (Wn 1 rfl (W.nil (E.again (i+1,N,O) (.of rfl) ?_ ?_)))))))))
   ·exact⟨by omega,((k.trans f).gG D (fun q hq=>Nat.le_trans b.size (C.row hq).1)),by have:=t;have:=f.size;have:=D.size;omega,(P.cast rfl (by rw[List.range_succ,List.map_append];show _++[_]=_++[kX a n i];unfold kX;first|(rw[if_pos (by assumption)];done)|rw[if_neg (by assumption),Int.add_zero]))⟩
   first|omega|(simp only[];omega)
  refine Cn rfl (dF x) (Sn (WC.region (Wn 2 rfl (W.ef rfl rfl rfl (Ef.gq (len:=1) [_] underlying47 Gx rfl (by simp[Value.cells]) rfl (by decide) (by decide) ?_)))))
  intro F H Q h j
  have h:fA H F 3 (([(a/n)]).map iv).flatten.toArray:=h
  have Y:eU H d.heap.size 3 iv 1 (some ⟨F,0,none⟩) 1 1 ([(a/n)]):=h.kL Q fT rfl rfl (by decide)
  have I:=(l.le j)
  refine W.ef rfl rfl rfl (Ef.mP (a:=(a/n)) underlying47 Gx underlying47 fT rfl I rfl h (by omega) (by unfold maxLen;omega) (by have:=u;have:=j.size;omega) ?_)
  intro R S Z T J aa
  refine Wn 1 rfl (W.nil (E.gI (E.eY (WC.region (Wn 1 rfl (Wa (.add rfl rfl (by omega)) rfl (Wn 1 rfl (W.nil (E.again (i+1,R,S) (.of rfl) ?_ ?_)))))))))
  ·exact⟨by omega,((k.trans j).gG J (fun q hq=>Nat.le_trans b.size (I.row hq).1)),by have:=t;have:=j.size;have:=J.size;omega,(T.cast rfl (by rw[List.range_succ,List.map_append];show _++[_]=_++[kX a n i];unfold kX;first|(rw[if_pos (by assumption)];done)|rw[if_neg (by assumption),Int.add_zero]))⟩
  first|omega|(simp only[];omega)
 refine Cn rfl (dF v) (WC.exit (E.fC (E.fC (E.gW (E.eY (Sr (Wn 2 rfl (Nx (Rt (E.fu rfl rfl ?_))))))))))
 have hin:i=n.toNat:=(by omega)
 have hsl:fw a n=((List.range i).map (kX a n)):=(by unfold fw;rw[if_neg (by omega),hin])
 rw[hsl,List.length_map,List.length_range]
 exact⟨_,_,rfl,(l.mono b.size),k⟩

theorem E5 {base gp:Nat}{F:Nat->Prop}{s0:MF×Nat}(fr to a x n:Int){A:Option Addr}{n0 c:Nat}{g:List fO.Edge}(w:World)(hP:ib w base gp F s0)(hV:Vec w fD 9 A n0 g)(hn:n0<=1000000)(ha:a<=9223372036854775807)(hN:s0.2<=90000):Calls prog 9 #[.slice A n0 c,.pointer (some ⟨gp,0,none⟩),.int .i64 fr,.int .i64 to,.int .i64 a,.int .i64 x,.int .i64 (n)] w fun r w'=>∃A c rs An cn Ad cd,r= .returned (.tuple #[.slice A (jk g s0.1 fr to a x n).1.length c,.agg #[.slice An (eP (jk g s0.1 fr to a x n).2.1.n).length cn,.slice Ad (eP (jk g s0.1 fr to a x n).2.1.d).length cd],.int .i64 (jk g s0.1 fr to a x n).2.2])/\eU w' w.heap.size 87 sM 4 A (jk g s0.1 fr to a x n).1.length c rs/\il w' w.heap.size rs (jk g s0.1 fr to a x n).1/\eU w' w.heap.size 143 dv 1 An (eP (jk g s0.1 fr to a x n).2.1.n).length cn (eP (jk g s0.1 fr to a x n).2.1.n)/\eU w' w.heap.size 143 dv 1 Ad (eP (jk g s0.1 fr to a x n).2.1.d).length cd (eP (jk g s0.1 fr to a x n).2.1.d)/\((jk g s0.1 fr to a x n).1=[]->A=none)/\Le w w':=by
 have hl:=hV.1
 have hgm:=hP.good
 have ei:=Db a n
 refine enter func9 rfl rfl ?_
 have L0:=Le.refl w
 refine Sr (Wn 1 rfl (W.ef rfl rfl rfl (Ef.fI z37 fun P bG az (I:fA bG P 37 #[.slice none 0 0,.slice none 0 0]) a1=>?_)))
 have L1:=L0.trans a1
 refine Wn 1 rfl (Nx (Sr (Wn 6 rfl ?_)))
 have f2:=(hP.le a1)
 obtain⟨b0,aG⟩:∃z,z=(gz g s0.1 fr to a x):=⟨_,rfl⟩
 refine W.cl Yr rfl rfl (by have k:=Dj (c:=c) fr to a x bG f2 (hV.le L1) (by omega) (by omega);rw[<-aG]at k;exact k) ?_
 rintro _ ej ⟨ek,el,cI,cJ,cK,cL,rfl,em,en,eo,y⟩
 have L3:=L1.trans y
 refine Wn 2 rfl (Wa (.extract (v:= .agg #[.slice cI ((eP b0.2.1.n).length) cJ,.slice cK ((eP b0.2.1.d).length) cL]) rfl rfl) rfl (Wn 1 rfl (W.ef rfl rfl rfl (Ef.fI z37 fun cM cN bH (cO:fA cN cM 37 #[.slice none 0 0,.slice none 0 0]) R=>(Wn 1 rfl (W.sA gV rfl rfl cO ?_))))))
 intro aH ep S
 have L5:=(L3.trans R).tb S L3 bH
 refine Wn 1 rfl (Nx (Sq (Sr (Wn 2 rfl ?_))))
 by_cases bI:n<1
 ·refine Dt bI rfl rfl (Wn 7 rfl (Nx (WC.gL rfl (Sr (Wa (.gF [.slice none 0 0,.slice none 0 0] jY z37 rfl rfl) rfl (Wn 1 rfl (W.sA gV rfl rfl ((I.le (y.trans R)).cn S (by have:=I.lt;have:=y.size;omega)) ?_)))))))
  intro cP a2 cQ
  have a2:fA cP P 37 #[.slice none 0 0,.slice none 0 0]:=a2
  have L7:=L5.tb cQ L0 az
  refine Wn 1 rfl (Nx (Rt (E.eX (E.gU rfl rfl (iB rfl a2 gQ (by rfl)) rfl ?_))))
  rw[kv (by rw[<-aG];omega)]
  exact⟨none,0,[],none,0,none,0,by simp only[eT];rfl,eU.nil _ _ _ _ _ _,il.nil _ _,by simp only[eT];exact eU.nil _ _ _ _ _ _,by simp only[eT];exact eU.nil _ _ _ _ _ _,fun _=>rfl,L7⟩
 refine Df bI rfl rfl (Wn 3 rfl ?_)
 by_cases bJ:8<n
 ·refine Dt bJ rfl rfl (Wn 3 rfl (Nx (WC.gL rfl (Sr (Wa (.gF [.slice none 0 0,.slice none 0 0] jY z37 rfl rfl) rfl (Wn 1 rfl (W.sA gV rfl rfl ((I.le (y.trans R)).cn S (by have:=I.lt;have:=y.size;omega)) ?_)))))))
  intro cR a3 cS
  have a3:fA cR P 37 #[.slice none 0 0,.slice none 0 0]:=a3
  have L9:=L5.tb cS L0 az
  refine Wn 1 rfl (Nx (Rt (E.eX (E.gU rfl rfl (iB rfl a3 gQ (by rfl)) rfl ?_))))
  rw[kv (by rw[<-aG];omega)]
  exact⟨none,0,[],none,0,none,0,by simp only[eT];rfl,eU.nil _ _ _ _ _ _,il.nil _ _,by simp only[eT];exact eU.nil _ _ _ _ _ _,by simp only[eT];exact eU.nil _ _ _ _ _ _,fun _=>rfl,L9⟩
 refine Df bJ rfl rfl (Wn 3 rfl (Nx ?_))
 by_cases c0:b0.2.2=1
 ·refine Cy rfl (dT c0) (Sr (Wa (.gF [.slice none 0 0,.slice none 0 0] jY z37 rfl rfl) rfl (Wn 1 rfl (W.sA gV rfl rfl ((I.le (y.trans R)).cn S (by have:=I.lt;have:=y.size;omega)) ?_))))
  intro cT a4 cU
  have a4:fA cT P 37 #[.slice none 0 0,.slice none 0 0]:=a4
  have cV:=L5.tb cU L0 az
  refine Wn 1 rfl (Nx (Rt (E.eX (E.gU rfl rfl (iB rfl a4 gQ (by rfl)) rfl ?_))))
  rw[kv (by rw[<-aG];omega)]
  exact⟨none,0,[],none,0,none,0,by simp only[eT];rfl,eU.nil _ _ _ _ _ _,il.nil _ _,by simp only[eT];exact eU.nil _ _ _ _ _ _,by simp only[eT];exact eU.nil _ _ _ _ _ _,fun _=>rfl,cV⟩
 refine Cn rfl (dF c0) ?_
 have a5:¬(n<1\/8<n\/(gz g s0.1 fr to a x).2.2=1):=by rw[<-aG];omega
 refine Sn (Sr (Wn 2 rfl (W.cl Yg rfl rfl (xY a n aH (by omega)) ?_)))
 rintro _ bK ⟨am,an,rfl,ao,Z⟩
 have aK:=L5.trans Z
 refine Wn 1 rfl (Nx (Sq (Sr (Wn 1 rfl (Wr (.len underlying47 rfl) rfl (Wn 1 rfl (Nx ?_)))))))
 by_cases c1:(((fw a n).length:Nat):Int)=0
 ·refine Cy rfl (dT c1) (Sr (Wa (.gF [.slice none 0 0,.slice none 0 0] jY z37 rfl rfl) rfl (Wn 1 rfl (W.sA gV rfl rfl (((I.le (y.trans R)).cn S (by have:=I.lt;have:=y.size;omega)).le Z) ?_))))
  intro cW a6 cX
  have a6:fA cW P 37 #[.slice none 0 0,.slice none 0 0]:=a6
  have cY:=aK.tb cX L0 az
  refine Wn 1 rfl (Nx (Rt (E.eX (E.gU rfl rfl (iB rfl a6 gQ (by rfl)) rfl ?_))))
  rw[vk a5 (.inl (List.length_eq_zero_iff.1 (by omega)))]
  exact⟨none,0,[],none,0,none,0,by simp only[eT];rfl,eU.nil _ _ _ _ _ _,il.nil _ _,by simp only[eT];exact eU.nil _ _ _ _ _ _,by simp only[eT];exact eU.nil _ _ _ _ _ _,fun _=>rfl,cY⟩
 refine Cn rfl (dF c1) ?_
 have hsn:fw a n≠[]:=fun hh=>absurd (show(fw a n).length=0 by rw[hh];rfl) (by omega)
 have hsz:=K5 hsn
 refine Sn (Sr (Wn 1 rfl ?_))
 have cZ:=(((f2.le (y.trans R)).ch S (fun q hqq hF=>by cases hqq;have:=f2.lt hF;have:=y.size;have:=bH;omega)).le Z)
 refine W.cl aaV rfl rfl (Ru cZ (by omega)) ?_
 rintro _ al ⟨aL,c5,rfl,bL,aa⟩
 have a7:=aK.trans aa
 refine Wn 1 rfl (Nx (Sr (W.cl Tv rfl rfl (AX 1 1 al (by omega) (by omega) (by omega)) ?_)))
 rintro _ er ⟨a8,a9,ba,bb,rfl,bM,bN,T⟩
 have bc:=a7.trans T
 refine Wn 1 rfl (Wa (.extract (v:= .agg #[.slice a8 ((eP ((gY 1 1).n)).length) a9,.slice ba ((eP ((gY 1 1).d)).length) bb]) rfl rfl) rfl (Wn 1 rfl (W.ef rfl rfl rfl (Ef.fI z37 fun ai c6 bd (c7:fA c6 ai 37 #[.slice none 0 0,.slice none 0 0]) aj=>(W.sA gV rfl rfl c7 ?_)))))
 intro J be ak
 have be:fA J ai 37 #[.slice a8 ((eP ((gY 1 1).n)).length) a9,.slice ba ((eP ((gY 1 1).d)).length) bb]:=be
 have aM:=(bc.trans aj).tb ak bc bd
 refine Wn 1 rfl (Nx (Sr ?_))
 have c8:=((bM.le aj).cb ak (bM.rn (by omega)))
 have c9:=((bN.le aj).cb ak (bN.rn (by omega)))
 have aO:=be;have bO:=c8;have bP:=c9
 rw[VU,VV]at aO
 rw[VU]at bO
 rw[VV]at bP
 refine Wn 1 rfl (Nx (Sq (Sr (Wn 1 rfl (Nx (WC.block ?_))))))
 have da:=((bL.le (T.trans aj)).ch ak (fun q hqq hF=>by cases hqq;have:=bL.lt hF;have:=T.size;have:=bd;omega))
 have bf:=((((I.le (y.trans R)).cn S (by have:=I.lt;have:=y.size;omega)).le (Z.trans (aa.trans (T.trans aj)))).cn ak (by have:=I.lt;have:=y.size;have:=R.size;have:=S.size;have:=Z.size;have:=aa.size;have:=T.size;omega))
 have bQ:=((ao.le (aa.trans (T.trans aj))).cb ak (ao.rn (by have:=aa.size;have:=T.size;omega)))
 refine WC.loop (ι:=Nat×AV×Nat×(Nat->Prop)×(Option Addr)×Nat×(List yU)×(Option Addr)×Nat×(Option Addr)×Nat) (fun⟨i,s,N,F1,Ao,co,ro,Ax,cx,Ay,cy⟩=>[(0,.slice A n0 c),(2,.int .i64 fr),(3,.int .i64 to),(5,.int .i64 x),(6,.int .i64 n),(15,.pointer (some ⟨P,0,none⟩)),(20,.slice am ((fw a n).length) an),(21,.pointer (some ⟨aL,0,none⟩)),(22,.pointer (some ⟨ai,0,none⟩)),(24,.slice Ao s.out.length co),(25,.int .i64 ((i:Nat):Int))]) (fun⟨i,s,N,F1,Ao,co,ro,Ax,cx,Ay,cy⟩ u=>(i<=(fw a n).length)/\(((fw a n).take i).foldl (oK g fr to x) (some ⟨[],⟨1,1⟩,s0.1⟩)=some s)/\(kP s.fQ (1+100*i))/\(okF s.fQ)/\(N<=s0.2+24*i)/\Le w u/\J.heap.size<=u.heap.size/\fA u P 37 #[.slice none 0 0,.slice none 0 0]/\eU u aH.heap.size 3 iv 1 am ((fw a n).length) an (fw a n)/\ib u bK.heap.size aL F1 (s.m,N)/\fA u ai 37 #[.slice Ax ((eP s.fQ.n).length) cx,.slice Ay ((eP s.fQ.d).length) cy]/\eU u al.heap.size 143 dv 1 Ax ((eP s.fQ.n).length) cx (eP s.fQ.n)/\eU u al.heap.size 143 dv 1 Ay ((eP s.fQ.d).length) cy (eP s.fQ.d)/\eU u J.heap.size 87 sM 4 Ao s.out.length co ro/\il u J.heap.size ro s.out) (fun⟨i,s,N,F1,Ao,co,ro,Ax,cx,Ay,cy⟩=>(fw a n).length-i) (0,(⟨[],⟨1,1⟩,s0.1⟩:AV),s0.2,c5,none,0,([]),a8,a9,ba,bb) ?_ ?_ ?_
 ·exact .of rfl
 ·exact⟨Nat.zero_le _,rfl,(show kP ⟨1,1⟩ 1 from⟨gJ (by decide),gJ (by decide)⟩),(show okF ⟨1,1⟩ by unfold okF;decide),by omega,aM,Nat.le_refl _,bf,bQ,da,aO,bO,bP,(eU.nil J J.heap.size 87 sM 4 none),(il.nil J J.heap.size)⟩
 rintro⟨i,s,N,F1,Ao,co,ro,Ax,cx,Ay,cy⟩ u ⟨hi,hs,hlo,hok,hNi,bg,db,aI,bh,aP,aA,aQ,aR,ap,bR⟩
 have dc:aH.heap.size<=u.heap.size:=by have:=Z.size;have:=aa.size;have:=T.size;have:=aj.size;have:=ak.size;omega
 have es:al.heap.size<=u.heap.size:=by have:=T.size;have:=aj.size;have:=ak.size;omega
 have bS:al.heap.size<=u.heap.size:=by have:=T.size;have:=aj.size;have:=ak.size;omega
 have et:J.heap.size<=u.heap.size:=by omega
 have bT:J.heap.size<=u.heap.size:=by omega
 have hgs:ic s.m:=aP.good
 have hcn:s.out.length=min i (fw a n).length:=by have:=xQ hs;simpa using this
 refine Sq (Sr (Wn 3 rfl (Nx ?_)))
 by_cases c2:((i:Nat):Int)<n
 ·refine Cy rfl (dT c2) (Sn (Sq (WC.block (Sr (Wn 6 rfl (Wa (.fV i underlying47 kR rfl rfl (ao.vec.isSome fT (by omega)) rfl (by omega)) rfl (Wr (.jB (v:= .int .i64 ((fw a n).getD i 0)) gM rfl bh.vec fT (gD (fw a n) 0 (by first|omega|(simp only[List.length_cons,List.length_nil];omega))) rfl) rfl ?_)))))))
  refine Wn 1 rfl ?_
  obtain⟨b,aq⟩:∃z,z=(gz g (s.m,N).1 fr to ((fw a n).getD i 0) x):=⟨_,rfl⟩
  refine W.cl Yr rfl rfl (by have k:=Dj (c:=c) fr to ((fw a n).getD i 0) x u aP (hV.le bg) (by omega) (by omega);rw[<-aq]at k;exact k) ?_
  rintro _ eu ⟨ab,ac,ar,au,av,aw,rfl,aS,bU,bV,e⟩
  have bW:=bg.trans e
  refine Wn 2 rfl (Wa (.extract (v:= .agg #[.slice ar ((eP b.2.1.n).length) au,.slice av ((eP b.2.1.d).length) aw]) rfl rfl) rfl (Wn 1 rfl (W.ef rfl rfl rfl (Ef.fI z37 fun ax dd bX (bY:fA dd ax 37 #[.slice none 0 0,.slice none 0 0]) f=>(Wn 1 rfl (W.sA gV rfl rfl bY ?_))))))
  intro aB bi j
  have bi:fA aB ax 37 #[.slice ar ((eP b.2.1.n).length) au,.slice av ((eP b.2.1.d).length) aw]:=bi
  have bZ:=(bW.trans f).tb j bW bX
  refine Wn 1 rfl (Nx (Sq (Sr ?_)))
  have bj:=rJ (g:=g) (fr:=fr) (to:=to) (a:=((fw a n).getD i 0)) (x:=x) hgs
  rw[<-aq]at bj
  refine Wn 2 rfl (Nx ?_)
  by_cases c3:b.2.2≠0
  ·refine Cy rfl (dT c3) (Sr (Wa (.gF [.slice none 0 0,.slice none 0 0] jY z37 rfl rfl) rfl (Wn 1 rfl (W.sA gV rfl rfl ((aI.le (e.trans f)).cn j (by have:=aI.lt;have:=e.size;omega)) ?_))))
   intro de bk dg
   have bk:fA de P 37 #[.slice none 0 0,.slice none 0 0]:=bk
   have dh:=bZ.tb dg L0 az
   refine Wn 1 rfl (Nx (Rt (E.eX (E.gT (E.eX (E.eX (E.gT (E.eX (E.gU rfl rfl (iB rfl bk gQ (by rfl)) rfl ?_)))))))))
   rw[vk a5 (.inr (I9 (k:=i+1) (by rw[xP (by omega) hs];exact M0 (by rw[<-aq];assumption))))]
   exact⟨none,0,[],none,0,none,0,by simp only[eT];rfl,eU.nil _ _ _ _ _ _,il.nil _ _,by simp only[eT];exact eU.nil _ _ _ _ _ _,by simp only[eT];exact eU.nil _ _ _ _ _ _,fun _=>rfl,dh⟩
  refine Cn rfl (dF c3) ?_
  have bl:(gz g s.m fr to ((fw a n).getD i 0) x).2.2=0:=by rw[<-aq];omega
  obtain⟨_,hcd,_,_⟩:=ql hgs bl
  rw[<-aq]at hcd
  have hcl:=rU hcd.cost
  have hwl:=(Bf hcd.cost).len
  refine Sn (Sr (Wn 3 rfl (Wa (.fV i underlying47 kR rfl rfl (ao.vec.isSome fT (by omega)) rfl (by omega)) rfl ?_)))
  have b2:=((bh.le (e.trans f)).cb j (bh.rn (by have:=e.size;omega)))
  refine Wr (.jB (v:= .int .i64 ((fw a n).getD i 0)) gM rfl b2.vec fT (gD (fw a n) 0 (by first|omega|(simp only[List.length_cons,List.length_nil];omega))) rfl) rfl ?_
  refine Wn 1 rfl ?_
  have b3:=((aS.le f).cb j (aS.rn (by omega)))
  refine W.cl Yt rfl rfl (IK ((fw a n).getD i 0) x aB b3.vec (by omega)) ?_
  rintro _ di ⟨ad,ae,af,ah,rfl,bm,dj,o⟩
  refine Wn 7 rfl (Nx (Sq (Sr (Wn 1 rfl (Nx (WC.block ?_))))))
  have dk:=(((aP.le (e.trans f)).ch j (fun q hqq hF=>by cases hqq;have:=aP.lt hF;have:=e.size;have:=bX;omega)).le o)
  have dl:=(((ap.le (e.trans f)).cb j (ap.rn (by have:=e.size;omega))).le o)
  have dm:=(((bR.le (e.trans f)).qy j bY (by decide) (by decide)).le o)
  have dn:=(((bU.le f).cb j (bU.rn (by omega))).le o)
  have dp:=(((bV.le f).cb j (bV.rn (by omega))).le o)
  refine WC.loop (ι:=Nat×(Nat->Prop)) (fun⟨k,C⟩=>[(0,.slice A n0 c),(2,.int .i64 fr),(3,.int .i64 to),(5,.int .i64 x),(6,.int .i64 n),(15,.pointer (some ⟨P,0,none⟩)),(20,.slice am ((fw a n).length) an),(21,.pointer (some ⟨aL,0,none⟩)),(22,.pointer (some ⟨ai,0,none⟩)),(24,.slice Ao s.out.length co),(25,.int .i64 ((i:Nat):Int)),(26,.slice ab b.1.length ac),(27,.pointer (some ⟨ax,0,none⟩)),(29,.slice ad ((fq b.1 ((fw a n).getD i 0) x).1.length) ae),(30,.slice af ((fq b.1 ((fw a n).getD i 0) x).2.1.length) ah),(32,.int .i64 ((k:Nat):Int))]) (fun⟨k,C⟩ l=>(k<=b.1.length)/\Le w l/\di.heap.size<=l.heap.size/\fA l P 37 #[.slice none 0 0,.slice none 0 0]/\eU l aH.heap.size 3 iv 1 am ((fw a n).length) an (fw a n)/\ib l bK.heap.size aL C (tq s.m b.1 (fq b.1 ((fw a n).getD i 0) x).1 k,N+3*k)/\fA l ai 37 #[.slice Ax ((eP s.fQ.n).length) cx,.slice Ay ((eP s.fQ.d).length) cy]/\eU l al.heap.size 143 dv 1 Ax ((eP s.fQ.n).length) cx (eP s.fQ.n)/\eU l al.heap.size 143 dv 1 Ay ((eP s.fQ.d).length) cy (eP s.fQ.d)/\eU l J.heap.size 87 sM 4 Ao s.out.length co ro/\il l J.heap.size ro s.out/\eU l u.heap.size 66 fD 9 ab b.1.length ac b.1/\fA l ax 37 #[.slice ar ((eP b.2.1.n).length) au,.slice av ((eP b.2.1.d).length) aw]/\eU l u.heap.size 143 dv 1 ar ((eP b.2.1.n).length) au (eP b.2.1.n)/\eU l u.heap.size 143 dv 1 av ((eP b.2.1.d).length) aw (eP b.2.1.d)/\eU l aB.heap.size 3 iv 1 ad ((fq b.1 ((fw a n).getD i 0) x).1.length) ae ((fq b.1 ((fw a n).getD i 0) x).1)/\eU l aB.heap.size 3 iv 1 af ((fq b.1 ((fw a n).getD i 0) x).2.1.length) ah ((fq b.1 ((fw a n).getD i 0) x).2.1)) (fun⟨k,C⟩=>b.1.length-k) (0,F1) ?_ ?_ ?_
  ·exact .of rfl
  ·exact⟨Nat.zero_le _,(bZ.trans o),Nat.le_refl _,(((aI.le (e.trans f)).cn j (by have:=aI.lt;have:=e.size;omega)).le o),(b2.le o),dk,(((aA.le (e.trans f)).cn j (by have:=aA.lt;have:=e.size;omega)).le o),(((aQ.le (e.trans f)).cb j (aQ.rn (by have:=e.size;omega))).le o),(((aR.le (e.trans f)).cb j (aR.rn (by have:=e.size;omega))).le o),dl,dm,(b3.le o),(bi.le o),dn,dp,bm,dj⟩
  rintro⟨k,C⟩ l ⟨hk,b4,b5,b6,b7,aT,aC,bn,bo,aE,b8,aU,b9,bp,bq,aV,aW⟩
  have ew:aH.heap.size<=l.heap.size:=Nat.le_trans dc (by have:=e.size;have:=f.size;have:=j.size;have:=o.size;omega)
  have ex:al.heap.size<=l.heap.size:=Nat.le_trans bS (by have:=e.size;have:=f.size;have:=j.size;have:=o.size;omega)
  have ey:al.heap.size<=l.heap.size:=Nat.le_trans bS (by have:=e.size;have:=f.size;have:=j.size;have:=o.size;omega)
  have ez:J.heap.size<=l.heap.size:=Nat.le_trans bT (by have:=e.size;have:=f.size;have:=j.size;have:=o.size;omega)
  have aX:J.heap.size<=l.heap.size:=Nat.le_trans bT (by have:=e.size;have:=f.size;have:=j.size;have:=o.size;omega)
  have eA:u.heap.size<=l.heap.size:=by have:=e.size;have:=f.size;have:=j.size;have:=o.size;omega
  have eB:u.heap.size<=l.heap.size:=by have:=e.size;have:=f.size;have:=j.size;have:=o.size;omega
  have eC:u.heap.size<=l.heap.size:=by have:=e.size;have:=f.size;have:=j.size;have:=o.size;omega
  have eD:aB.heap.size<=l.heap.size:=by have:=o.size;omega
  have eE:aB.heap.size<=l.heap.size:=by have:=o.size;omega
  refine Sq (Sr (Wn 2 rfl (Wr (.len underlying22 rfl) rfl (Wn 1 rfl (Nx ?_)))))
  by_cases c4:((k:Nat):Int)<((b.1.length:Nat):Int)
  ·refine Cy rfl (dT c4) (Sn (Sq (WC.block (Sq (WC.draw [0,1,2,3,4,5,6,7,8,9] mixed (by kernel_rfl) fun dq D=>(Gn 3 rfl (Ga rfl (.fV k underlying22 iI rfl rfl (aS.vec.isSome eQ (by omega)) rfl (by omega)) ?_)))))))
   have aY:=(aU.le D)
   refine Gd rfl (.j5 iJ rfl aY.vec eQ (gD b.1 eO (by first|omega|(simp only[List.length_cons,List.length_nil];omega)))) ?_
   refine Gn 2 rfl (Ga rfl (.fV k underlying47 kR rfl rfl (bm.vec.isSome fT (by omega)) rfl (by omega)) ?_)
   have aZ:=(aV.le D)
   refine Gd rfl (.jB (v:= .int .i64 (((fq b.1 ((fw a n).getD i 0) x).1).getD k 0)) gM rfl aZ.vec fT (gD ((fq b.1 ((fw a n).getD i 0) x).1) 0 (by first|omega|(simp only[List.length_cons,List.length_nil];omega))) rfl) ?_
   have K:=(aT.le D)
   refine G.ef rfl rfl rfl rfl rfl (Ef.call Yn rfl rfl (Jj (b.1.getD k eO) (((fq b.1 ((fw a n).getD i 0) x).1).getD k 0) dq K (by omega)) ?_)
   rintro _ eF ⟨rfl,t,dr,V,L⟩
   refine⟨_,rfl,?_⟩
   refine noT (by kernel_rfl) ?_
   have ca:=(b6.le D)
   have cc:=(b7.le D)
   have bs:=(bn.le D)
   have bt:=(bo.le D)
   have bu:=(aC.le D)
   have bv:=(aE.le D)
   have bw:=(bp.le D)
   have bx:=(bq.le D)
   have bz:=(b9.le D)
   have bA:=(aW.le D)
   have ce:=(show¬C P from(fun hF=>by have:=K.old hF;have:=I.lt;have:=y.size;have:=R.size;have:=S.size;have:=Z.size;omega))
   have ds:¬t P:=fun hF=>(V _ hF).elim ce (fun hz=>by have:=ca.lt;omega)
   have cf:=(show∀g,rowOf am an=some g->¬C g from(fun g hg hF=>by have:=K.old hF;have:=(ao.row hg).2;omega))
   have du:∀g,rowOf am an=some g->¬t g:=fun g hg hF=>(V _ hF).elim (cf g hg) (fun hz=>by have:=(cc.row hg).2;omega)
   have cg:=(show∀g,rowOf Ax cx=some g->¬C g from(K.oU bs (by decide) (by decide)))
   have dw:∀g,rowOf Ax cx=some g->¬t g:=fun g hg hF=>(V _ hF).elim (cg g hg) (fun hz=>by have:=(bs.row hg).2;omega)
   have ci:=(show∀g,rowOf Ay cy=some g->¬C g from(K.oU bt (by decide) (by decide)))
   have dx:∀g,rowOf Ay cy=some g->¬t g:=fun g hg hF=>(V _ hF).elim (ci g hg) (fun hz=>by have:=(bt.row hg).2;omega)
   have cj:=(show¬C ai from(K.Dk bu (by decide) (by decide)))
   have dy:¬t ai:=fun hF=>(V _ hF).elim cj (fun hz=>by have:=bu.lt;omega)
   have ck:=(show∀g,rowOf Ao co=some g->¬C g from(K.oU bv (by decide) (by decide)))
   have dz:∀g,rowOf Ao co=some g->¬t g:=fun g hg hF=>(V _ hF).elim (ck g hg) (fun hz=>by have:=(bv.row hg).2;omega)
   have cm:=(show∀g,rowOf ab ac=some g->¬C g from(K.oU aY (by decide) (by decide)))
   have dA:∀g,rowOf ab ac=some g->¬t g:=fun g hg hF=>(V _ hF).elim (cm g hg) (fun hz=>by have:=(aY.row hg).2;omega)
   have cp:=(show∀g,rowOf ar au=some g->¬C g from(K.oU bw (by decide) (by decide)))
   have dB:∀g,rowOf ar au=some g->¬t g:=fun g hg hF=>(V _ hF).elim (cp g hg) (fun hz=>by have:=(bw.row hg).2;omega)
   have cq:=(show∀g,rowOf av aw=some g->¬C g from(K.oU bx (by decide) (by decide)))
   have dC:∀g,rowOf av aw=some g->¬t g:=fun g hg hF=>(V _ hF).elim (cq g hg) (fun hz=>by have:=(bx.row hg).2;omega)
   have cr:=(show¬C ax from(K.Dk bz (by decide) (by decide)))
   have dD:¬t ax:=fun hF=>(V _ hF).elim cr (fun hz=>by have:=bz.lt;omega)
   have cs:=(show∀g,rowOf ad ae=some g->¬C g from(K.oU aZ (by decide) (by decide)))
   have dE:∀g,rowOf ad ae=some g->¬t g:=fun g hg hF=>(V _ hF).elim (cs g hg) (fun hz=>by have:=(aZ.row hg).2;omega)
   have ct:=(show∀g,rowOf af ah=some g->¬C g from(K.oU bA (by decide) (by decide)))
   have dG:∀g,rowOf af ah=some g->¬t g:=fun g hg hF=>(V _ hF).elim (ct g hg) (fun hz=>by have:=(bA.row hg).2;omega)
   refine G.nil (E.eY (WC.draw [0,1,2,3,4,5,6,7,8,9] mixed (by kernel_rfl) fun dH H=>(Gn 3 rfl (Ga rfl (.fV k underlying22 iI rfl rfl (aS.vec.isSome eQ (by omega)) rfl (by omega)) ?_))))
   have cu:=((aY.iQ L cm).le H)
   refine Gd rfl (.j5 iJ rfl cu.vec eQ (gD b.1 eO (by first|omega|(simp only[List.length_cons,List.length_nil];omega)))) ?_
   refine Gn 2 rfl (Ga rfl (.fV k underlying47 kR rfl rfl (bm.vec.isSome fT (by omega)) rfl (by omega)) ?_)
   have cv:=((aZ.iQ L cs).le H)
   refine Gd rfl (.jB (v:= .int .i64 (((fq b.1 ((fw a n).getD i 0) x).1).getD k 0)) gM rfl cv.vec fT (gD ((fq b.1 ((fw a n).getD i 0) x).1) 0 (by first|omega|(simp only[List.length_cons,List.length_nil];omega))) rfl) ?_
   have bB:=(dr.le H)
   refine G.ef rfl rfl rfl rfl rfl (Ef.call aaW rfl rfl (UD (b.1.getD k eO) (((fq b.1 ((fw a n).getD i 0) x).1).getD k 0) dH bB (by omega)) ?_)
   rintro _ eG ⟨rfl,dI,dJ,eH,O⟩
   refine⟨_,rfl,?_⟩
   refine noT (by kernel_rfl) ?_
   have dK:=((bs.iQ L cg).le H).iQ O (show∀g,rowOf Ax cx=some g->¬t g from dw)
   have dL:=((bt.iQ L ci).le H).iQ O (show∀g,rowOf Ay cy=some g->¬t g from dx)
   have dM:=((bu.iQ L cj).le H).iQ O (show¬t ai from dy)
   have dN:=((bv.iQ L ck).le H).iQ O (show∀g,rowOf Ao co=some g->¬t g from dz)
   have dO:=(((b8.le D).chT L K (by decide) (by decide) (by decide) (by decide)).le H).chT O bB (by decide) (by decide) (by decide) (by decide)
   have dP:=cu.iQ O (show∀g,rowOf ab ac=some g->¬t g from dA)
   have dQ:=((bw.iQ L cp).le H).iQ O (show∀g,rowOf ar au=some g->¬t g from dB)
   have dR:=((bx.iQ L cq).le H).iQ O (show∀g,rowOf av aw=some g->¬t g from dC)
   have dS:=((bz.iQ L cr).le H).iQ O (show¬t ax from dD)
   have dU:=cv.iQ O (show∀g,rowOf ad ae=some g->¬t g from dE)
   have dV:=((bA.iQ L ct).le H).iQ O (show∀g,rowOf af ah=some g->¬t g from dG)
   refine G.nil (E.gI (E.eY (WC.region (Wn 1 rfl (Wa (.add rfl rfl (by omega)) rfl (Wn 1 rfl (W.nil (E.again (k+1,dI) (.of rfl) ?_ ?_))))))))
   ·exact⟨by omega,((((b4.trans D).nP L (fun i hi=>Nat.le_trans aK.size (K.old hi))).trans H).nP O (fun i hi=>Nat.le_trans aK.size (bB.old hi))),by have:=b5;have:=D.size;have:=L.size;have:=H.size;have:=O.size;omega,(((ca.iQ L ce).le H).iQ O (show¬t P from ds)),(((cc.iQ L cf).le H).iQ O (show∀g,rowOf am an=some g->¬t g from du)),dJ,dM,dK,dL,dN,dO,dP,dS,dQ,dR,dU,dV⟩
   first|omega|(simp only[];omega)
  refine Cn rfl (dF c4) (WC.exit (E.fC (E.fC (E.gW (E.eY (Sr ?_))))))
  have hlz:=hlo;have hlc:=bj.2
  unfold kP at hlz hlc
  have hkl:k=b.1.length:=by omega
  have Z6:okF b.2.1:=by rw[aq];exact(vg hgs bl).1
  have hmm:jW (fE (⟨s.fQ.n,s.fQ.d⟩:Fr)) (fE (⟨b.2.1.n,b.2.1.d⟩:Fr))=jW s.fQ b.2.1:=by rw[qM (show okF (⟨s.fQ.n,s.fQ.d⟩:Fr)from hok),qM (show okF (⟨b.2.1.n,b.2.1.d⟩:Fr)from Z6)]
  refine Wr (.fB gQ (by rfl) rfl aC) rfl ?_
  refine Wr (.fB gQ (by rfl) rfl b9) rfl ?_
  refine W.cl WA rfl rfl (CW l bn.vec bo.vec (by omega) (by omega) bn.cap.1 bo.cap.1 bp.vec bq.vec (by omega) (by omega) bp.cap.1 bq.cap.1) ?_
  rintro _ eI ⟨cw,cz,cA,cB,rfl,bC,bD,X⟩
  have cC:=(aC.le X)
  refine W.sA gV rfl rfl cC ?_
  intro cD bE U
  have bE:fA cD ai 37 #[.slice cw ((eP ((jW (fE (⟨s.fQ.n,s.fQ.d⟩:Fr)) (fE (⟨(b.2.1.n),b.2.1.d⟩:Fr))).n)).length) cz,.slice cA ((eP ((jW (fE (⟨s.fQ.n,s.fQ.d⟩:Fr)) (fE (⟨(b.2.1.n),b.2.1.d⟩:Fr))).d)).length) cB]:=bE
  refine Nx (WC.region (Wn 3 rfl (Wa (.fV i underlying47 kR rfl rfl (ao.vec.isSome fT (by omega)) rfl (by omega)) rfl ?_)))
  have cE:=((b7.le X).cb U (ao.rn (by have:=aa.size;have:=T.size;omega)))
  refine Wr (.jB (v:= .int .i64 ((fw a n).getD i 0)) gM rfl cE.vec fT (gD (fw a n) 0 (by first|omega|(simp only[List.length_cons,List.length_nil];omega))) rfl) rfl ?_
  refine Wn 3 rfl (Wa (.gF (sM (⟨((fw a n).getD i 0),ab,b.1.length,ac,ad,(fq b.1 ((fw a n).getD i 0) x).1.length,ae,af,(fq b.1 ((fw a n).getD i 0) x).2.1.length,ah⟩:yU)) abk z87 rfl rfl) rfl (W.ef rfl rfl rfl (Ef.gq (len:=1) [_] underlying41 Tn rfl (by simp[Value.cells,gy.len]) rfl (by decide) (by decide) ?_)))
  intro cF cG dW a0 Q
  have a0:fA cG cF 87 (([(⟨((fw a n).getD i 0),ab,b.1.length,ac,ad,(fq b.1 ((fw a n).getD i 0) x).1.length,ae,af,(fq b.1 ((fw a n).getD i 0) x).2.1.length,ah⟩:yU)]).map sM).flatten.toArray:=a0
  have eJ:eU cG cD.heap.size 87 sM 4 (some ⟨cF,0,none⟩) 1 1 ([(⟨((fw a n).getD i 0),ab,b.1.length,ac,ad,(fq b.1 ((fw a n).getD i 0) x).1.length,ae,af,(fq b.1 ((fw a n).getD i 0) x).2.1.length,ah⟩:yU)]):=a0.kL dW gy rfl rfl (by decide)
  have aF:=(((aE.le X).cb U (aE.rl (by have:=aO.lt;omega))).le Q)
  refine W.ef rfl rfl rfl (Ef.mP (a:=(⟨((fw a n).getD i 0),ab,b.1.length,ac,ad,(fq b.1 ((fw a n).getD i 0) x).1.length,ae,af,(fq b.1 ((fw a n).getD i 0) x).2.1.length,ah⟩:yU)) underlying41 Tn underlying41 gy rfl aF rfl a0 (by omega) (by unfold maxLen;omega) (by have:=aX;have:=X.size;have:=U.size;have:=Q.size;omega) ?_)
  intro dX dY dZ d0 Y eK
  have d1:=(((b4.trans X).tb U bc bd).trans Q).gG Y (fun q hq=>Nat.le_trans aM.size (aF.row hq).1)
  refine Wn 1 rfl ?_
  have d2:=((((b8.le X).qy U cC (by decide) (by decide)).le Q).MZ Y aF (by decide) (by decide))
  have d3:=((((aU.le X).cb U (aU.rl (by have:=aA.lt;omega))).le Q).ch Y (fun q h1 h2=>by have:=(ap.row h1).2;have:=(aU.row h2).1;omega))
  have d4:=((((aV.le X).cb U (aV.rl (by have:=aA.lt;have:=e.size;have:=f.size;have:=j.size;omega))).le Q).ch Y (fun q h1 h2=>by have:=(ap.row h1).2;have:=(aV.row h2).1;have:=e.size;have:=f.size;have:=j.size;omega))
  have d5:=((((aW.le X).cb U (aW.rl (by have:=aA.lt;have:=e.size;have:=f.size;have:=j.size;omega))).le Q).ch Y (fun q h1 h2=>by have:=(ap.row h1).2;have:=(aW.row h2).1;have:=e.size;have:=f.size;have:=j.size;omega))
  have zpa:oQ dZ J.heap.size (⟨((fw a n).getD i 0),ab,b.1.length,ac,ad,(fq b.1 ((fw a n).getD i 0) x).1.length,ae,af,(fq b.1 ((fw a n).getD i 0) x).2.1.length,ah⟩:yU) ⟨((fw a n).getD i 0),b.1,(fq b.1 ((fw a n).getD i 0) x).1,(fq b.1 ((fw a n).getD i 0) x).2.1⟩:=⟨rfl,d3.mono (by have:=aX;omega),d4.mono (by have:=aX;have:=e.size;have:=f.size;have:=j.size;omega),d5.mono (by have:=aX;have:=e.size;have:=f.size;have:=j.size;omega)⟩
  have Xq:=d2.push zpa
  refine W.nil (E.gI (E.eY (WC.region (Wn 1 rfl (Wa (.add rfl rfl (by omega)) rfl (Wn 1 rfl (W.nil ?_)))))))
  have d6:=((((b6.le X).cn U (by have:=I.lt;have:=y.size;have:=R.size;have:=S.size;have:=Z.size;have:=aa.size;have:=T.size;omega)).le Q).ch Y (aF.rl (by have:=bf.lt;omega)))
  have d7:=((cE.le Q).ch Y (Apart.symm (fun q h1 h2=>by have:=(bQ.row h1).2;have:=(aF.row h2).1;omega)))
  have d8:=((((aT.le X).ch U (fun q hqq hF=>by cases hqq;exact(aT.Dk aC (by decide) (by decide)) hF)).le Q).ch Y (fun q hqq hF=>(aT.oU aE (by decide) (by decide)) q hqq hF))
  have d9:=((bE.le Q).ch Y (aF.rl (by have:=aO.lt;omega)))
  have ea:=(((bC.cb U (bC.rl (by have:=aC.lt;omega))).le Q).ch Y (fun q h1 h2=>by have:=(aE.row h1).2;have:=(bC.row h2).1;omega))
  have eb:=(((bD.cb U (bD.rl (by have:=aC.lt;omega))).le Q).ch Y (fun q h1 h2=>by have:=(aE.row h1).2;have:=(bD.row h2).1;omega))
  refine E.again (i+1,(⟨s.out++[⟨((fw a n).getD i 0),b.1,(fq b.1 ((fw a n).getD i 0) x).1,(fq b.1 ((fw a n).getD i 0) x).2.1⟩],jW s.fQ b.2.1,tq s.m b.1 (fq b.1 ((fw a n).getD i 0) x).1 b.1.length⟩:AV),(N+3*b.1.length),C,dX,dY,(ro++[(⟨((fw a n).getD i 0),ab,b.1.length,ac,ad,(fq b.1 ((fw a n).getD i 0) x).1.length,ae,af,(fq b.1 ((fw a n).getD i 0) x).2.1.length,ah⟩:yU)]),cw,cz,cA,cB) (.cons rfl (.cons rfl (.cons rfl (.cons rfl (.cons rfl (.cons rfl (.cons rfl (.cons rfl (.cons rfl (.cons' rfl (kJ (by simp)) (.cons rfl (.nil _)))))))))))) ?_ ?_
  ·exact⟨by omega,(by rw[xP (by omega) hs,Jw bl];unfold stepT;rw[<-aq]),((hlo.mul bj.2).up (by omega)),Aj hok Z6,by omega,d1,by have:=db;have:=X.size;have:=U.size;have:=Q.size;have:=Y.size;have:=b5;have:=a1.size;have:=y.size;have:=R.size;have:=S.size;have:=Z.size;have:=aa.size;have:=T.size;have:=aj.size;have:=ak.size;have:=e.size;have:=f.size;have:=j.size;have:=o.size;omega,d6,d7,(d8.up (by show tq _ _ _ k=_;rw[hkl]) (by omega)),(by have q:=d9;rw[hmm]at q;exact q),((ea.mono (by omega)).cast (by rw[hmm]) (by rw[hmm])),((eb.mono (by omega)).cast (by rw[hmm]) (by rw[hmm])),(d0.cast (by simp) rfl),Xq⟩
  first|omega|(simp only[];omega)
 refine Cn rfl (dF c2) (WC.exit (E.fC (E.fC (E.gW (E.eY (Sq (WC.draw [0,1,2,3,4] mixed (by kernel_rfl) fun eL ay=>(Gn 1 rfl (Gd rfl (.fB gQ (by rfl) rfl (aA.le ay)) ?_)))))))))
 refine Gn 1 rfl ?_
 have cH:=(aI.le ay)
 refine G.iO rfl rfl rfl rfl (Ef.storeAll gV (by rfl) rfl rfl cH (by rfl) (by simp[Value.oneCell']) ?_)
 intro ec bF aJ
 refine noT (by kernel_rfl) ?_
 have bF:fA ec P 37 #[.slice Ax ((eP s.fQ.n).length) cx,.slice Ay ((eP s.fQ.d).length) cy]:=bF
 refine Gn 1 rfl (G.nil (E.eY (Rt ?_)))
 have ed:=((bR.le ay).qy aJ cH (by decide) (by decide))
 have ee:=((ap.le ay).cb aJ (ap.rl (by have:=bf.lt;omega)))
 have eg:=((aQ.le ay).cb aJ (aQ.rl (by have:=I.lt;have:=y.size;have:=R.size;have:=S.size;have:=Z.size;have:=aa.size;omega)))
 have eh:=((aR.le ay).cb aJ (aR.rl (by have:=I.lt;have:=y.size;have:=R.size;have:=S.size;have:=Z.size;have:=aa.size;omega)))
 refine E.gU rfl rfl (iB rfl bF gQ (by rfl)) rfl ?_
 have hil:i=(fw a n).length:=(by omega)
 have htl:(fw a n).take i=fw a n:=(by rw[hil,List.take_length])
 rw[htl]at hs
 have hcnt:=xQ hs
 rw[EL a5 hsn hs]
 exact⟨_,_,_,_,_,_,_,rfl,(ee.mono aM.size),(ed.mono aM.size),(eg.mono a7.size),(eh.mono a7.size),(fun h=>by have h':s.out=[]:=h;rw[h']at hcnt;have:=List.length_pos_iff.2 hsn;simp at hcnt;omega),((bg.trans ay).tb aJ L0 az)⟩

theorem K6 {base gp:Nat}{F:Nat->Prop}{s0:MF×Nat}(fr to a x n:Int){A:Option Addr}{n0 c:Nat}{g:List fO.Edge}(w:World)(hP:ib w base gp F s0)(hV:Vec w fD 9 A n0 g)(hn:n0<=1000000)(ha:a<=9223372036854775807)(hN:s0.2<=90000):Calls prog 11 #[.slice A n0 c,.pointer (some ⟨gp,0,none⟩),.int .i64 fr,.int .i64 to,.int .i64 a,.int .i64 x,.int .i64 (n)] w fun r w'=>∃A c rs An cn Ad cd,r= .returned (.tuple #[.slice A (gK g s0.1 fr to a x n).1.length c,.agg #[.slice An (eP (gK g s0.1 fr to a x n).2.1.n).length cn,.slice Ad (eP (gK g s0.1 fr to a x n).2.1.d).length cd],.int .i64 (gK g s0.1 fr to a x n).2.2])/\eU w' w.heap.size 87 sM 4 A (gK g s0.1 fr to a x n).1.length c rs/\il w' w.heap.size rs (gK g s0.1 fr to a x n).1/\eU w' w.heap.size 143 dv 1 An (eP (gK g s0.1 fr to a x n).2.1.n).length cn (eP (gK g s0.1 fr to a x n).2.1.n)/\eU w' w.heap.size 143 dv 1 Ad (eP (gK g s0.1 fr to a x n).2.1.d).length cd (eP (gK g s0.1 fr to a x n).2.1.d)/\((gK g s0.1 fr to a x n).1=[]->A=none)/\Le w w':=by
 have hl:=hV.1
 have hgm:=hP.good
 refine enter func11 rfl rfl ?_
 have L:=Le.refl w
 refine Sr (Wn 1 rfl (W.ef rfl rfl rfl (Ef.fI z37 fun H aU X (Y:fA aU H 37 #[.slice none 0 0,.slice none 0 0]) aC=>?_)))
 have Z:=L.trans aC
 refine Wn 1 rfl (Nx (Sq (Sr (Wn 2 rfl ?_))))
 by_cases aE:n<1
 ·refine Dt aE rfl rfl (Wn 3 rfl (Nx (WC.gL rfl (Sr (Wa (.gF [.slice none 0 0,.slice none 0 0] jY z37 rfl rfl) rfl (Wn 1 rfl (W.sA gV rfl rfl Y ?_)))))))
  intro aV an aW
  have an:fA aV H 37 #[.slice none 0 0,.slice none 0 0]:=an
  have L2:=Z.tb aW L X
  refine Wn 1 rfl (Nx (Rt (E.eX (E.gU rfl rfl (iB rfl an gQ (by rfl)) rfl ?_))))
  have hsg:gK g s0.1 fr to a x n=([],⟨0,0⟩,1):=(by unfold gK;rw[if_pos (by omega)])
  rw[hsg]
  exact⟨none,0,[],none,0,none,0,by simp only[eT];rfl,eU.nil _ _ _ _ _ _,il.nil _ _,by simp only[eT];exact eU.nil _ _ _ _ _ _,by simp only[eT];exact eU.nil _ _ _ _ _ _,fun _=>rfl,L2⟩
 refine Df aE rfl rfl (Wn 3 rfl (Nx ?_))
 by_cases c0:8<n
 ·refine Cy rfl (dT c0) (Sr (Wa (.gF [.slice none 0 0,.slice none 0 0] jY z37 rfl rfl) rfl (Wn 1 rfl (W.sA gV rfl rfl Y ?_))))
  intro aX ao aY
  have ao:fA aX H 37 #[.slice none 0 0,.slice none 0 0]:=ao
  have L3:=Z.tb aY L X
  refine Wn 1 rfl (Nx (Rt (E.eX (E.gU rfl rfl (iB rfl ao gQ (by rfl)) rfl ?_))))
  have hsg:gK g s0.1 fr to a x n=([],⟨0,0⟩,1):=(by unfold gK;rw[if_pos (by omega)])
  rw[hsg]
  exact⟨none,0,[],none,0,none,0,by simp only[eT];rfl,eU.nil _ _ _ _ _ _,il.nil _ _,by simp only[eT];exact eU.nil _ _ _ _ _ _,by simp only[eT];exact eU.nil _ _ _ _ _ _,fun _=>rfl,L3⟩
 refine Cn rfl (dF c0) (Sn (Sr (Wn 1 rfl (Nx (Sr (W.ef rfl rfl rfl (Ef.fI z37 fun N s aF (aZ:fA s N 37 #[.slice none 0 0,.slice none 0 0]) ap=>?_)))))))
 have L4:=Z.trans ap
 refine Nx (Sq (Sr ?_))
 have a0:fA s N 37 #[.slice none (eP 0).length 0,.slice none (eP 0).length 0]:=by rw[eT];exact aZ
 have aG:eU s s.heap.size 143 dv 1 none (eP 0).length 0 (eP 0):=by rw[eT];exact eU.nil _ _ _ _ _ _
 refine Wn 1 rfl (Nx (WC.block ?_))
 have f5:=(hP.le (aC.trans ap))
 have f6:=(Y.le ap)
 refine WC.loop (ι:=Nat×(List tK×Fr×Int)×(Option Addr)×Nat×(List yU)×(Option Addr)×Nat×(Option Addr)×Nat) (fun⟨i,b,Ab,cb,rb,Ax,cx,Ay,cy⟩=>[(0,.slice A n0 c),(1,.pointer (some ⟨gp,0,none⟩)),(2,.int .i64 fr),(3,.int .i64 to),(4,.int .i64 a),(5,.int .i64 x),(6,.int .i64 n),(15,.pointer (some ⟨H,0,none⟩)),(17,.slice Ab b.1.length cb),(18,.pointer (some ⟨N,0,none⟩)),(19,.int .i64 (((i:Nat):Int)+1))]) (fun⟨i,b,Ab,cb,rb,Ax,cx,Ay,cy⟩ t=>(i<=n.toNat)/\(b=(List.range i).foldl (nW g s0.1 fr to a x) ([],⟨0,0⟩,19))/\((b.2.2=0/\b.1≠[])\/b=([],⟨0,0⟩,19))/\(0<i->(gz g s0.1 fr to a x).2.2≠1)/\((eP b.2.1.n).length<=900/\(eP b.2.1.d).length<=900)/\Le w t/\s.heap.size<=t.heap.size/\ib t base gp F s0/\fA t H 37 #[.slice none 0 0,.slice none 0 0]/\eU t s.heap.size 87 sM 4 Ab b.1.length cb rb/\il t s.heap.size rb b.1/\fA t N 37 #[.slice Ax ((eP b.2.1.n).length) cx,.slice Ay ((eP b.2.1.d).length) cy]/\eU t s.heap.size 143 dv 1 Ax ((eP b.2.1.n).length) cx (eP b.2.1.n)/\eU t s.heap.size 143 dv 1 Ay ((eP b.2.1.d).length) cy (eP b.2.1.d)) (fun⟨i,b,Ab,cb,rb,Ax,cx,Ay,cy⟩=>n.toNat-i) (0,(([],⟨0,0⟩,19):List tK×Fr×Int),none,0,([]),none,0,none,0) ?_ ?_ ?_
 ·exact .cons rfl (.cons rfl (.cons rfl (.cons rfl (.cons rfl (.cons rfl (.cons rfl (.cons rfl (.cons rfl (.cons rfl (.cons' rfl rfl (.nil _)))))))))))
 ·exact⟨Nat.zero_le _,rfl,.inr rfl,fun h=>absurd h (Nat.not_lt_zero _),by simp only[eT];exact⟨Nat.zero_le _,Nat.zero_le _⟩,L4,Nat.le_refl _,f5,f6,(eU.nil s s.heap.size 87 sM 4 none),(il.nil s s.heap.size),a0,aG,aG⟩
 rintro⟨i,b,Ab,cb,rb,Ax,cx,Ay,cy⟩ t ⟨hi,hb,hbz,aH,hlb,ah,ai,D,C,O,aq,u,P,Q⟩
 have bC:s.heap.size<=t.heap.size:=by omega
 have bD:s.heap.size<=t.heap.size:=by omega
 have bE:s.heap.size<=t.heap.size:=by omega
 have bF:s.heap.size<=t.heap.size:=by omega
 refine Sq (Sr (Wn 3 rfl (Nx ?_)))
 by_cases c1:(((i:Nat):Int)+1)<=n
 ·refine Cy rfl (dT c1) (Sn (Sq (WC.block (Sr (Wn 7 rfl ?_)))))
  obtain⟨l,y⟩:∃z,z=(jk g s0.1 fr to a x (((i:Nat):Int)+1)):=⟨_,rfl⟩
  have Xt:(jk g s0.1 fr to a x (((i:Nat):Int)+1))=l:=y.symm
  have aj:=uy (g:=g) (m:=s0.1) (fr:=fr) (to:=to) (a:=a) (x:=x) (n:=(((i:Nat):Int)+1)) hgm
  rw[<-y]at aj;unfold kP at aj
  refine W.cl go9 rfl rfl (by have k:=E5 (c:=c) fr to a x (((i:Nat):Int)+1) t D (hV.le ah) (by omega) (by omega) (by omega);rw[Xt]at k;exact k) ?_
  rintro _ bG ⟨aI,aJ,aK,R,S,T,U,rfl,V,ar,aa,ab,bH,e⟩
  have L7:=ah.trans e
  have bI:=ar.1
  refine Wn 2 rfl (Wa (.extract (v:= .agg #[.slice R ((eP l.2.1.n).length) S,.slice T ((eP l.2.1.d).length) U]) rfl rfl) rfl (Wn 1 rfl (W.ef rfl rfl rfl (Ef.fI z37 fun aL a1 ac (ad:fA a1 aL 37 #[.slice none 0 0,.slice none 0 0]) f=>(Wn 1 rfl (W.sA gV rfl rfl ad ?_))))))
  intro aM ae j
  have ae:fA aM aL 37 #[.slice R ((eP l.2.1.n).length) S,.slice T ((eP l.2.1.d).length) U]:=ae
  have L9:=(L7.trans f).tb j L7 ac
  refine Wn 1 rfl (Nx (Sq (Sr (Wn 2 rfl (Nx ?_)))))
  by_cases c2:l.2.2=1
  ·refine Cy rfl (dT c2) (Sr (Wa (.gF [.slice none 0 0,.slice none 0 0] jY z37 rfl rfl) rfl (Wn 1 rfl (W.sA gV rfl rfl ((C.le (e.trans f)).cn j (by have:=C.lt;have:=e.size;omega)) ?_))))
   intro a2 au a3
   have au:fA a2 H 37 #[.slice none 0 0,.slice none 0 0]:=au
   have a4:=L9.tb a3 L X
   refine Wn 1 rfl (Nx (Rt (E.eX (E.gT (E.eX (E.eX (E.gT (E.eX (E.gU rfl rfl (iB rfl au gQ (by rfl)) rfl ?_)))))))))
   have hsg:gK g s0.1 fr to a x n=([],⟨0,0⟩,1):=(by unfold gK;rw[if_pos (.inr (.inr (Jy (n:=(i:Int)+1) (by omega) (by omega) (by rw[<-y];omega))))])
   rw[hsg]
   exact⟨none,0,[],none,0,none,0,by simp only[eT];rfl,eU.nil _ _ _ _ _ _,il.nil _ _,by simp only[eT];exact eU.nil _ _ _ _ _ _,by simp only[eT];exact eU.nil _ _ _ _ _ _,fun _=>rfl,a4⟩
  refine Cn rfl (dF c2) (Sn (Sr (Wn 2 rfl ?_)))
  by_cases aO:l.2.2=0
  ·refine Dt aO rfl rfl (Wn 1 rfl (Wg (.len underlying41 rfl) rfl (Wn 1 rfl ?_)))
   by_cases aP:((b.1.length:Nat):Int)=0
   ·refine Wg (Any.rd (.dec (.move rfl) (dT aP)) _) rfl (Wn 4 rfl (Wg (Any.rd (.mM rfl rfl rfl) _) rfl (Wn 1 rfl (Nx (WC.gL rfl (Sr (Wn 2 rfl (Nx (WC.region (Wr (.fB gQ (by rfl) rfl ae) rfl ?_))))))))))
    have aQ:=((u.le (e.trans f)).cn j (by have:=u.lt;have:=e.size;omega))
    refine W.sA gV rfl rfl aQ ?_
    intro a5 av I
    have av:fA a5 N 37 #[.slice R ((eP l.2.1.n).length) S,.slice T ((eP l.2.1.d).length) U]:=av
    have a6:=L9.tb I Z aF
    refine W.nil (E.gI (E.eY (WC.region (Wn 1 rfl (Wa (.add rfl rfl (by omega)) rfl (Wn 1 rfl (W.nil ?_)))))))
    have a7:=(((D.le (e.trans f)).ch j (fun q hqq hF=>by cases hqq;have:=D.lt hF;have:=e.size;have:=ac;omega)).ch I (fun q hqq hF=>by cases hqq;exact(D.Dk u (by decide) (by decide)) hF))
    have a8:=(((C.le (e.trans f)).cn j (by have:=C.lt;have:=e.size;omega)).cn I (by have:=Y.lt;omega))
    have a9:=(((V.le f).cb j (V.rn (by omega))).cb I (V.rl (by have:=u.lt;omega)))
    have ba:=(((ar.le f).qy j ad (by decide) (by decide)).qy I aQ (by decide) (by decide))
    have bb:=(((aa.le f).cb j (aa.rn (by omega))).cb I (aa.rl (by have:=u.lt;omega)))
    have bc:=(((ab.le f).cb j (ab.rn (by omega))).cb I (ab.rl (by have:=u.lt;omega)))
    refine E.again (i+1,l,aI,aJ,aK,R,S,T,U) (.cons rfl (.cons rfl (.cons rfl (.cons rfl (.cons rfl (.cons rfl (.cons rfl (.cons rfl (.cons rfl (.cons rfl (.cons' rfl (int_eq (by omega)) (.nil _)))))))))))) ?_ ?_
    ·exact⟨by omega,(by rw[List.range_succ,List.foldl_append,<-hb];show _=nW g s0.1 fr to a x b i;unfold nW;rw[<-y];exact(if_pos ⟨by omega,by first|exact .inl (List.length_eq_zero_iff.1 (by omega))|exact .inr (by omega)⟩).symm),(.inl ⟨by omega,by rw[y];exact(MU hgm (by rw[<-y];omega)).1⟩),fun _ hh=>absurd (by rw[y,kv (.inr (.inr hh))]) (by omega:¬l.2.2=1),aj.1,a6,by have:=ai;have:=e.size;have:=f.size;have:=j.size;have:=I.size;omega,a7,a8,(a9.mono (by omega)),(ba.mono (by omega)),av,(bb.mono (by omega)),(bc.mono (by omega))⟩
    first|omega|(simp only[];omega)
   refine Wg (Any.rd (.dec (.move rfl) (dF aP)) _) rfl (Wg (.fB gQ (by rfl) rfl ae) rfl ?_)
   have aw:=((u.le (e.trans f)).cn j (by have:=u.lt;have:=e.size;omega))
   refine Wg (.fB gQ (by rfl) rfl aw) rfl ?_
   have ak:=((aa.le f).cb j (aa.rn (by omega)))
   have al:=((ab.le f).cb j (ab.rn (by omega)))
   have ax:=((P.le (e.trans f)).cb j (P.rn (by have:=e.size;omega)))
   have ay:=((Q.le (e.trans f)).cb j (Q.rn (by have:=e.size;omega)))
   refine W.mW rfl rfl rfl rfl rfl rfl (Ef.call WE rfl rfl (CV aM ak.vec al.vec (by omega) (by omega) ak.cap.1 al.cap.1 ax.vec ay.vec (by omega) (by omega) ax.cap.1 ay.cap.1) ?_)
   rintro _ bJ ⟨rfl,o⟩
   refine⟨_,rfl,?_⟩
   have aR:=L9.trans o
   refine Wn 1 rfl (Wg (Any.rd (.mO rfl rfl rfl) _) rfl (Wn 1 rfl (Nx ?_)))
   by_cases c3:0<(kQ (fE (⟨l.2.1.n,l.2.1.d⟩:Fr)) (fE (⟨b.2.1.n,b.2.1.d⟩:Fr)))
   ·refine Cy rfl (dT c3) (Sr (Wn 2 rfl (Nx (WC.region (Wr (.fB gQ (by rfl) rfl (ae.le o)) rfl ?_)))))
    have aS:=(aw.le o)
    refine W.sA gV rfl rfl aS ?_
    intro bd az J
    have az:fA bd N 37 #[.slice R ((eP l.2.1.n).length) S,.slice T ((eP l.2.1.d).length) U]:=az
    have be:=aR.tb J Z aF
    refine W.nil (E.gI (E.eY (WC.region (Wn 1 rfl (Wa (.add rfl rfl (by omega)) rfl (Wn 1 rfl (W.nil ?_)))))))
    have bf:=((((D.le (e.trans f)).ch j (fun q hqq hF=>by cases hqq;have:=D.lt hF;have:=e.size;have:=ac;omega)).le o).ch J (fun q hqq hF=>by cases hqq;exact(D.Dk u (by decide) (by decide)) hF))
    have bg:=((((C.le (e.trans f)).cn j (by have:=C.lt;have:=e.size;omega)).le o).cn J (by have:=Y.lt;omega))
    have bh:=((((V.le f).cb j (V.rn (by omega))).le o).cb J (V.rl (by have:=u.lt;omega)))
    have bi:=((((ar.le f).qy j ad (by decide) (by decide)).le o).qy J aS (by decide) (by decide))
    have bj:=((ak.le o).cb J (ak.rl (by have:=u.lt;omega)))
    have bk:=((al.le o).cb J (al.rl (by have:=u.lt;omega)))
    refine E.again (i+1,l,aI,aJ,aK,R,S,T,U) (.cons rfl (.cons rfl (.cons rfl (.cons rfl (.cons rfl (.cons rfl (.cons rfl (.cons rfl (.cons rfl (.cons rfl (.cons' rfl (int_eq (by omega)) (.nil _)))))))))))) ?_ ?_
    ·exact⟨by omega,(by rw[List.range_succ,List.foldl_append,<-hb];show _=nW g s0.1 fr to a x b i;unfold nW;rw[<-y];exact(if_pos ⟨by omega,by first|exact .inl (List.length_eq_zero_iff.1 (by omega))|exact .inr (by omega)⟩).symm),(.inl ⟨by omega,by rw[y];exact(MU hgm (by rw[<-y];omega)).1⟩),fun _ hh=>absurd (by rw[y,kv (.inr (.inr hh))]) (by omega:¬l.2.2=1),aj.1,be,by have:=ai;have:=e.size;have:=f.size;have:=j.size;have:=o.size;have:=J.size;omega,bf,bg,(bh.mono (by omega)),(bi.mono (by omega)),az,(bj.mono (by omega)),(bk.mono (by omega))⟩
    first|omega|(simp only[];omega)
   refine Cn rfl (dF c3) (WC.skip (E.gI (E.eY (WC.region (Wn 1 rfl (Wa (.add rfl rfl (by omega)) rfl (Wn 1 rfl (W.nil ?_))))))))
   have bl:=(((D.le (e.trans f)).ch j (fun q hqq hF=>by cases hqq;have:=D.lt hF;have:=e.size;have:=ac;omega)).le o)
   have bm:=(((C.le (e.trans f)).cn j (by have:=C.lt;have:=e.size;omega)).le o)
   have bn:=(((O.le (e.trans f)).cb j (O.rn (by have:=e.size;omega))).le o)
   have bo:=(((aq.le (e.trans f)).qy j ad (by decide) (by decide)).le o)
   refine E.again (i+1,b,Ab,cb,rb,Ax,cx,Ay,cy) (.cons rfl (.cons rfl (.cons rfl (.cons rfl (.cons rfl (.cons rfl (.cons rfl (.cons rfl (.cons rfl (.cons rfl (.cons' rfl (int_eq (by omega)) (.nil _)))))))))))) ?_ ?_
   ·exact⟨by omega,(by rw[List.range_succ,List.foldl_append,<-hb];show _=nW g s0.1 fr to a x b i;unfold nW;rw[<-y];exact(if_neg (fun hh=>by first|exact absurd hh.1 (by omega)|exact hh.2.elim (fun h=>absurd (show b.1.length=0 by rw[h];rfl) (by omega)) (fun h=>absurd h (by omega)))).symm),hbz,fun _ hh=>absurd (by rw[y,kv (.inr (.inr hh))]) (by omega:¬l.2.2=1),hlb,aR,by have:=ai;have:=e.size;have:=f.size;have:=j.size;have:=o.size;omega,bl,bm,bn,bo,(aw.le o),(ax.le o),(ay.le o)⟩
   first|omega|(simp only[];omega)
  refine Df aO rfl rfl (Wn 4 rfl (W.fZ rfl rfl rfl rfl rfl (W.fZ rfl rfl rfl rfl rfl (W.fZ rfl rfl rfl rfl rfl (W.fZ rfl rfl rfl rfl rfl (Wn 2 rfl (Nx (WC.iD rfl (WC.skip (E.gI (E.eY (WC.region (Wn 1 rfl ?_)))))))))))))
  refine Wa (.add rfl rfl (by omega)) rfl (Wn 1 rfl (W.nil ?_))
  have bp:=((D.le (e.trans f)).ch j (fun q hqq hF=>by cases hqq;have:=D.lt hF;have:=e.size;have:=ac;omega))
  have bq:=((C.le (e.trans f)).cn j (by have:=C.lt;have:=e.size;omega))
  have bs:=((O.le (e.trans f)).cb j (O.rn (by have:=e.size;omega)))
  have bt:=((aq.le (e.trans f)).qy j ad (by decide) (by decide))
  have bu:=((u.le (e.trans f)).cn j (by have:=u.lt;have:=e.size;omega))
  have bv:=((P.le (e.trans f)).cb j (P.rn (by have:=e.size;omega)))
  have bw:=((Q.le (e.trans f)).cb j (Q.rn (by have:=e.size;omega)))
  refine E.again (i+1,b,Ab,cb,rb,Ax,cx,Ay,cy) (.cons rfl (.cons rfl (.cons rfl (.cons rfl (.cons rfl (.cons rfl (.cons rfl (.cons rfl (.cons rfl (.cons rfl (.cons' rfl (int_eq (by omega)) (.nil _)))))))))))) ?_ ?_
  ·exact⟨by omega,(by rw[List.range_succ,List.foldl_append,<-hb];show _=nW g s0.1 fr to a x b i;unfold nW;rw[<-y];exact(if_neg (fun hh=>by first|exact absurd hh.1 (by omega)|exact hh.2.elim (fun h=>absurd (show b.1.length=0 by rw[h];rfl) (by omega)) (fun h=>absurd h (by omega)))).symm),hbz,fun _ hh=>absurd (by rw[y,kv (.inr (.inr hh))]) (by omega:¬l.2.2=1),hlb,L9,by have:=ai;have:=e.size;have:=f.size;have:=j.size;omega,bp,bq,bs,bt,bu,bv,bw⟩
  first|omega|(simp only[];omega)
 refine Cn rfl (dF c1) (WC.exit (E.fC (E.fC (E.gW (E.eY (Sq (Sr (Wn 1 rfl (Wr (.len underlying41 rfl) rfl (Wn 1 rfl (Nx ?_)))))))))))
 by_cases c4:((b.1.length:Nat):Int)=0
 ·refine Cy rfl (dT c4) (Sr (Wa (.gF [.slice none 0 0,.slice none 0 0] jY z37 rfl rfl) rfl (Wn 1 rfl (W.sA gV rfl rfl C ?_))))
  intro bx aA bz
  have aA:fA bx H 37 #[.slice none 0 0,.slice none 0 0]:=aA
  have bA:=ah.tb bz L X
  refine Wn 1 rfl (Nx (Rt (E.eX (E.gU rfl rfl (iB rfl aA gQ (by rfl)) rfl ?_))))
  have hil:i=n.toNat:=(by omega)
  have hsg:gK g s0.1 fr to a x n=b:=(by rw[hb,hil];unfold gK;rw[if_neg (fun hh=>by have:=aH (by omega);omega)])
  have am:b=([],⟨0,0⟩,19):=hbz.resolve_left (fun hh=>hh.2 (List.length_eq_zero_iff.1 (by omega)))
  rw[hsg,am]
  exact⟨none,0,[],none,0,none,0,by simp only[eT];rfl,eU.nil _ _ _ _ _ _,il.nil _ _,by simp only[eT];exact eU.nil _ _ _ _ _ _,by simp only[eT];exact eU.nil _ _ _ _ _ _,fun _=>rfl,bA⟩
 refine Cn rfl (dF c4) (Sn (Sq (WC.draw [0,1,2,3,4] mixed (by kernel_rfl) fun bK K=>(Gn 1 rfl (Gd rfl (.fB gQ (by rfl) rfl (u.le K)) ?_)))))
 refine Gn 1 rfl ?_
 have aT:=(C.le K)
 refine G.iO rfl rfl rfl rfl (Ef.storeAll gV (by rfl) rfl rfl aT (by rfl) (by simp[Value.oneCell']) ?_)
 intro bB aB af
 refine noT (by kernel_rfl) ?_
 have aB:fA bB H 37 #[.slice Ax ((eP b.2.1.n).length) cx,.slice Ay ((eP b.2.1.d).length) cy]:=aB
 refine Gn 1 rfl (G.nil (E.eY (Rt (E.gU rfl rfl (iB rfl aB gQ (by rfl)) rfl ?_))))
 have hil:i=n.toNat:=(by omega)
 have hsg:gK g s0.1 fr to a x n=b:=(by rw[hb,hil];unfold gK;rw[if_neg (fun hh=>by have:=aH (by omega);omega)])
 have am:b.2.2=0/\b.1≠[]:=hbz.resolve_right (fun hh=>absurd (show b.1.length=0 by rw[hh];rfl) (by omega))
 rw[hsg,am.1]
 exact⟨_,_,_,_,_,_,_,rfl,(((O.le K).cb af (O.rl (by have:=f6.lt;omega))).mono L4.size),(((aq.le K).qy af aT (by decide) (by decide)).mono L4.size),(((P.le K).cb af (P.rl (by have:=f6.lt;omega))).mono L4.size),(((Q.le K).cb af (Q.rl (by have:=f6.lt;omega))).mono L4.size),(fun h=>absurd h am.2),((ah.trans K).tb af L X)⟩
end Go.Proofs.YtkaedikifgpkeaaGreatDoor

