/- LedgerSides: for every input the law answers true and leaves its arguments as they were. -/
import Derived.Test.YtkpmaajniagncaaGreatDoorLedgerSidesR
set_option linter.defProp false
set_option linter.unusedVariables false
set_option linter.unusedSimpArgs false
namespace Go.Proofs.YtkpmaajniagncaaGreatDoor
open Tryz
open Go Go.Sx Go.Fv Go.Num Go.KJ Go.Gz Go.Lsp Go.JQ Go.yA Go.Scp Go.E8
set_option maxRecDepth 20000
def ZE (p:Nat×Nat):List Value:=[.int .u64 (p.1:Int),.int .u64 (p.2:Int)]
theorem SG:kM ZE 2:=⟨fun _=>rfl,fun x v hv=>by simp[ZE]at hv;rcases hv with rfl|rfl<;>rfl,by decide⟩
variable {w w':World}
theorem C8.chS {g t:Nat}{m:sF}(h:C8 w)(k:iX w w' (fun q=>q=g\/rowOf (m.a 2).A (m.a 2).c=some q))(hb:ik w g t (tX m).toArray)(hr:rowOf (m.a 2).A (m.a 2).c≠some 4):C8 w':=fun j hj=>by
 have hc:=h j hj
 have hg:g≠4:=fun e=>by
  subst e
  have f:=h 1 (by decide)
  have d:=hb.cell (i:=1)
  rw[f]at d
  exact absurd d (by simp[tX,mU,Lib.deBruijn64tab])
 exact(World.cell?_of_block (w:=w) (a:=⟨4,j,none⟩) (k.block 4 (World.block_lt_of_cell? w _ hc) (fun e=>e.elim (fun e=>hg e.symm) hr))).trans hc
theorem QE {g:Nat}{z:jU}{a:Nat->kZ}(w:World)(hb:ik w g 80 (tX ⟨z,a⟩).toArray)(hV:Vec w jv 1 (a 3).A (a 3).n (jF z.nk++jZ z.sd z.nk 21))(hsd:z.sd.length=32)(hn:z.nk<14):Calls prog 186 #[.pointer (some ⟨g,0,none⟩)] w fun r w'=>∃g st,r= .returned (.pointer (some ⟨g,0,none⟩))/\w.heap.size<=g/\ik w' g 241 (sV st).toArray/\mX w' w.heap.size st.ps (z.sd,z.nk,21)/\st.nx=z.nk/\Le w w':=by
 refine En func186 Z ?_
 have d:=Le.refl w
 refine Rn 1 Z (Rr 3 Z (Yk (.slice ((a 3).A) ((a 3).n) ((a 3).c)) Z (hb.le d) Z (Yd Z (YP z.sd z.nk w (hV.le d) hsd hn) ?_)))
 rintro _ l ⟨m,o,rfl,e,f,i,j,k⟩
 refine Yx 5 Z (Ry 2 Z Z Z ?_)
 exact⟨_,_,rfl,Nat.le_trans d.size e,f,(i.mono d.size),j,(d.trans k)⟩
variable {pt:Nat}{F:Nat->Prop}
theorem OO {base g:Nat}{z:jU}{a:Nat->kZ}{ps:List jw}(w:World)(hM:ZC w base g F z a ps)(hz:lJ z)(hT:C8 w)(hwt:z.wt=true)(hnk:z.th.no=z.nk)(hn:z.nk<13)(hsd:z.sd.length=32)(hq0:z.q0=lW z.sd z.nk)(hpt:right pt=true/\pt<18446744073709551616)(hpl:ps.length<=100)(hr4:rowOf (a 2).A (a 2).c≠some 4):Calls prog 143 #[.pointer (some ⟨g,0,none⟩),.agg (iR (⟨6,(z.nk:Int),ag,0,iY,lU z.sd z.nk,pt⟩:mK)).toArray] w fun r w'=>∃A2 n2 c2 A3 c3 ps',r= .returned (J 0)/\ik w' g 80 (tX ⟨{z with th:=z.un,wt:=false,q0:=z.q1,q1:=pt},j5 (j5 a 3 ⟨A3,(jF (z.nk+1)++jZ z.sd (z.nk+1) 21).length,c3⟩) 2 ⟨A2,n2,c2⟩⟩).toArray/\iy w' base 35 jq 2 A2 n2 c2 ps'/\iy w' w.heap.size 5 jv 1 A3 (jF (z.nk+1)++jZ z.sd (z.nk+1) 21).length c3 (jF (z.nk+1)++jZ z.sd (z.nk+1) 21)/\(∀k,rowOf A2 c2=some k->rowOf (a 2).A (a 2).c=some k\/w.heap.size<=k)/\ps'.length=ps.length+1/\iX w w' (fun k=>k=g\/rowOf (a 2).A (a 2).c=some k):=by
 have hb:=hM.b
 have hp:=hM.p
 have hk:=hM.k
 have B:rowOf (a 2).A (a 2).c≠some g:=fun he=>iy.kV hp hb (by decide) he
 have a5:rowOf (a 3).A (a 3).c≠some g:=fun he=>iy.kV hk hb (by decide) he
 have a6:=hp.1
 have hbase:base<=w.heap.size:=by have:=hb.lt;have:=hM.o;omega
 refine En func143 Z (Sr (Yv Z fun L ao a7 (ap:ik ao L 134 (iR (⟨6,(z.nk:Int),ag,0,iY,lU z.sd z.nk,pt⟩:mK)).toArray) u=>?_))
 have L1:=(iX.refl w (fun k=>k=g\/rowOf (a 2).A (a 2).c=some k)).le u
 refine Yx 1 Z (Rr 1 Z ?_)
 have X:=(hb.le u)
 refine Yd Z (QE ao X (hk.le u).vec hsd (by omega)) ?_
 rintro _ a8 ⟨aq,a9,rfl,aM,aN,aO,ba,C⟩
 refine Yx 1 Z (Sq (Bk (Sq (WC.draw [0,1,2,3,4,5,6,7,8,9,10,11,12,13,14,15] mixed (by kernel_rfl) fun w2 e=>Xn 3 Z ?_))))
 have Y:=(X.le (C.trans e))
 refine Xk (.bool z.wt) Z Y Z (Xq 1 Z (by rw[hwt]) (Xn 2 Z ?_))
 have f7:=(ap.le (C.trans e))
 refine Xk (J (z.nk:Int)) Z f7 Z (Xn 4 Z (Xk (J (z.th.no:Int)) Z Y Z (Xf 1 Z (Xx 2 Z (Cf Z (Sq (WC.draw [0,1,3,4,5,6,7,2,8,9,10,11,12,13,14,15,16,17,18] mixed (by kernel_rfl) fun w4 f=>Xn 1 Z ?_)))))))
 have f9:=(f7.le f)
 refine Xb (jV (lU z.sd z.nk)) Z f9 Z (Xn 3 Z (Xi 0 Z ?_))
 have ar:=(Y.le f)
 refine Xk (.int .u64 (z.q0:Int)) Z ar Z (Xc Z (Ou (lU z.sd z.nk) (OI hsd _) w4) fun aP d=>?_)
 have au:=(((L1.le C).le e).le f).le d
 refine Xq 1 Z (dF (fun h=>h (by rw[hq0];rfl))) (Xn 3 Z ?_)
 have aa:=(f9.le d)
 refine Xk (J (z.nk:Int)) Z aa Z (Xn 1 Z (Xb (jV (lU z.sd z.nk)) Z aa Z (Xd Z (abB aP (aN.le (e.trans (f.trans d))) (aO.le (e.trans (f.trans d))) (hT.chS (m:=⟨z,a⟩) au hb hr4) (by assumption) hsd (by omega)) ?_)))
 rintro _ aQ ⟨bb,rfl,aR,aS,bc,D⟩
 refine noT (by kernel_rfl) ?_
 have aT:=au.sub D (fun i hi hlt=>absurd hlt (by subst hi;have:=L1.size;have:=aM;omega))
 refine Xq 1 Z (show _=false from by first|decide|rfl) (Xx 2 Z (Cf Z (Rr 1 Z ?_)))
 have av:=(aa.ji D (fun hF=>(show L≠aq from by have:=ap.lt;omega) hF))
 refine Yk (.int .u64 (pt:Int)) Z av Z (Yc Z (by have q:=lC pt hpt.2 aQ;rw[hpt.1]at q;exact q) fun bd j=>?_)
 refine Yx 2 Z (Cf Z (WC.skip (E.jD (E.iM (Sq (WC.draw [0,1,2,3,5,6,7,8,4,9,10,11,12,13,14,15,16,17] mixed (by kernel_rfl) fun w8 l=>?_))))))
 have aw:=(aT.le j).le l
 refine Xn 7 Z ?_
 have x:=(((ar.le d).ji D (fun hF=>(show g≠aq from by have:=X.lt;omega) hF)).le (j.trans l))
 refine Xb (cutV z.un) Z x Z (Xd Z (Ae w8 (aR.le (j.trans l)) (aS.le (j.trans l)) (by assumption) hsd (by omega)) ?_)
 rintro _ be ⟨s,t,rfl,y,H⟩
 refine⟨fun _=>H,?_⟩
 have aU:=aw.le H
 refine Xn 2 Z (G.jR Z Z Z Z (Ef.store H7 Z Z (x.le H) (by first|decide|(simp;done)|simp[qW.len]) Z ?_))
 intro ax ac N
 refine noT (by kernel_rfl) ?_
 have ac:ik ax g 80 (tX (⟨z,(j5 a 3 (⟨s,(jF (z.nk+1)++jZ z.sd (z.nk+1) 21).length,t⟩:kZ))⟩:sF)).toArray:=ac
 have aV:iX w ax (fun k=>k=g\/rowOf (a 2).A (a 2).c=some k):=aU.ch N (fun i hi _=>by cases hi;exact Or.inl Z)
 refine Xn 2 Z (G.jR Z Z Z Z (Ef.lY (tX (⟨({z with th:=z.un}:jU),(j5 a 3 (⟨s,(jF (z.nk+1)++jZ z.sd (z.nk+1) 21).length,t⟩:kZ))⟩:sF)) Jn (by rfl) Z Z ac (by simp[qW.len,mE.len]) (mE.one z.un) Z ?_))
 intro ay ad O
 refine noT (by kernel_rfl) ?_
 have ad:ik ay g 80 (tX (⟨({z with th:=z.un}:jU),(j5 a 3 (⟨s,(jF (z.nk+1)++jZ z.sd (z.nk+1) 21).length,t⟩:kZ))⟩:sF)).toArray:=ad
 have aW:iX w ay (fun k=>k=g\/rowOf (a 2).A (a 2).c=some k):=aV.ch O (fun i hi _=>by cases hi;exact Or.inl Z)
 refine Xn 2 Z (G.jR Z Z Z Z (Ef.store sz4 Z Z ad (by first|decide|(simp;done)|simp[qW.len]) Z ?_))
 intro az ae P
 refine noT (by kernel_rfl) ?_
 have ae:ik az g 80 (tX (⟨({z with th:=z.un,wt:=false}:jU),(j5 a 3 (⟨s,(jF (z.nk+1)++jZ z.sd (z.nk+1) 21).length,t⟩:kZ))⟩:sF)).toArray:=ae
 have aX:iX w az (fun k=>k=g\/rowOf (a 2).A (a 2).c=some k):=aW.ch P (fun i hi _=>by cases hi;exact Or.inl Z)
 refine Gx (Sq (WC.aeW [23] (fun w9 w'=>iX w w' (fun k=>k=g\/rowOf (a 2).A (a 2).c=some k)/\ik w' L 134 (iR (⟨6,(z.nk:Int),ag,0,iY,lU z.sd z.nk,pt⟩:mK)).toArray/\ik w' g 80 (tX (⟨({z with th:=z.un,wt:=false}:jU),(j5 a 3 (⟨s,(jF (z.nk+1)++jZ z.sd (z.nk+1) 21).length,t⟩:kZ))⟩:sF)).toArray) (fun w9 w'=>iX w w' (fun k=>k=g\/rowOf (a 2).A (a 2).c=some k)/\ik w' L 134 (iR (⟨6,(z.nk:Int),ag,0,iY,lU z.sd z.nk,pt⟩:mK)).toArray) [0,1,2,3,4,5,6,7,8,9,10,13,14,15,16,17,18,19,20,11,12,21,22,23,24,25,26] (fun _ _ h=>⟨h.1,h.2.1⟩) mixed (by kernel_rfl) fun w9 I=>?_))
 have aA:=aX.le I
 have Q:g≠L:=by have:=hb.lt;omega
 have aB:=(((((av.le (j.trans (l.trans H))).cn N Q).cn O Q).cn P Q).le I)
 have aC:=(ae.le I)
 refine⟨⟨aA,aB,aC⟩,?_⟩
 refine GI.any Z Z (.move Z) Z Z Z (GI.any Z Z (.move Z) Z Z Z (GI.any Z Z (.move Z) Z Z Z (GI.any Z Z (.nilCheck Z) Z Z Z (GI.any Z Z (.nU RH Z) Z Z Z (GI.rd Z Z (by kernel_rfl) (fun w' hs=> .ES (v:= .slice ((a 2).A) ((a 2).n) ((a 2).c)) ahQ Z hs.2.2 Z) Z Z Z ?_)))))
 refine GI.any Z Z (.move Z) Z Z Z (GI.any Z Z (.nilCheck Z) Z Z Z (GI.any Z Z (.nU adD Z) Z Z Z (GI.any Z Z (.V8 adA Z) Z Z Z (GI.rd Z Z (by kernel_rfl) (fun w' hs=> .Ha (jq z.un.n) afg Z (by decide) Z hs.2.2 Z) Z Z Z (GI.any Z Z (.move Z) Z Z Z ?_)))))
 refine GI.any Z Z (.nilCheck Z) Z Z Z (GI.any Z Z (.nU RG Z) Z Z Z (GI.any Z Z (.aci 1 underlying76 Cs Z Z Z (by omega)) Z Z Z (GI.rd Z Z (by kernel_rfl) (fun w' hs=> .ES (v:= .int .u64 (z.q1:Int)) yD Z hs.2.2 Z) Z Z Z (GI.any Z Z (.nU aay Z) Z Z Z (GI.rd2 (fun _ h=>⟨h.1,h.2.1⟩) Z Z (fun w' hs=> .ES (v:= .int .u64 (pt:Int)) yD Z hs.2 Z) Z Z Z ?_)))))
 refine GI.any Z Z (.kU (cells:=(ZE ((z.q1,pt):Nat×Nat)).toArray) underlying76 Cs z76 Z Z) Z Z Z (GI.ef Z Z Z Z Z (Ef.iw (len:=1) [_] underlying77 PU Z (by simp[Value.cells,oW.len]) Z (by decide) (by decide) ?_))
 intro aD aE aY R K
 have af:=aA.le K
 have R:ik aE aD 35 (([z.un.n]).map jq).flatten.toArray:=R
 have bf:iy aE w9.heap.size 35 jq 2 (some ⟨aD,0,none⟩) 1 1 ([z.un.n]):=R.j4 aY oW Z Z (by decide)
 have aF:=(aB.le K)
 have S:=(aC.le K)
 refine⟨fun _=>(by unfold SI;rw[if_neg (by decide)];exact⟨af,aF,S⟩),?_⟩
 have _:=u.size
 have aZ:=(((((((hp.le (u.trans (C.trans (e.trans (f.trans d))))).ji D (fun q hqq hF=>(by subst hF;exact(hp.rn (by omega)) hqq))).le (j.trans (l.trans H))).ch N (fun q hq=>by cases hq;exact B)).ch O (fun q hq=>by cases hq;exact B)).ch P (fun q hq=>by cases hq;exact B)).le (I.trans K))
 refine GI.ef Z Z Z Z Z (Ef.vJ (a:=z.un.n) underlying77 PU underlying77 oW Z aZ Z R (by omega) (by unfold maxLen;omega) (Nat.le_trans hbase (af).size) ?_)
 intro ah ai a0 a1 U aj
 have aG:iX w a0 (fun k=>k=g\/rowOf (a 2).A (a 2).c=some k):=af.ch U (fun i hi _=>(fun i hi=>Or.inr hi) i hi)
 have aH:=(aF.ch U (hp.rn (by omega)))
 have aI:=(S.ch U B)
 refine⟨fun _=>(by unfold SI;rw[if_neg (by decide)];exact⟨aG,aH,aI⟩),?_⟩
 refine GI.any Z Z (.nilCheck Z) Z Z Z (GI.any Z Z (.nU RH Z) Z Z Z (GI.jR Z Z Z Z (Ef.store adu Z Z aI (by first|decide|(simp;done)|simp[qW.len]) Z ?_)))
 intro aJ ak V
 have ak:ik aJ g 80 (tX (⟨({z with th:=z.un,wt:=false}:jU),(j5 (j5 a 3 (⟨s,(jF (z.nk+1)++jZ z.sd (z.nk+1) 21).length,t⟩:kZ)) 2 (⟨ah,((a 2).n+1),ai⟩:kZ))⟩:sF)).toArray:=ak
 have aK:iX w aJ (fun k=>k=g\/rowOf (a 2).A (a 2).c=some k):=aG.ch V (fun i hi _=>by cases hi;exact Or.inl Z)
 refine⟨fun _=>(by unfold SI;rw[if_pos (by decide)];exact⟨aK,(aH.cn V Q)⟩),?_⟩
 refine GI.any Z Z (.nilCheck Z) Z Z Z (GI.any Z Z (.nU RG Z) Z Z Z (GI.jR Z Z Z Z (Ef.lY (tX (⟨({z with q0:=z.q1,q1:=pt,th:=z.un,wt:=false}:jU),(j5 (j5 a 3 (⟨s,(jF (z.nk+1)++jZ z.sd (z.nk+1) 21).length,t⟩:kZ)) 2 (⟨ah,((a 2).n+1),ai⟩:kZ))⟩:sF)) adt (by rfl) Z Z ak (by simp[qW.len,SG.len]) (SG.one ((z.q1,pt):Nat×Nat)) Z ?_)))
 intro aL al an
 have al:ik aL g 80 (tX (⟨({z with q0:=z.q1,q1:=pt,th:=z.un,wt:=false}:jU),(j5 (j5 a 3 (⟨s,(jF (z.nk+1)++jZ z.sd (z.nk+1) 21).length,t⟩:kZ)) 2 (⟨ah,((a 2).n+1),ai⟩:kZ))⟩:sF)).toArray:=al
 have a2:iX w aL (fun k=>k=g\/rowOf (a 2).A (a 2).c=some k):=aK.ch an (fun i hi _=>by cases hi;exact Or.inl Z)
 refine noT (by kernel_rfl) (GI.nil (E.iM (Sr (Wn 1 Z (Nx (Rt ?_))))))
 have _:=S.lt
 have a3:=((a1.ch V (fun q hq=>by cases hq;exact(aj.off (by omega) B))).ch an (fun q hq=>by cases hq;exact(aj.off (by omega) B)))
 have _:=x.lt
 have _:=C.size
 have _:=e.size
 have _:=f.size
 have _:=d.size
 have _:=D.size
 have _:=j.size
 have _:=l.size
 have a4:=(((((((y.cb N (y.rl (by omega))).cb O (y.rl (by omega))).cb P (y.rl (by omega))).le (I.trans K)).ch U (fun q h1 h2=>by have:=(hp.row h1).2;have:=(y.row h2).1;omega)).cb V (y.rl (by omega))).cb an (y.rl (by omega)))
 refine E.iC Z Z ?_
 exact⟨_,_,_,_,_,_,rfl,al,a3,(a4.mono aw.size),fun k hk=>(aj k hk).imp id fun h=>by have:=H.size;have:=N.size;have:=O.size;have:=P.size;have:=I.size;have:=K.size;omega,by rw[List.length_append];rfl,a2⟩
section
variable {w w':World}{base g:Nat}{F:Nat->Prop}{z z':jU}{a:Nat->kZ}{ps:List jw}
theorem ZC.agO (h:ZC w base g F z a ps)(hB:ik w' g 80 (tX ⟨z',a⟩).toArray)(hc:iX w w' (fun k=>k=g))(hl:z'.lg=z.lg)(hk:z'.nk=z.nk)(hs:z'.sd=z.sd):∃F',qy w' base g F' z'/\(∀k,F' k->F k\/w.heap.size<=k)/\iX w w' F:=by
 refine⟨F,⟨a,ps,hB,fun i hi=>?_,h.p.ji hc fun k q e=>?_,?_,h.ap,h.o,h.f,by rw[hk];exact h.pl⟩,fun k q=> .inl q,hc.mono fun k e _=>(h.f k).2 (.inl e)⟩
 ·rw[hl];exact(h.l i hi).ji hc fun k q e=>by subst e;exact iy.kV (h.l i hi) h.b (by decide) q
 ·subst e;exact iy.kV h.p h.b (by decide) q
 ·rw[hk,hs];exact h.k.ji hc fun k q e=>by subst e;exact iy.kV h.k h.b (by decide) q
theorem Kz (h:qy w base g F z)(hz:lJ z)(aed:uj z=true)(hno:z.th.no<1048574)(hcut:∀i,i<2->(rO z).n.ix i=((z.lg i).length:Int))(hq:right z.q1=true/\z.q1<18446744073709551616):Calls prog 90 #[.pointer (some ⟨g,0,none⟩)] w fun r w'=>∃F',r= .returned (.tuple #[.agg (iR (⟨5,((z.th.no+1:Nat):Int),ag,0,nR z.kt.f (NF z.ch (z.si ((z.th.no+1:Nat):Int)) (1-z.me) z.q1),noH,0⟩:mK)).toArray,J 0])/\qy w' base g F' {z with un:=rO z,wt:=true}/\(∀k,F' k->F k\/w.heap.size<=k)/\iX w w' F:=by
 obtain⟨a,ps,h⟩:=h
 refine(QC w h hz aed hno hcut hq).mono ?_
 rintro r w' ⟨rfl,k1,k2⟩
 obtain⟨F',c,d,e⟩:=h.agO k1 k2 Z Z Z
 exact⟨F',rfl,c,d,e⟩
theorem U5 {m:mK}(h:qy w base g F z)(hz:lJ z)(hmn:m.no=((z.mi.no+1:Nat):Int))(hno:z.mi.no<1048500)(hnq:(sG z).n≠z.mi.n)(hcut:∀i,i<2->(sG z).n.ix i=((z.lg i).length:Int))(O8:m.sg.r<18446744073709551616)(hsg:nN (z.ch.b (1-z.me) 0) (NF z.ch (z.si ((z.mi.no+1:Nat):Int)) z.me (lW z.kt.ch (z.mi.no+1))) m.sg=true):Calls prog 142 #[.pointer (some ⟨g,0,none⟩),.agg (iR m).toArray] w fun r w'=>∃F' A c,r= .returned (.tuple #[.slice A 1 c,J 0])/\iy w' w.heap.size 134 iR 61 A 1 c [(⟨6,(z.mi.no:Int),ag,0,iY,lU z.kt.ch z.mi.no,lW z.kt.ch (z.mi.no+2)⟩:mK)]/\qy w' base g F' {z with mi:=sG z,sg:=m.sg}/\(∀k,F' k->F k\/w.heap.size<=k)/\iX w w' F:=by
 obtain⟨a,ps,h⟩:=h
 refine(QD w h hz hmn hno hnq hcut O8 hsg).mono ?_
 rintro r w' ⟨A,c,rfl,k0,k1,k2⟩
 obtain⟨F',d,e,f⟩:=h.agO k1 k2 Z Z Z
 exact⟨F',A,c,rfl,k0,d,e,f⟩
theorem QF (h:qy w base g F z)(hz:lJ z)(hT:C8 w)(hwt:z.wt=true)(hnk:z.th.no=z.nk)(hn:z.nk<13)(hsd:z.sd.length=32)(hq0:z.q0=lW z.sd z.nk)(hpt:right pt=true/\pt<18446744073709551616)(hb4:4<base):Calls prog 143 #[.pointer (some ⟨g,0,none⟩),.agg (iR (⟨6,(z.nk:Int),ag,0,iY,lU z.sd z.nk,pt⟩:mK)).toArray] w fun r w'=>∃F',r= .returned (J 0)/\qy w' base g F' {z with th:=z.un,wt:=false,q0:=z.q1,q1:=pt,nk:=z.nk+1}/\(∀k,F' k->F k\/w.heap.size<=k)/\iX w w' F:=by
 obtain⟨a,ps,h⟩:=h
 refine(OO w h hz hT hwt hnk hn hsd hq0 hpt (by have:=h.pl;omega) (fun e=>by have:=(h.p.row e).1;omega)).mono ?_
 rintro r w' ⟨j,v,m,n,s,ps',rfl,k1,k2,t,x,y,u⟩
 have nl:∀i,i<2->∀k,rowOf (a i).A (a i).c=some k->¬(k=g\/rowOf (a 2).A (a 2).c=some k):=fun i hi k hk q=>by
  rcases q with rfl|q
  ·exact iy.kV (h.l i hi) h.b (by decide) hk
  ·exact(h.l i hi).u7 h.p (by decide) k hk q
 have d:∀i,i<2->j5 (j5 a 3 ⟨n,(jF (z.nk+1)++jZ z.sd (z.nk+1) 21).length,s⟩) 2 ⟨j,v,m⟩ i=a i:=fun i hi=>by rw[vQ _ _ (by omega),vQ _ _ (by omega)]
 refine⟨fun k=>k=g\/(∃i,i<2/\rowOf (a i).A (a i).c=some k)\/rowOf j m=some k\/rowOf n s=some k,rfl,⟨_,ps',k1,fun i hi=>?_,k2,?_,fun i hi q hq=>?_,h.o,fun k=>?_,?_⟩,?_,?_⟩
 ·rw[d i hi];exact(h.l i hi).ji u (nl i hi)
 ·exact t.mono (by have:=h.b.lt;have:=h.o;omega)
 ·rw[d i hi]at hq;rw[d (1-i) (by omega)];exact h.ap i hi q hq
 ·refine or_congr Iff.rfl (or_congr ⟨fun⟨i,hi,q⟩=>⟨i,hi,by rw[d i hi];exact q⟩,fun⟨i,hi,q⟩=>⟨i,hi,by rw[d i hi]at q;exact q⟩⟩ Iff.rfl)
 ·have:=h.pl
  show ps'.length<=z.nk+1+1
  omega
 ·rintro k (q|q|q|q)
  ·exact .inl ((h.f k).2 (.inl q))
  ·exact .inl ((h.f k).2 (.inr (.inl q)))
  ·exact(x k q).imp (fun q=>(h.f k).2 (.inr (.inr (.inl q)))) id
  ·exact .inr (t.row q).1
 ·refine u.mono fun k q _=>?_
  rcases q with q|q
  ·exact(h.f k).2 (.inl q)
  ·exact(h.f k).2 (.inr (.inr (.inl q)))
end
theorem C8.chF {base:Nat}(h:C8 w)(k:iX w w' F)(hF:∀k,F k->base<=k)(hb:4<base):C8 w':=fun j hj=>(World.cell?_of_block (w:=w) (a:=⟨4,j,none⟩) (k.block 4 (World.block_lt_of_cell? w _ (h j hj)) (fun q=>by have:=hF 4 q;omega))).trans (h j hj)
variable {m:mK}
theorem OP {base g:Nat}{z:jU}{fi:Nat}{e:Int}(w:World)(hS:qy w base g F z)(hz:lJ z)(hgo:o8 prog fi)(hget:iO ((q8 m).kd:Int) [(0,(1:Int),181),(1,2,183),(2,3,183),(3,4,184)]=some fi)(hf:∀w' a,Al w' g z a->Calls prog fi #[.pointer (some ⟨g,0,none⟩),J ((1-z.me:Nat):Int),.agg (mg (q8 m)).toArray] w' fun r w''=>r= .returned (J e)/\Le w' w'')(hk:1<=m.kd/\m.kd<=3):Calls prog 88 #[.pointer (some ⟨g,0,none⟩),.agg (iR m).toArray] w fun r w'=>∃F',r= .returned (.tuple #[.slice none 0 0,J e])/\qy w' base g F' (if e=0 then z.yF (1-z.me) (z.lg (1-z.me)++[q8 m])else z)/\(∀k,F' k->F k\/w.heap.size<=k)/\iX w w' F:=by
 have hme:=hz.me
 have hnl:=hz.ln (1-z.me) (by omega)
 refine En func88 Z (Sr (Yv Z fun H I aa (f:ik I H 134 (iR m).toArray) j=>?_))
 have l:=(iX.refl w F).le j
 refine Yx 2 Z (Sq (Rr 1 Z (Yk (J (m.kd:Int)) Z f Z (Nx (Bk (Sq (Rn 2 Z ?_)))))))
 by_cases t:(m.kd:Int)=1
 ·refine Cy Z (dT t) (Sn (Cy Z (dT (by omega)) (Sq (WC.draw [0,1,2,3,4,5,6,7,8,9,10] mixed (by kernel_rfl) fun d c=>?_))))
  have u:=(hS.le (j.trans c))
  obtain⟨a1,ac,K⟩:=id u
  refine Xn 4 Z (Xk (J (z.me:Int)) Z K.b Z (Ga Z (.as (.sub Z Z (by omega)) (int_eq (b:=((1-z.me:Nat):Int)) (by omega))) (Xh Z (f.le c) (Xc Z (IV m d hk) fun ad n=>?_))))
  have x:=(l.le c).le n
  refine Xd Z (Gq (of:=1-z.me) (e:=e) (u.le n) (by omega) (by omega) hgo hget hf) ?_
  rintro _ ae ⟨af,rfl,L,N,O⟩
  refine noT (by kernel_rfl) (Xx 2 Z (Rt (E.jc (E.il (E.lD Z Z Z ?_)))))
  exact⟨_,rfl,L,fun k hk=>(N k hk).imp_right (fun h=>Nat.le_trans (x).size h),(x.sub O (fun i hi hlt=>hi))⟩
 refine Cn Z (dF t) (Rn 2 Z ?_)
 by_cases y:(m.kd:Int)=2
 ·refine Cy Z (dT y) (Sn (Cy Z (dT (by omega)) (Sq (WC.draw [0,1,2,3,4,5,6,7,8,9,10] mixed (by kernel_rfl) fun d c=>?_))))
  have A:=(hS.le (j.trans c))
  obtain⟨a2,ah,P⟩:=id A
  refine Xn 4 Z (Xk (J (z.me:Int)) Z P.b Z (Ga Z (.as (.sub Z Z (by omega)) (int_eq (b:=((1-z.me:Nat):Int)) (by omega))) (Xh Z (f.le c) (Xc Z (IV m d hk) fun ai o=>?_))))
  have B:=(l.le c).le o
  refine Xd Z (Gq (of:=1-z.me) (e:=e) (A.le o) (by omega) (by omega) hgo hget hf) ?_
  rintro _ aj ⟨ak,rfl,Q,R,S⟩
  refine noT (by kernel_rfl) (Xx 2 Z (Rt (E.jc (E.il (E.lD Z Z Z ?_)))))
  exact⟨_,rfl,Q,fun k hk=>(R k hk).imp_right (fun h=>Nat.le_trans (B).size h),(B.sub S (fun i hi hlt=>hi))⟩
 refine Cn Z (dF y) (Rn 2 Z (Cy Z (dT (by omega)) (Sn (Cy Z (dT (by omega)) (Sq (WC.draw [0,1,2,3,4,5,6,7,8,9,10] mixed (by kernel_rfl) fun d c=>?_))))))
 have C:=(hS.le (j.trans c))
 obtain⟨a3,al,U⟩:=id C
 refine Xn 4 Z (Xk (J (z.me:Int)) Z U.b Z (Ga Z (.as (.sub Z Z (by omega)) (int_eq (b:=((1-z.me:Nat):Int)) (by omega))) (Xh Z (f.le c) (Xc Z (IV m d hk) fun an s=>?_))))
 have D:=(l.le c).le s
 refine Xd Z (Gq (of:=1-z.me) (e:=e) (C.le s) (by omega) (by omega) hgo hget hf) ?_
 rintro _ ao ⟨ap,rfl,V,X,Y⟩
 refine noT (by kernel_rfl) (Xx 2 Z (Rt (E.jc (E.il (E.lD Z Z Z ?_)))))
 exact⟨_,rfl,V,fun k hk=>(X k hk).imp_right (fun h=>Nat.le_trans (D).size h),(D.sub Y (fun i hi hlt=>hi))⟩
variable {s:yA.BF}
theorem YZ {base g:Nat}{z:jU}(w:World)(hS:qy w base g F z)(hz:lJ z)(hno:z.mi.no<1048500)(hnq:(sG z).n≠z.mi.n)(hcut:∀i,i<2->(sG z).n.ix i=((z.lg i).length:Int))(O8:s.r<18446744073709551616)(hsg:nN (z.ch.b (1-z.me) 0) (NF z.ch (z.si ((z.mi.no+1:Nat):Int)) z.me (lW z.kt.ch (z.mi.no+1))) s=true):Calls prog 88 #[.pointer (some ⟨g,0,none⟩),.agg (iR (⟨5,((z.mi.no+1:Nat):Int),ag,0,s,noH,0⟩:mK)).toArray] w fun r w'=>∃F' A c,r= .returned (.tuple #[.slice A 1 c,J 0])/\iy w' w.heap.size 134 iR 61 A 1 c [(⟨6,(z.mi.no:Int),ag,0,iY,lU z.kt.ch z.mi.no,lW z.kt.ch (z.mi.no+2)⟩:mK)]/\qy w' base g F' {z with mi:=sG z,sg:=s}/\(∀k,F' k->F k\/w.heap.size<=k)/\iX w w' F:=by
 have hme:=hz.me
 have hnl:=hz.ln (1-z.me) (by omega)
 refine En func88 Z (Sr (Yv Z fun j l y (e:ik l j 134 (iR (⟨5,((z.mi.no+1:Nat):Int),ag,0,s,noH,0⟩:mK)).toArray) f=>?_))
 have d:=(iX.refl w F).le f
 refine Yx 2 Z (Sq (Rr 1 Z (Yk (J 5) Z e Z (Nx (Bk (Sq (Sr (Yq 1 Z (show _=false from by first|decide|rfl) (Yx 1 Z ?_)))))))))
 refine Cf Z (Sr (Yq 1 Z (show _=false from by first|decide|rfl) (Yx 1 Z (Cf Z (Sr (Yq 1 Z (show _=false from by first|decide|rfl) (Yx 1 Z (Cf Z (Rg ?_)))))))))
 refine Yq 1 Z (show _=false from by first|decide|rfl) (Yx 1 Z (Cf Z (Sr (Yq 1 Z (show _=true from by first|decide|rfl) (Yx 1 Z (Ct Z (Rr 1 Z (Yh Z e (Yd Z (U5 (m:=(⟨5,((z.mi.no+1:Nat):Int),ag,0,s,noH,0⟩:mK)) (hS.le f) hz Z hno hnq hcut O8 hsg) ?_)))))))))
 rintro _ B ⟨C,D,H,rfl,o,t,u,x⟩
 refine Yx 4 Z (Rt (E.jc (E.il (E.lD Z Z Z ?_))))
 exact⟨_,_,_,rfl,(o.mono d.size),t,fun k hk=>(u k hk).imp_right (fun h=>Nat.le_trans (d).size h),(d.sub x (fun i hi hlt=>hi))⟩
theorem Y0 {base g:Nat}{z:jU}(w:World)(hS:qy w base g F z)(hz:lJ z)(hT:C8 w)(hwt:z.wt=true)(hnk:z.th.no=z.nk)(hn:z.nk<13)(hsd:z.sd.length=32)(hq0:z.q0=lW z.sd z.nk)(hpt:right pt=true/\pt<18446744073709551616)(hb4:4<base):Calls prog 88 #[.pointer (some ⟨g,0,none⟩),.agg (iR (⟨6,(z.nk:Int),ag,0,iY,lU z.sd z.nk,pt⟩:mK)).toArray] w fun r w'=>∃F',r= .returned (.tuple #[.slice none 0 0,J 0])/\qy w' base g F' {z with th:=z.un,wt:=false,q0:=z.q1,q1:=pt,nk:=z.nk+1}/\(∀k,F' k->F k\/w.heap.size<=k)/\iX w w' F:=by
 have hme:=hz.me
 have hnl:=hz.ln (1-z.me) (by omega)
 refine En func88 Z (Sr (Yv Z fun f j o (d:ik j f 134 (iR (⟨6,(z.nk:Int),ag,0,iY,lU z.sd z.nk,pt⟩:mK)).toArray) e=>?_))
 have c:=(iX.refl w F).le e
 refine Yx 2 Z (Sq (Rr 1 Z (Yk (J 6) Z d Z (Nx (Bk (Sq (Sr (Yq 1 Z (show _=false from by first|decide|rfl) (Yx 1 Z ?_)))))))))
 refine Cf Z (Sr (Yq 1 Z (show _=false from by first|decide|rfl) (Yx 1 Z (Cf Z (Sr (Yq 1 Z (show _=false from by first|decide|rfl) (Yx 1 Z (Cf Z (Rg ?_)))))))))
 refine Yq 1 Z (show _=false from by first|decide|rfl) (Yx 1 Z (Cf Z (Sr (Yq 1 Z (show _=false from by first|decide|rfl) (Yx 1 Z (Cf Z (Sr (Yq 1 Z (show _=true from by first|decide|rfl) (Yx 1 Z ?_)))))))))
 refine Ct Z (Rr 1 Z (Yh Z d (Yd Z (QF (pt:=pt) (hS.le e) hz (hT.chF c (fun k q=>hS.old q) hb4) hwt hnk hn hsd hq0 hpt hb4) ?_)))
 rintro _ s ⟨t,rfl,l,m,n⟩
 refine Yx 2 Z (Rt (E.jc (E.il (E.lD Z Z Z ?_))))
 exact⟨_,rfl,l,fun k hk=>(m k hk).imp_right (fun h=>Nat.le_trans (c).size h),(c.sub n (fun i hi hlt=>hi))⟩
set_option linter.unusedVariables false
deriving instance DecidableEq for Bas
theorem OQ {d:Nat}(a b:Bas):yU prog (d+2) 62 (.agg (xg a).toArray) (.agg (xg b).toArray) (decide (a=b)):=by
 have h:=yU.ints (P:=prog) (d:=d) (t:=62) (xg a) (xg b) [(.u64,0),(.u64,1),(.u64,2),(.u64,3),(.u64,4)] (by kernel_rfl) (by kernel_rfl) (by
  rw[show(prog.fieldsOf 62)=_ from(by unfold Program.fieldsOf;rw[underlying62])]
  exact⟨by decide,rfl,underlying60,⟨_,_,rfl,rfl⟩,by decide,rfl,underlying60,⟨_,_,rfl,rfl⟩,by decide,rfl,underlying60,⟨_,_,rfl,rfl⟩,by decide,rfl,underlying60,⟨_,_,rfl,rfl⟩,by decide,rfl,underlying60,⟨_,_,rfl,rfl⟩,trivial⟩)
 have e:BZ (xg a) (xg b) [(.u64,0),(.u64,1),(.u64,2),(.u64,3),(.u64,4)]=decide (a=b):=by
  obtain⟨l,m,n,o,s⟩:=a
  obtain⟨u,v,x,y,A⟩:=b
  simp only[BZ,xg,List.getElem?_cons_zero,List.getElem?_cons_succ]
  rw[Bool.eq_iff_iff]
  simp only[Bool.and_eq_true,decide_eq_true_eq,Bool.and_true,Bas.mk.injEq]
  constructor
  ·rintro⟨c,f,i,j,k⟩;exact⟨by omega,by omega,by omega,by omega,by omega⟩
  ·rintro⟨c,f,i,j,k⟩;exact⟨by omega,by omega,by omega,by omega,by omega⟩
 rw[e]at h
 exact h
def vM.ZF (c:vM)(i:Nat):Bas:=⟨c.b i 0,c.b i 1,c.b i 2,c.b i 3,c.b i 4⟩
theorem SH (c:vM){i:Nat}(h:i<2):((mU c).toArray.toList.drop (34+i*5)).take 5=xg (c.ZF i):=by rcases LZ h with rfl|rfl<;>rfl
def hxN (a b:Int)(j:Nat):Int:=if j=0 then a else b
theorem Y1 {a b op:Int}(h:0<=op/\op<=1):hxN a b op.toNat=if op=0 then a else b:=by
 unfold hxN
 by_cases e:op=0
 ·rw[if_pos (by omega),if_pos e]
 ·rw[if_neg (by omega),if_neg e]
theorem SK {z:jU}(h:z.lg=fun _=>[]){no:Int}:z.si no=⟨no,z.h0,z.h1,[],z.rt⟩:=by simp[jU.si,jU.fst,WE,AJ,AL,nM,kP,iG,jT,h]
def Dc (p k:kZ):Nat->kZ:=fun i=>if i=2 then p else if i=3 then k else⟨none,0,0⟩
theorem Al.new {g:Nat}{z:jU}{p k:kZ}(hB:ik w g 80 (tX ⟨z,Dc p k⟩).toArray)(hl:∀i,i<2->z.lg i=[]):Al w g z (Dc p k):=⟨hB,fun i hi=>by rw[hl i hi];rcases kX hi with rfl|rfl<;>exact Vec.nil _ _ _ _,fun i hi=>by rcases kX hi with rfl|rfl<;>exact Nat.le_refl 0⟩
variable {kt:Kt}{me q0 q1:Nat}{h0 h1 rt:Int}
set_option maxHeartbeats 600000 in
theorem Fq {ch:vM} (sd:List (BitVec 8)) (w:World) (hz:lJ (⟨ch,kt,me,h0,h1,rt,fun _=>[],jO,jO,jO,false,s,q0,q1,0,sd⟩:jU)) (aee:iW kt=ch.ZF me) (hq0:right q0=true/\q0<18446744073709551616) (hq1:right q1=true/\q1<18446744073709551616) (xz:lF rt 16<=if ch.op=0 then h0 else h1) (hsd:sd.length=32) (O8:s.r<18446744073709551616) (hsg:nN (ch.b (1-me) 0) (NF ch (jU.si (⟨ch,kt,me,h0,h1,rt,fun _=>[],jO,jO,jO,false,s,q0,q1,0,sd⟩:jU) 0) me (lW kt.ch 0)) s=true):Calls prog 28 #[.agg (mU ch).toArray,.agg (mD kt).toArray,J (me:Int),.agg #[J 0,J h0,J h1,.slice none 0 0,J (rt)],.agg (ZE ((q0,q1):Nat×Nat)).toArray,.agg (sS s).toArray] w fun r w'=>∃g F,r= .returned (.tuple #[.pointer (some ⟨g,0,none⟩),J 0])/\qy w' w.heap.size g F (⟨ch,kt,me,h0,h1,rt,fun _=>[],jO,jO,jO,false,s,q0,q1,0,sd⟩:jU)/\Le w w':=by
 have hme:me<2:=hz.me
 have hop:0<=ch.op/\ch.op<=1:=hz.ch.op
 have hrt:0<=rt/\rt<=1000:=hz.rt
 have hch:=hz.ch
 rw[<-Y1 hop]at xz
 refine En func28 Z (Sr (Yv Z fun aZ a0 bQ (a1:ik a0 aZ 68 (mU ch).toArray) a2=>Yv Z fun a3 a4 bR (a5:ik a4 a3 70 (mD kt).toArray) aH=>Yv Z fun a6 a7 bS (a8:ik a7 a6 38 #[J 0,J h0,J h1,.slice none 0 0,J (rt)]) ad=>Yv Z fun a9 ba bT (bb:ik ba a9 76 (ZE ((q0,q1):Nat×Nat)).toArray) R=>Yv Z fun bc bd bU (be:ik bd bc 75 (sS s).toArray) A=>Yx 2 Z (Sq (Sq ?_))))
 refine WC.draw [0,1,2,3,4,6,7,8,9,5,10,11,12,13,14,15,16,17,18,19,20,21,22,23] mixed (by kernel_rfl) fun w1 n=>Xn 1 Z (Ga Z (.Lg Z Z (by omega)) (Xq 1 Z (show _=false from by first|decide|rfl) (Xn 1 Z ?_)))
 have f7:=(a5.le (ad.trans (R.trans (A.trans n))))
 refine Xh Z f7 (Xn 2 Z (Xj me Z ?_))
 have f8:=(a1.le (aH.trans (ad.trans (R.trans (A.trans n)))))
 refine Xb (xg (ch.ZF me)) Z f8 (SH ch (by omega)) (Xc Z (Si kt w1) fun bf f=>F7 Z (.dec (.neA afr Z Z (OQ (d:=9998) _ _)) (congrArg not (dT aee))) (Xn 2 Z (Xi 0 Z ?_)))
 have aI:=(bb.le (A.trans (n.trans f)))
 refine Xk (.int .u64 (q0:Int)) Z aI Z (Xc Z (by have q:=lC q0 hq0.2 bf;rw[hq0.1]at q;exact q) fun bg j=>?_)
 refine Xn 3 Z (Xi 1 Z ?_)
 have aJ:=(aI.le j)
 refine Xk (.int .u64 (q1:Int)) Z aJ Z (Xc Z (by have q:=lC q1 hq1.2 bg;rw[hq1.1]at q;exact q) fun bh l=>?_)
 refine Xx 2 Z (Cf Z (Sn (Sq (Sr ?_))))
 have aK:=(f8.le (f.trans (j.trans l)))
 refine Yh Z aK (Yc Z (LD ch hch bh) fun bi t=>Yx 1 Z (Sr (Yq 2 Z (show _=false from by first|decide|rfl) (Nx (Cf Z (Sn (Sq (Sr ?_))))))))
 have aL:=(aK.le t)
 refine Yh Z aL ?_
 have aM:=(a8.le (R.trans (A.trans (n.trans (f.trans (j.trans (l.trans t)))))))
 refine Yh Z aM (Yc Z (D7 (s:=⟨0,h0,h1,[],rt⟩) (c:=0) ch hz.ch bi (Vec.nil _ _ _ _) (by have q:=hz.rs;rw[SK Z]at q;exact q)) fun bV u=>Yn 3 Z ?_)
 have ae:=(aM.le u)
 refine Yk (.slice none 0 0) Z ae Z (Yq 2 Z (show _=false from by first|decide|rfl) (Yn 3 Z (Yk (J 0) Z ae Z (Yq 1 Z (show _=false from by first|decide|rfl) (Yx 1 Z (Cf Z (Sn (Sq (Sq ?_)))))))))
 refine WC.draw [0,1,2,3,4,5,6,7,8] mixed (by kernel_rfl) fun w8 x=>Xn 1 Z ?_
 have aN:=(aL.le (u.trans x))
 refine Xk (J ch.op) Z aN Z (Xn 1 Z (Xi ((ch.op).toNat) Z ?_))
 have af:=(ae.le x)
 refine Xk (J ((hxN h0 h1) ((ch.op).toNat))) Z af (by rcases kX (i:=(ch.op).toNat) (by omega)with h0|h0<;>rw[h0]<;>rfl) (Xn 1 Z (Xk (J rt) Z af Z (Xc Z (Bq rt (by omega) w8) fun bW m=>Xx 1 Z (Cn Z (dF (by omega)) (Sn (Sq (WC.JC (fun o=>(app o [0,1,2,3,4,5,6] (.br (app o [7,8,9,10,11,12] .nil) (app o [8] (.br (app o [7,9,10,11,12] .nil) (app o [9,7,10,11,12] .nil)))))) mixed (by kernel_rfl) fun aO y=>?_)))))))
 have ah:=((((((((((((((Le.refl w).trans a2).trans aH).trans ad).trans R).trans A).trans n).trans f).trans j).trans l).trans t).trans u).trans x).trans m).trans y
 refine GT.app (Gd Z (.jM NN (by rfl) Z (aN.le (m.trans y))) ?_)
 refine Xh Z (f7.le (f.trans (j.trans (l.trans (t.trans (u.trans (x.trans (m.trans y)))))))) (Xn 1 Z (Xh Z (af.le (m.trans y)) ?_))
 have S:=(be.le (n.trans (f.trans (j.trans (l.trans (t.trans (u.trans (x.trans (m.trans y)))))))))
 refine Xh Z S (Xh Z (aJ.le (l.trans (t.trans (u.trans (x.trans (m.trans y)))))) (Ga Z (.kU (cells:=(jq (⟨0,0⟩:jw)).toArray) underlying35 nC z35 Z Z) (G.nil (GT.br ?_ ?_))))
 ·refine GT.last (G.ef Z Z Z Z Z (Ef.iw (len:=1) [_] underlying77 PU Z (by simp[Value.cells,oW.len]) Z (by decide) (by decide) ?_))
  intro B ai bj aj ak
  refine⟨fun _=>ak,?_⟩
  have aj:ik ai B 35 (([(⟨0,0⟩:jw)]).map jq).flatten.toArray:=aj
  have bk:iy ai aO.heap.size 35 jq 2 (some ⟨B,0,none⟩) 1 1 ([(⟨0,0⟩:jw)]):=aj.j4 bj oW Z Z (by decide)
  refine Xd Z (SB sd ai) ?_
  rintro _ bl ⟨bX,bY,rfl,bZ,bm,bn,b0,U⟩
  refine⟨fun _=>U,?_⟩
  have aP:=(ah.trans ak).trans U
  refine Xd Z (Ae bl bm bn (by assumption) hsd (by omega)) ?_
  rintro _ b1 ⟨al,an,rfl,ao,V⟩
  refine⟨fun _=>V,?_⟩
  have aQ:=aP.trans V
  generalize ag1:(jF 0++jZ sd 0 21).length=ap at ao ⊢
  generalize bo:(jF 0++jZ sd 0 21)=bp at ao
  refine Ga Z (.iF (tX (⟨(⟨ch,kt,me,h0,h1,rt,fun _=>[],jO,jO,jO,false,s,q0,q1,0,sd⟩:jU),(Dc (⟨(some ⟨B,0,none⟩),1,1⟩:kZ) (⟨al,ap,an⟩:kZ))⟩:sF)) adE z80 Z (by kernel_rfl)) (G.ef Z Z Z Z Z (Ef.Tn Z fun bq bs bt (bu:ik bs bq 80 (tX (⟨(⟨ch,kt,me,h0,h1,rt,fun _=>[],jO,jO,jO,false,s,q0,q1,0,sd⟩:jU),(Dc (⟨(some ⟨B,0,none⟩),1,1⟩:kZ) (⟨al,ap,an⟩:kZ))⟩:sF)).toArray) C=>⟨fun _=>C,?_⟩))
  refine Xx 1 Z (Sq (Sq (WC.draw [0,1,2,3,4,5,6,7] mixed (by kernel_rfl) fun D e=>Xn 4 Z ?_)))
  have aq:=(bu.le e)
  refine Xb (cutV jO) Z aq Z (Xh Z (S.le (ak.trans (U.trans (V.trans (C.trans e))))) (Xc Z (Gm (z:=(⟨ch,kt,me,h0,h1,rt,fun _=>[],jO,jO,jO,false,s,q0,q1,0,sd⟩:jU)) (c:=jO) (s:=s) D (Al.new aq (fun _ _=>rfl)) hz (fun i hi=>by rcases kX hi with rfl|rfl<;>rfl) (by decide) O8 hsg) fun b2 H=>Xx 1 Z (Cf Z (Sn (Rn 3 Z (Rt ?_))))))
  have bv:=(ao.le (C.trans (e.trans H)))
  refine E.lD Z Z Z ?_
  exact⟨_,_,rfl,⟨Dc (⟨(some ⟨B,0,none⟩),1,1⟩:kZ) (⟨al,ap,an⟩:kZ),_,(aq.le H),(fun i hi=>by rcases kX hi with rfl|rfl<;>exact iy.nil _ _ _ _ _ _),((bk.le (U.trans (V.trans (C.trans (e.trans H))))).mono ah.size),(by rw[show(jF 0++jZ sd 0 21)=bp from bo];exact(bv.mono aP.size)),(fun i hi q hq=>by rcases kX hi with rfl|rfl<;>simp[Dc,rowOf]at hq),Nat.le_trans aQ.size bt,fun k=>Iff.rfl,Nat.le_refl _⟩,(((aQ.trans C).trans e).trans H)⟩
 refine GT.app (G.ef Z Z Z Z Z (Ef.call ah2 Z Z (SB sd aO) ?_))
 rintro _ aR ⟨b3,b4,rfl,b5,aS,aT,b6,X⟩
 refine⟨_,rfl,?_⟩
 refine⟨fun _=>X,?_⟩
 have Y:=ah.trans X
 refine G.nil (GT.br ?_ ?_)
 ·refine GT.last (G.ef Z Z Z Z Z (Ef.iw (len:=1) [_] underlying77 PU Z (by simp[Value.cells,oW.len]) Z (by decide) (by decide) ?_))
  intro I ar bw au K
  refine⟨fun _=>K,?_⟩
  have aU:=Y.trans K
  have au:ik ar I 35 (([(⟨0,0⟩:jw)]).map jq).flatten.toArray:=au
  have bx:iy ar aR.heap.size 35 jq 2 (some ⟨I,0,none⟩) 1 1 ([(⟨0,0⟩:jw)]):=au.j4 bw oW Z Z (by decide)
  refine Xd Z (Ae ar (aS.le K) (aT.le K) (by assumption) hsd (by omega)) ?_
  rintro _ b7 ⟨av,aw,rfl,ax,aa⟩
  refine⟨fun _=>aa,?_⟩
  have aV:=aU.trans aa
  generalize aeo:(jF 0++jZ sd 0 21).length=ay at ax ⊢
  generalize bz:(jF 0++jZ sd 0 21)=bA at ax
  refine Ga Z (.iF (tX (⟨(⟨ch,kt,me,h0,h1,rt,fun _=>[],jO,jO,jO,false,s,q0,q1,0,sd⟩:jU),(Dc (⟨(some ⟨I,0,none⟩),1,1⟩:kZ) (⟨av,ay,aw⟩:kZ))⟩:sF)) adE z80 Z (by kernel_rfl)) (G.ef Z Z Z Z Z (Ef.Tn Z fun bB bC bD (bE:ik bC bB 80 (tX (⟨(⟨ch,kt,me,h0,h1,rt,fun _=>[],jO,jO,jO,false,s,q0,q1,0,sd⟩:jU),(Dc (⟨(some ⟨I,0,none⟩),1,1⟩:kZ) (⟨av,ay,aw⟩:kZ))⟩:sF)).toArray) L=>⟨fun _=>L,?_⟩))
  refine Xx 1 Z (Sq (Sq (WC.draw [0,1,2,3,4,5,6,7] mixed (by kernel_rfl) fun D e=>Xn 4 Z ?_)))
  have az:=(bE.le e)
  refine Xb (cutV jO) Z az Z (Xh Z (S.le (X.trans (K.trans (aa.trans (L.trans e))))) (Xc Z (Gm (z:=(⟨ch,kt,me,h0,h1,rt,fun _=>[],jO,jO,jO,false,s,q0,q1,0,sd⟩:jU)) (c:=jO) (s:=s) D (Al.new az (fun _ _=>rfl)) hz (fun i hi=>by rcases kX hi with rfl|rfl<;>rfl) (by decide) O8 hsg) fun b8 N=>Xx 1 Z (Cf Z (Sn (Rn 3 Z (Rt ?_))))))
  have bF:=(ax.le (L.trans (e.trans N)))
  refine E.lD Z Z Z ?_
  exact⟨_,_,rfl,⟨Dc (⟨(some ⟨I,0,none⟩),1,1⟩:kZ) (⟨av,ay,aw⟩:kZ),_,(az.le N),(fun i hi=>by rcases kX hi with rfl|rfl<;>exact iy.nil _ _ _ _ _ _),((bx.le (aa.trans (L.trans (e.trans N)))).mono Y.size),(by rw[show(jF 0++jZ sd 0 21)=bA from bz];exact(bF.mono aU.size)),(fun i hi q hq=>by rcases kX hi with rfl|rfl<;>simp[Dc,rowOf]at hq),Nat.le_trans aV.size bD,fun k=>Iff.rfl,Nat.le_refl _⟩,(((aV.trans L).trans e).trans N)⟩
 refine GT.last (G.ef Z Z Z Z Z (Ef.call ah3 Z Z (Ae aR aS aT (by assumption) hsd (by omega)) ?_))
 rintro _ bG ⟨aA,aB,rfl,aC,aD⟩
 refine⟨_,rfl,?_⟩
 refine⟨fun _=>aD,?_⟩
 have aW:=Y.trans aD
 generalize aep:(jF 0++jZ sd 0 21).length=aE at aC ⊢
 generalize bH:(jF 0++jZ sd 0 21)=bI at aC
 refine G.ef Z Z Z Z Z (Ef.iw (len:=1) [_] underlying77 PU Z (by simp[Value.cells,oW.len]) Z (by decide) (by decide) ?_)
 intro O aX bJ aF ac
 refine⟨fun _=>ac,?_⟩
 have aY:=aW.trans ac
 have aF:ik aX O 35 (([(⟨0,0⟩:jw)]).map jq).flatten.toArray:=aF
 have bK:iy aX bG.heap.size 35 jq 2 (some ⟨O,0,none⟩) 1 1 ([(⟨0,0⟩:jw)]):=aF.j4 bJ oW Z Z (by decide)
 refine Ga Z (.iF (tX (⟨(⟨ch,kt,me,h0,h1,rt,fun _=>[],jO,jO,jO,false,s,q0,q1,0,sd⟩:jU),(Dc (⟨(some ⟨O,0,none⟩),1,1⟩:kZ) (⟨aA,aE,aB⟩:kZ))⟩:sF)) adE z80 Z (by kernel_rfl)) (G.ef Z Z Z Z Z (Ef.Tn Z fun bL bM bN (bO:ik bM bL 80 (tX (⟨(⟨ch,kt,me,h0,h1,rt,fun _=>[],jO,jO,jO,false,s,q0,q1,0,sd⟩:jU),(Dc (⟨(some ⟨O,0,none⟩),1,1⟩:kZ) (⟨aA,aE,aB⟩:kZ))⟩:sF)).toArray) P=>⟨fun _=>P,?_⟩))
 refine Xx 1 Z (Sq (Sq (WC.draw [0,1,2,3,4,5,6,7] mixed (by kernel_rfl) fun D e=>Xn 4 Z ?_)))
 have aG:=(bO.le e)
 refine Xb (cutV jO) Z aG Z (Xh Z (S.le (X.trans (aD.trans (ac.trans (P.trans e))))) (Xc Z (Gm (z:=(⟨ch,kt,me,h0,h1,rt,fun _=>[],jO,jO,jO,false,s,q0,q1,0,sd⟩:jU)) (c:=jO) (s:=s) D (Al.new aG (fun _ _=>rfl)) hz (fun i hi=>by rcases kX hi with rfl|rfl<;>rfl) (by decide) O8 hsg) fun b9 Q=>Xx 1 Z (Cf Z (Sn (Rn 3 Z (Rt ?_))))))
 have bP:=(aC.le (ac.trans (P.trans (e.trans Q))))
 refine E.lD Z Z Z ?_
 exact⟨_,_,rfl,⟨Dc (⟨(some ⟨O,0,none⟩),1,1⟩:kZ) (⟨aA,aE,aB⟩:kZ),_,(aG.le Q),(fun i hi=>by rcases kX hi with rfl|rfl<;>exact iy.nil _ _ _ _ _ _),((bK.le (P.trans (e.trans Q))).mono aW.size),(by rw[show(jF 0++jZ sd 0 21)=bI from bH];exact(bP.mono Y.size)),(fun i hi q hq=>by rcases kX hi with rfl|rfl<;>simp[Dc,rowOf]at hq),Nat.le_trans aY.size bN,fun k=>Iff.rfl,Nat.le_refl _⟩,(((aY.trans P).trans e).trans Q)⟩
set_option maxHeartbeats 600000 in
theorem OT {ch:vM} (sd:List (BitVec 8)) (w:World) (hz:lJ (⟨ch,kt,me,h0,h1,rt,fun _=>[],jO,jO,jO,false,s,q0,q1,0,sd⟩:jU)) (aee:iW kt=ch.ZF me) (hq0:right q0=true/\q0<18446744073709551616) (hq1:right q1=true/\q1<18446744073709551616) (xz:¬lF rt 16<=if ch.op=0 then h0 else h1):Calls prog 28 #[.agg (mU ch).toArray,.agg (mD kt).toArray,J (me:Int),.agg #[J 0,J h0,J h1,.slice none 0 0,J (rt)],.agg (ZE ((q0,q1):Nat×Nat)).toArray,.agg (sS s).toArray] w fun r w'=>r= .returned (.tuple #[.pointer none,J 8])/\Le w w':=by
 have hme:me<2:=hz.me
 have hop:0<=ch.op/\ch.op<=1:=hz.ch.op
 have hrt:0<=rt/\rt<=1000:=hz.rt
 have hch:=hz.ch
 rw[<-Y1 hop]at xz
 refine En func28 Z (Sr (Yv Z fun K L ah (N:ik L K 68 (mU ch).toArray) O=>Yv Z fun P Q ai (R:ik Q P 70 (mD kt).toArray) y=>Yv Z fun S U aj (V:ik U S 38 #[J 0,J h0,J h1,.slice none 0 0,J (rt)]) n=>Yv Z fun X Y ak (aa:ik Y X 76 (ZE ((q0,q1):Nat×Nat)).toArray) l=>Yv Z fun al an ao ap e=>Yx 2 Z (Sq (Sq ?_))))
 refine WC.draw [0,1,2,3,4,6,7,8,9,5,10,11,12,13,14,15,16,17,18,19,20,21,22,23] mixed (by kernel_rfl) fun w1 f=>Xn 1 Z (Ga Z (.Lg Z Z (by omega)) (Xq 1 Z (show _=false from by first|decide|rfl) (Xn 1 Z (Xh Z (R.le (n.trans (l.trans (e.trans f)))) (Xn 2 Z (Xj me Z ?_))))))
 have A:=(N.le (y.trans (n.trans (l.trans (e.trans f)))))
 refine Xb (xg (ch.ZF me)) Z A (SH ch (by omega)) (Xc Z (Si kt w1) fun ac j=>F7 Z (.dec (.neA afr Z Z (OQ (d:=9998) _ _)) (congrArg not (dT aee))) (Xn 2 Z (Xi 0 Z ?_)))
 have B:=(aa.le (e.trans (f.trans j)))
 refine Xk (.int .u64 (q0:Int)) Z B Z (Xc Z (by have q:=lC q0 hq0.2 ac;rw[hq0.1]at q;exact q) fun ad k=>?_)
 refine Xn 3 Z (Xi 1 Z (Xk (.int .u64 (q1:Int)) Z (B.le k) Z (Xc Z (by have q:=lC q1 hq1.2 ad;rw[hq1.1]at q;exact q) fun ae m=>?_)))
 refine Xx 2 Z (Cf Z (Sn (Sq (Sr ?_))))
 have C:=(A.le (j.trans (k.trans m)))
 refine Yh Z C (Yc Z (LD ch hch ae) fun af o=>Yx 1 Z (Sr (Yq 2 Z (show _=false from by first|decide|rfl) (Nx (Cf Z (Sn (Sq (Sr ?_))))))))
 have D:=(C.le o)
 refine Yh Z D ?_
 have F:=(V.le (l.trans (e.trans (f.trans (j.trans (k.trans (m.trans o)))))))
 refine Yh Z F (Yc Z (D7 (s:=⟨0,h0,h1,[],rt⟩) (c:=0) ch hz.ch af (Vec.nil _ _ _ _) (by have q:=hz.rs;rw[SK Z]at q;exact q)) fun aq t=>Yn 3 Z ?_)
 have u:=(F.le t)
 refine Yk (.slice none 0 0) Z u Z (Yq 2 Z (show _=false from by first|decide|rfl) (Yn 3 Z (Yk (J 0) Z u Z (Yq 1 Z (show _=false from by first|decide|rfl) (Yx 1 Z (Cf Z (Sn (Sq (Sq ?_)))))))))
 refine WC.draw [0,1,2,3,4,5,6,7,8] mixed (by kernel_rfl) fun w8 x=>Xn 1 Z (Xk (J ch.op) Z (D.le (t.trans x)) Z (Xn 1 Z (Xi ((ch.op).toNat) Z ?_)))
 have H:=(u.le x)
 refine Xk (J ((hxN h0 h1) ((ch.op).toNat))) Z H (by rcases kX (i:=(ch.op).toNat) (by omega)with h0|h0<;>rw[h0]<;>rfl) (Xn 1 Z (Xk (J rt) Z H Z (Xc Z (Bq rt (by omega) w8) fun ar I=>Xx 1 Z (Cy Z (dT (by omega)) (Rn 2 Z (Rt (E.il (E.lD Z Z Z ?_))))))))
 exact⟨rfl,((((((((((((((Le.refl w).trans O).trans y).trans n).trans l).trans e).trans f).trans j).trans k).trans m).trans o).trans t).trans x).trans I)⟩
def jQ (z:jU)(m:mK):jU×List mK:=
 if m.kd=5 then({z with mi:=sG z,sg:=m.sg},[⟨6,(z.mi.no:Int),ag,0,iY,lU z.kt.ch z.mi.no,lW z.kt.ch (z.mi.no+2)⟩])
 else if m.kd=6 then({z with th:=z.un,wt:=false,q0:=z.q1,q1:=m.pt,nk:=z.nk+1},[])
 else(z.yF (1-z.me) (z.lg (1-z.me)++[q8 m]),[])
inductive qg (z:jU):mK->Prop
 |offer (d:mF) (hfu:zw z) (hd:Am z (1-z.me) d) (hp:z.kp (1-z.me)<=z.sp (1-z.me)-d.am):qg z (iZ ⟨1,d,0⟩)
 |ends (u:kT) (hfu:zw z) (hu:q8 (iZ u)=u) (he:Ky z (1-z.me) u):qg z (iZ u)
 |sig (s:yA.BF) (hno:z.mi.no<1048500) (hnq:(sG z).n≠z.mi.n) (hcut:∀i,i<2->(sG z).n.ix i=((z.lg i).length:Int)) (O8:s.r<18446744073709551616) (hsg:nN (z.ch.b (1-z.me) 0) (NF z.ch (z.si ((z.mi.no+1:Nat):Int)) z.me (lW z.kt.ch (z.mi.no+1))) s=true):qg z ⟨5,((z.mi.no+1:Nat):Int),ag,0,s,noH,0⟩
 |rev (pt:Nat) (hwt:z.wt=true) (hnk:z.th.no=z.nk) (hn:z.nk<13) (hsd:z.sd.length=32) (hq0:z.q0=lW z.sd z.nk) (hpt:right pt=true/\pt<18446744073709551616):qg z ⟨6,(z.nk:Int),ag,0,iY,lU z.sd z.nk,pt⟩
theorem Y2 {base g:Nat}{z:jU}(hS:qy w base g F z)(hz:lJ z)(hT:C8 w)(hb4:4<base)(h:qg z m):
  Calls prog 88 #[.pointer (some ⟨g,0,none⟩),.agg (iR m).toArray] w fun r w'=>∃F' A c,r= .returned (.tuple #[.slice A (jQ z m).2.length c,J 0])/\iy w' w.heap.size 134 iR 61 A (jQ z m).2.length c (jQ z m).2/\qy w' base g F' (jQ z m).1/\(∀k,F' k->F k\/w.heap.size<=k)/\iX w w' F:=by
 have hme:=hz.me
 cases h with
 |offer d hfu hd hp=>
  have e1:iZ ⟨1,d,0⟩=⟨1,0,d,0,iY,noH,0⟩:=Z
  refine(OP (m:=iZ ⟨1,d,0⟩) (e:=(if z.kp (1-z.me)<=z.sp (1-z.me)-d.am then 0 else 8:Int)) w hS hz WR Z (fun w' a hr=>Br (1-z.me) d (by omega) w' hr hz hfu hd) (by rw[e1];exact(show 1<=1/\1<=3 by decide))).mono ?_
  rintro r w' ⟨F',rfl,k1,k2,f⟩
  rw[if_pos (by rw[if_pos hp])]at k1
  exact⟨F',none,0,by rw[if_pos hp];rfl,iy.nil _ _ _ _ _ _,k1,k2,f⟩
 |ends u hfu hu he=>
  have hk:=he.kd
  have e1:iZ u=⟨u.kd,u.c.id,ag,u.sec,iY,noH,0⟩:=if_neg (by omega)
  have e2:jQ z (iZ u)=(z.yF (1-z.me) (z.lg (1-z.me)++[q8 (iZ u)]),[]):=by
   rw[e1];unfold jQ
   rw[if_neg (by show¬u.kd=5;omega),if_neg (by show¬u.kd=6;omega)]
  refine(OP (m:=iZ u) (e:=0) w hS hz WS (by rw[hu];rcases hk with q|q<;>rw[q]<;>rfl) (fun w' a hr=>Mi (1-z.me) (by omega) w' hr hz hfu (by rw[hu];exact he)) (by rw[e1];show 1<=u.kd/\u.kd<=3;omega)).mono ?_
  rintro r w' ⟨F',rfl,k1,k2,f⟩
  rw[if_pos Z]at k1
  rw[e2]
  exact⟨F',none,0,rfl,iy.nil _ _ _ _ _ _,k1,k2,f⟩
 |sig s hno hnq hcut O8 hsg=>
  refine(YZ w hS hz hno hnq hcut O8 hsg).mono ?_
  rintro r w' ⟨F',A,c,rfl,k0,k1,k2,f⟩
  exact⟨F',A,c,rfl,k0,k1,k2,f⟩
 |rev pt hwt hnk hn hsd hq0 hpt=>
  refine(Y0 w hS hz hT hwt hnk hn hsd hq0 hpt hb4).mono ?_
  rintro r w' ⟨F',rfl,k1,k2,f⟩
  exact⟨F',none,0,rfl,iy.nil _ _ _ _ _ _,k1,k2,f⟩
structure Bb where
 z:Nat->jU
 qs:Nat->List mK
variable {α:Type}
def kr (f:Nat->α)(i:Nat)(v:α):Nat->α:=fun j=>if j=i then v else f j
theorem l6 (f:Nat->α)(i:Nat)(v:α):kr f i v i=v:=if_pos Z
theorem qz (f:Nat->α){i j:Nat}(v:α)(h:j≠i):kr f i v j=f j:=if_neg h
def U6 (z:jU):jU:={z with un:=rO z,wt:=true}
def yG (z:jU):mK:=⟨5,((z.th.no+1:Nat):Int),ag,0,nR z.kt.f (NF z.ch (z.si ((z.th.no+1:Nat):Int)) (1-z.me) z.q1),noH,0⟩
def Bt (t:Bb)(i:Nat):Bb:=
 match t.qs i with
 |m::ms=>⟨kr t.z i (jQ (t.z i) m).1,kr (kr t.qs i ms) (1-i) (t.qs (1-i)++(jQ (t.z i) m).2)⟩
 |[]=>t
def Y3 (t:Bb)(i:Nat):Bb:=if uj (t.z i)then⟨kr t.z i (U6 (t.z i)),kr t.qs (1-i) (t.qs (1-i)++[yG (t.z i)])⟩else t
def stepT (t:Bb)(i:Nat):Bb:=Y3 (Bt t i) i
structure Fu (z:jU):Prop where
 no:z.th.no<1048574
 cut:∀i,i<2->(rO z).n.ix i=((z.lg i).length:Int)
 q1:right z.q1=true/\z.q1<18446744073709551616
structure q9 (t:Bb)(i:Nat):Prop where
 ok:∀j,j<2->lJ (t.z j)/\(t.z j).me=j/\(t.z j).th.no<=1048576
 ok2:lJ ((Bt t i).z i)/\((Bt t i).z i).th.no<=1048576
 few:∀j,j<2->(t.qs j).length<=4
 take:∀m ms,t.qs i=m::ms->qg (t.z i) m
 com:uj ((Bt t i).z i)=true->Fu ((Bt t i).z i)
def runT (t:Bb):Nat->Bb
 |0=>t
 |k+1=>stepT (runT t k) (k%2)
section
variable {t:Bb}{i:Nat}{m:mK}{ms:List mK}
theorem U7 (f:Nat->α)(i:Nat)(v u:α):kr (kr f i v) i u=kr f i u:=funext fun j=>by unfold kr;split<;>rfl
theorem Ap (h:t.qs i=m::ms):Bt t i=⟨kr t.z i (jQ (t.z i) m).1,kr (kr t.qs i ms) (1-i) (t.qs (1-i)++(jQ (t.z i) m).2)⟩:=by unfold Bt;rw[h]
theorem zx (h:t.qs i=[]):Bt t i=t:=by unfold Bt;rw[h]
theorem q9.agP (h:q9 t i)(hq:t.qs i=m::ms):(lJ (jQ (t.z i) m).1/\(jQ (t.z i) m).1.th.no<=1048576)/\(uj (jQ (t.z i) m).1=true->Fu (jQ (t.z i) m).1):=by
 have e:(Bt t i).z i=(jQ (t.z i) m).1:=by rw[Ap hq];exact l6 _ _ _
 rw[<-e]
 exact⟨h.ok2,h.com⟩
theorem q9.agQ (h:q9 t i)(hq:t.qs i=[]):(lJ (t.z i)/\(t.z i).th.no<=1048576)/\(uj (t.z i)=true->Fu (t.z i)):=by
 have e:(Bt t i).z i=t.z i:=by rw[zx hq]
 rw[<-e]
 exact⟨h.ok2,h.com⟩
theorem SL (hi:i<2)(h:t.qs i=m::ms)(hd:uj (jQ (t.z i) m).1=true):stepT t i=⟨kr t.z i (U6 (jQ (t.z i) m).1),kr (kr t.qs i ms) (1-i) (t.qs (1-i)++(jQ (t.z i) m).2++[yG (jQ (t.z i) m).1])⟩:=by
 unfold stepT Y3
 rw[Ap h]
 simp only[l6,hd,if_true,U7]
theorem Y4 (h:t.qs i=m::ms)(hd:uj (jQ (t.z i) m).1=false):stepT t i=⟨kr t.z i (jQ (t.z i) m).1,kr (kr t.qs i ms) (1-i) (t.qs (1-i)++(jQ (t.z i) m).2)⟩:=by
 unfold stepT Y3
 rw[Ap h]
 simp only[l6,hd,Bool.false_eq_true,if_false]
theorem Y5 (h:t.qs i=[])(hd:uj (t.z i)=true):stepT t i=⟨kr t.z i (U6 (t.z i)),kr t.qs (1-i) (t.qs (1-i)++[yG (t.z i)])⟩:=by
 unfold stepT Y3
 rw[zx h,hd]
 rfl
theorem Y6 (h:t.qs i=[])(hd:uj (t.z i)=false):stepT t i=t:=by
 unfold stepT Y3
 rw[zx h,hd]
 rfl
end
variable {n:Nat}
theorem qy.kg {base g:Nat}{z:jU}{b e sz c:Nat}{f:α->List Value}{A:Option Addr}{zs:List α}(h:qy w base g F z)(ho:lH w b e f sz A n c zs)(h1:80≠e/\85≠e)(h2:35≠e/\5≠e):∀k,rowOf A c=some k->¬F k:=fun k hk=>by
 obtain⟨cs,hB⟩:=ho.qU hk
 exact h.jg hB h1 h2
structure vR where
 gs:Nat->Nat
 qa:Nat->kZ
def Mj (m:vR):List Value:=[.pointer (some ⟨m.gs 0,0,none⟩),.pointer (some ⟨m.gs 1,0,none⟩),.slice (m.qa 0).A (m.qa 0).n (m.qa 0).c,.slice (m.qa 1).A (m.qa 1).n (m.qa 1).c]
theorem xZ:kM Mj 4:=⟨fun _=>rfl,fun x v hv=>by simp[Mj]at hv;rcases hv with rfl|rfl|rfl|rfl<;>rfl,by decide⟩
theorem oN (m:vR){j:Nat}(h:j<2):(Mj m).toArray[0+j]? =some (.pointer (some ⟨m.gs j,0,none⟩)):=by rcases kX h with rfl|rfl<;>rfl
theorem sj (m:vR){j:Nat}(h:j<2):(Mj m).toArray[2+j]? =some (.slice (m.qa j).A (m.qa j).n (m.qa j).c):=by rcases kX h with rfl|rfl<;>rfl
theorem sZ (m:vR)(s:kZ){j:Nat}(h:j<2):(Mj m).toArray.setIfInBounds (2+j) (.slice s.A s.n s.c)=(Mj ⟨m.gs,j5 m.qa j s⟩).toArray:=by rcases kX h with rfl|rfl<;>rfl
structure TwM (w:World)(base gt:Nat)(F:Nat->Prop)(m:vR)(Fs:Nat->Nat->Prop)(t:Bb):Prop where
 b:ik w gt 44 (Mj m).toArray
 s:∀j,j<2->qy w base (m.gs j) (Fs j) (t.z j)
 q:∀j,j<2->lH w base 134 iR 61 (m.qa j).A (m.qa j).n (m.qa j).c (t.qs j)
 o:base<=gt
 sf:∀j,j<2->∀k,Fs j k->¬Fs (1-j) k
 sq:∀j,j<2->∀k,rowOf (m.qa j).A (m.qa j).c=some k->rowOf (m.qa (1-j)).A (m.qa (1-j)).c≠some k
 f:∀k,F k↔(k=gt\/∃j,j<2/\(Fs j k\/rowOf (m.qa j).A (m.qa j).c=some k))
def Au (w:World)(base gt:Nat)(F:Nat->Prop)(t:Bb):Prop:=∃m Fs,TwM w base gt F m Fs t
section
variable {w w':World}{base gt:Nat}{F G:Nat->Prop}{t:Bb}{m:vR}{Fs:Nat->Nat->Prop}
theorem Au.ji (h:Au w base gt F t)(hc:iX w w' G)(hne:∀k,F k->¬G k):Au w' base gt F t:=by
 obtain⟨m,Fs,h⟩:=h
 exact⟨m,Fs,h.b.ji hc (hne gt ((h.f gt).2 (.inl Z))),fun j hj=>(h.s j hj).ji hc fun k hk=>hne k ((h.f k).2 (.inr ⟨j,hj,.inl hk⟩)),fun j hj=>(h.q j hj).ji hc fun k hk=>hne k ((h.f k).2 (.inr ⟨j,hj,.inr hk⟩)),h.o,h.sf,h.sq,h.f⟩
theorem Au.ch {r:Option Nat}(h:Au w base gt F t)(hc:Ch w w' r)(hne:∀k,r=some k->¬F k):Au w' base gt F t:=h.ji (hc.ji (F:=fun k=>r=some k) (fun i hi=>hi)) (fun k hk hr=>hne k hr hk)
theorem Au.le (h:Au w base gt F t)(hl:Le w w'):Au w' base gt F t:=h.ji (hl.ji (fun _=>False)) (fun _ _ hf=>hf)
theorem TwM.old (h:TwM w base gt F m Fs t){k:Nat}(hk:F k):base<=k/\k<w.heap.size:=by
 rcases(h.f k).1 hk with rfl|⟨j,hj,hk|hk⟩
 ·exact⟨h.o,h.b.lt⟩
 ·exact⟨(h.s j hj).old hk,(h.s j hj).lt hk⟩
 ·exact(h.q j hj).row hk
theorem Au.lt (h:Au w base gt F t){k:Nat}(hk:F k):k<w.heap.size:=let⟨_,_,h⟩:=h;(h.old hk).2
theorem Au.old (h:Au w base gt F t){k:Nat}(hk:F k):base<=k:=let⟨_,_,h⟩:=h;(h.old hk).1
theorem TwM.turn {i:Nat}{z':jU}{F':Nat->Prop}{qi qj:kZ}{xi xj:List mK}(h:TwM w base gt F m Fs t)(hi:i<2)(hB:ik w' gt 44 (Mj ⟨m.gs,j5 (j5 m.qa i qi) (1-i) qj⟩).toArray)(hS:qy w' base (m.gs i) F' z')(hO:qy w' base (m.gs (1-i)) (Fs (1-i)) (t.z (1-i)))
  (hF:∀k,F' k->Fs i k\/w.heap.size<=k)(hqi:lH w' base 134 iR 61 qi.A qi.n qi.c xi)(hqj:lH w' base 134 iR 61 qj.A qj.n qj.c xj)
  (hri:∀k,rowOf qi.A qi.c=some k->rowOf (m.qa i).A (m.qa i).c=some k)(hrj:∀k,rowOf qj.A qj.c=some k->rowOf (m.qa (1-i)).A (m.qa (1-i)).c=some k\/w.heap.size<=k):
  ∃G,Au w' base gt G ⟨kr t.z i z',kr (kr t.qs i xi) (1-i) xj⟩/\(∀k,G k->F k\/w.heap.size<=k)/\∀k,G k->k=gt\/F' k\/Fs (1-i) k\/rowOf qi.A qi.c=some k\/rowOf qj.A qj.c=some k:=by
 have key:∀j,j<2->j=i\/j=1-i:=fun j hj=>by omega
 have hne:i≠1-i:=by omega
 have ei:j5 (j5 m.qa i qi) (1-i) qj i=qi:=by rw[vQ _ _ hne,Da]
 have ej:j5 (j5 m.qa i qi) (1-i) qj (1-i)=qj:=Da _ _ _
 have xi_:kr (kr t.qs i xi) (1-i) xj i=xi:=by rw[qz _ _ hne,l6]
 have xj_:kr (kr t.qs i xi) (1-i) xj (1-i)=xj:=l6 _ _ _
 have hrr:∀k,rowOf qi.A qi.c=some k->rowOf qj.A qj.c≠some k:=fun k d e=>by
  rcases hrj k e with l|l
  ·exact h.sq i hi k (hri k d) l
  ·have:=((h.q i hi).row (hri k d)).2;omega
 have hff:∀k,F' k->¬Fs (1-i) k:=fun k d e=>by
  rcases hF k d with l|l
  ·exact h.sf i hi k l e
  ·have:=(h.s (1-i) (by omega)).lt e;omega
 refine⟨fun k=>k=gt\/∃j,j<2/\(kr Fs i F' j k\/rowOf (j5 (j5 m.qa i qi) (1-i) qj j).A (j5 (j5 m.qa i qi) (1-i) qj j).c=some k),⟨_,kr Fs i F',hB,fun j hj=>?_,fun j hj=>?_,h.o,fun j hj k d=>?_,fun j hj k d=>?_,fun k=>Iff.rfl⟩,?_,?_⟩
 ·rcases key j hj with rfl|rfl
  ·simp only[l6];exact hS
  ·simp only[qz _ _ (Ne.symm hne)];exact hO
 ·rcases key j hj with rfl|rfl
  ·simp only[ei,xi_];exact hqi
  ·simp only[ej,xj_];exact hqj
 ·rcases key j hj with rfl|rfl
  ·rw[l6]at d;rw[qz _ _ (Ne.symm hne)];exact hff k d
  ·rw[qz _ _ (Ne.symm hne)]at d;rw[pg hi,l6];exact fun e=>hff k e d
 ·rcases key j hj with rfl|rfl
  ·simp only[ei]at d;simp only[ej];exact hrr k d
  ·simp only[ej]at d;simp only[pg hi,ei];exact fun e=>hrr k e d
 ·rintro k (hk|⟨j,hj,hk|hk⟩)
  ·exact .inl ((h.f k).2 (.inl hk))
  ·rcases key j hj with rfl|rfl
   ·rw[l6]at hk;exact(hF k hk).imp (fun q=>(h.f k).2 (.inr ⟨_,hi,.inl q⟩)) id
   ·rw[qz _ _ (Ne.symm hne)]at hk;exact .inl ((h.f k).2 (.inr ⟨_,hj,.inl hk⟩))
  ·rcases key j hj with rfl|rfl
   ·simp only[ei]at hk;exact .inl ((h.f k).2 (.inr ⟨_,hi,.inr (hri k hk)⟩))
   ·simp only[ej]at hk;exact(hrj k hk).imp (fun q=>(h.f k).2 (.inr ⟨_,hj,.inr q⟩)) id
 ·rintro k (hk|⟨j,hj,hk|hk⟩)
  ·exact .inl hk
  ·rcases key j hj with rfl|rfl
   ·rw[l6]at hk;exact .inr (.inl hk)
   ·rw[qz _ _ (Ne.symm hne)]at hk;exact .inr (.inr (.inl hk))
  ·rcases key j hj with rfl|rfl
   ·simp only[ei]at hk;exact .inr (.inr (.inr (.inl hk)))
   ·simp only[ej]at hk;exact .inr (.inr (.inr (.inr hk)))
end
section
variable {w:World}{base g:Nat}{F:Nat->Prop}{z:jU}
theorem Y7 (h:qy w base g F z)(hz:lJ z)(hno:z.th.no<=1048576):Calls prog 89 #[.pointer (some ⟨g,0,none⟩)] w fun r w'=>r= .returned (.bool (uj z))/\Le w w':=let⟨_,_,hm⟩:=h;YW w hm.r hz hno
theorem OU (h:qy w base g F z)(hz:lJ z):Calls prog 91 #[.pointer (some ⟨g,0,none⟩)] w fun r w'=>r= .returned (.bool (wE z))/\Le w w':=let⟨_,_,hm⟩:=h;YX w hm.r hz
end
theorem U8 (a:Nat->kZ)(j:Nat)(s u:kZ):j5 (j5 a j s) j u=j5 a j u:=funext fun i=>by unfold j5;split<;>rfl
theorem xA (f:Nat->α)(i:Nat):kr f i (f i)=f:=funext fun j=>by unfold kr;split<;>simp_all
theorem U9 (z:jU)(m:mK):(jQ z m).2.length<=1:=by unfold jQ;split;exact Nat.le_refl 1;split<;>exact Nat.zero_le 1
variable {gt:Nat}{t:Bb}
theorem Mk {base:Nat}(w:World)(hS:Au w base gt F t)(hst:∀k,k<60->q9 (runT t k) (k%2))(hT:C8 w)(hb4:4<base)(hfin:∀j,j<2->lJ ((runT t 60).z j))(he0:(runT t 60).qs 0=[])(he1:(runT t 60).qs 1=[])(hq0:wE ((runT t 60).z 0)=true)(hq1:wE ((runT t 60).z 1)=true):Calls prog 38 #[.pointer (some ⟨gt,0,none⟩)] w fun r w'=>∃F',r= .returned (.bool true)/\Au w' base gt F' (runT t 60)/\(∀k,F' k->F k\/w.heap.size<=k)/\iX w w' F:=by
 have hFg:F gt:=by obtain⟨_,_,h⟩:=id hS;exact(h.f gt).2 (.inl Z)
 have hbase:base<=w.heap.size:=by have C:=hS.old hFg;have D:=hS.lt hFg;omega
 refine En func38 Z (Rn 1 Z (Sq (Rn 1 Z (Bk (WC.loop (ι:=Nat×(Nat->Prop)) (fun⟨tn,Fk⟩=>[(0,.pointer (some ⟨gt,0,none⟩)),(3,J (tn:Int))]) (fun⟨tn,Fk⟩ av=>(tn<=60)/\(∀q,Fk q->F q\/w.heap.size<=q)/\iX w av F/\w.heap.size<=av.heap.size/\Au av base gt Fk (runT t tn)) (fun⟨tn,Fk⟩=>60-tn) (0,F) ?_ ?_ ?_)))))
 ·exact .of Z
 ·exact⟨Nat.zero_le _,(fun q h=> .inl h),(iX.refl w F),Nat.le_refl _,hS⟩
 rintro⟨tn,Fk⟩ av ⟨hk,hgr,aw,ax,aH⟩
 refine Sq (Rn 2 Z ?_)
 by_cases c0:(tn:Int)<60
 ·refine Cy Z (dT c0) ?_
  have hso:=hst tn (by omega)
  obtain⟨hok,cK,agR,htk,hcm⟩:=id hso
  have cL:=agR (tn%2) (by omega);have cM:=agR (1-(tn%2)) (by omega)
  refine Nb (Rr 1 Z (Wa (.as (.rem Z Z (by omega)) (int_eq (b:=(((tn%2):Nat):Int)) (by omega))) Z (Yx 1 Z (Sq (Sr ?_)))))
  have Js:=aw.size
  have hij:1-tn%2≠tn%2:=by omega
  obtain⟨d,U,l⟩:=id aH
  have ar:rowOf (d.qa (tn%2)).A (d.qa (tn%2)).c≠some gt:=(l.q (tn%2) (by omega)).kV l.b (by decide)
  have aj:rowOf (d.qa (1-(tn%2))).A (d.qa (1-(tn%2))).c≠some gt:=(l.q (1-(tn%2)) (by omega)).kV l.b (by decide)
  have Ml:=(l.q (tn%2) (by omega)).1;have Mm:=(l.q (1-(tn%2)) (by omega)).1
  refine Yn 4 Z (Yi (tn%2) Z (Yk (.slice ((d.qa (tn%2)).A) ((d.qa (tn%2)).n) ((d.qa (tn%2)).c)) Z l.b (sj (⟨d.gs,d.qa⟩:vR) (by omega)) (Yx 2 Z ?_)))
  by_cases c1:0<((d.qa (tn%2)).n:Int)
  ·refine Cy Z (dT c1) ?_
   obtain ⟨mq, ms, hqe⟩ : ∃ a b, (runT t tn).qs (tn % 2) = a :: b := by
     cases hx:(runT t tn).qs (tn%2)with
     |nil=>have hl:=(l.q (tn%2) (by omega)).1;rw[hx]at hl;simp at hl;omega
     |cons a b=>exact⟨a,b,rfl⟩
   have Q:=hso.agP hqe
   have htl:=U9 ((runT t tn).z (tn%2)) mq
   refine Rr 4 Z (Yi (tn%2) Z (Yk (.slice ((d.qa (tn%2)).A) ((d.qa (tn%2)).n) ((d.qa (tn%2)).c)) Z l.b (sj (⟨d.gs,d.qa⟩:vR) (by omega)) (Ys 0 Z ((l.q (tn%2) (by omega)).vec.isSome iD (by omega)) (Wr (.lX uq Z (l.q (tn%2) (by omega)).vec iD (by rw[hqe];rfl)) Z (W.ab Z sD yt (iD.one mq) fun bd bF cN (bG:ik bF bd 134 (iR mq).toArray) K=>Nx (Sq (WC.draw [0,1,2,3,4,5,6,7,8,9,10,11,12] mixed (by kernel_rfl) fun w7 H=>?_)))))))
   have L2:=(aw.le K).le H
   refine Xn 6 Z (Xi (tn%2) Z ?_)
   have f3:=(l.b.le (K.trans H))
   refine Xk (.slice ((d.qa (tn%2)).A) ((d.qa (tn%2)).n) ((d.qa (tn%2)).c)) Z f3 (sj (⟨d.gs,d.qa⟩:vR) (by omega)) ?_
   have f4:=((l.q (tn%2) (by omega)).le (K.trans H))
   have cO:=f4.cap
   have f6:=((l.q (tn%2) (by omega)).le (K.trans H))
   have v7:=lH.ahn (x:=mq) (ys:=ms) f6 hqe iD
   refine Ga Z (.uP 1 underlying41 yt Z Z Z (by omega) (by omega)) (Xn 2 Z (Xi (tn%2) Z (G.jR Z Z Z Z (Ef.store PW Z Z f3 (by simp[xZ.len,-List.getD_eq_getElem?_getD];omega) Z ?_))))
   intro be aI P
   refine noT (by kernel_rfl) ?_
   have aI:ik be gt 44 (Mj (⟨d.gs,(j5 d.qa (tn%2) (⟨(mZ ((d.qa (tn%2)).A) ((d.qa (tn%2)).c) 1 61),((d.qa (tn%2)).n-1),((d.qa (tn%2)).c-1)⟩:kZ))⟩:vR)).toArray:=aI.cast (sZ (⟨d.gs,d.qa⟩:vR) (⟨(mZ ((d.qa (tn%2)).A) ((d.qa (tn%2)).c) 1 61),((d.qa (tn%2)).n-1),((d.qa (tn%2)).c-1)⟩:kZ) (by omega))
   have L8:iX w be F:=L2.ch P (fun i hi _=>by cases hi;exact hFg)
   refine Gx (Sq (WC.draw [0,1,2,3,4,5,6,7,8,9,10,11,12] mixed (by kernel_rfl) fun w8 L=>?_))
   have L9:=L8.le L
   refine Xn 4 Z (Xi (tn%2) Z ?_)
   have ay:=(aI.le L)
   refine Xk (.pointer (some ⟨(d.gs (tn%2)),0,none⟩)) Z ay (oN (⟨d.gs,(j5 d.qa (tn%2) (⟨(mZ ((d.qa (tn%2)).A) ((d.qa (tn%2)).c) 1 61),((d.qa (tn%2)).n-1),((d.qa (tn%2)).c-1)⟩:kZ))⟩:vR) (by omega)) ?_
   have bH:gt≠bd:=by have:=l.b.lt;omega
   refine Xh Z (((bG.le H).cn P bH).le L) ?_
   have az:=((((l.s (tn%2) (by omega)).le (K.trans H)).ch P (fun q hqq hF=>by cases hqq;exact((l.s (tn%2) (by omega)).jg l.b (by decide) (by decide)) hF)).le L)
   have aiM:=L9.size
   refine Xd Z (Y2 (m:=mq) az (hok (tn%2) (by omega)).1 (hT.chF L9 (fun q h=>hS.old h) hb4) hb4 (htk mq ms hqe)) ?_
   rintro _ cP ⟨ak,cQ,cR,rfl,bI,aA,af,R⟩
   refine noT (by kernel_rfl) ?_
   have bf:=((((l.s (1-(tn%2)) (by omega)).le (K.trans H)).ch P (fun q hqq hF=>by cases hqq;exact((l.s (1-(tn%2)) (by omega)).jg l.b (by decide) (by decide)) hF)).le L)
   have aJ:=((((l.q (1-(tn%2)) (by omega)).le (K.trans H)).ch P (fun q hq=>by cases hq;exact aj)).le L)
   have aK:=((v7.ch P (fun q hq=>by cases hq;exact(fun h=>ar (uF h)))).le L)
   have bg:=(show∀k,(U (1-(tn%2))) k->¬(U (tn%2)) k from(fun k C D=>(l.sf (tn%2) (by omega)) k D C))
   have ap:=bf.ji R bg
   have bJ:∀k,(U (1-(tn%2))) k->¬ak k:=fun k hk hF=>(af _ hF).elim (bg k hk) (fun hz=>by have:=bf.lt hk;omega)
   have bh:=(show∀g,rowOf ((d.qa (1-(tn%2))).A) ((d.qa (1-(tn%2))).c)=some g->¬(U (tn%2)) g from(az.kg aJ (by decide) (by decide)))
   have aB:=aJ.ji R bh
   have bK:∀g,rowOf ((d.qa (1-(tn%2))).A) ((d.qa (1-(tn%2))).c)=some g->¬ak g:=fun g hg hF=>(af _ hF).elim (bh g hg) (fun hz=>by have:=(aJ.row hg).2;omega)
   have bi:=(show¬(U (tn%2)) gt from(az.jg ay (by decide) (by decide)))
   have aC:=ay.ji R bi
   have bL:¬ak gt:=fun hF=>(af _ hF).elim bi (fun hz=>by have:=ay.lt;omega)
   have bj:=(show∀g,rowOf (mZ ((d.qa (tn%2)).A) ((d.qa (tn%2)).c) 1 61) ((d.qa (tn%2)).c-1)=some g->¬(U (tn%2)) g from(az.kg aK (by decide) (by decide)))
   have aL:=aK.ji R bj
   have bM:∀g,rowOf (mZ ((d.qa (tn%2)).A) ((d.qa (tn%2)).c) 1 61) ((d.qa (tn%2)).c-1)=some g->¬ak g:=fun g hg hF=>(af _ hF).elim (bj g hg) (fun hz=>by have:=(aK.row hg).2;omega)
   refine Xx 5 Z (Sq (Sr (Yq 2 Z (show _=false from by first|decide|rfl) (Nx (Cf Z (Sn (WC.draw [0,1,2,3,4,5,6,7,8,9,10,12,13,11,14,15] mixed (by kernel_rfl) fun cS y=>?_)))))))
   have aM:=(L9.sub R (fun i hi hlt=>(by have hh:=hi;first|exact(hgr _ ((l.f _).2 (.inr ⟨tn%2,by omega,.inl hh⟩))).resolve_right (by omega)|exact(af _ hh).elim (fun hh=>(hgr _ ((l.f _).2 (.inr ⟨tn%2,by omega,.inl hh⟩))).resolve_right (by omega)) (fun hz=>by omega)))).le y
   refine Xn 2 Z (Ga Z (.as (.sub Z Z (by omega)) (int_eq (b:=((1-(tn%2):Nat):Int)) (by omega))) (Xn 2 Z (Ga Z (.as (.sub Z Z (by omega)) (int_eq (b:=((1-(tn%2):Nat):Int)) (by omega))) (Xn 2 Z (Xi (1-(tn%2)) Z ?_)))))
   have aq:=(aC.le y)
   refine Xk (.slice ((d.qa (1-(tn%2))).A) ((d.qa (1-(tn%2))).n) ((d.qa (1-(tn%2))).c)) Z aq (by have q:=sj (⟨d.gs,(j5 d.qa (tn%2) (⟨(mZ ((d.qa (tn%2)).A) ((d.qa (tn%2)).c) 1 61),((d.qa (tn%2)).n-1),((d.qa (tn%2)).c-1)⟩:kZ))⟩:vR) (j:=1-tn%2) (by omega);simp only[Da,vQ _ _ hij]at q;exact q) (Xn 3 Z ?_)
   have cT:=aM.size
   refine G.ef Z Z Z Z Z (Ef.aho underlying41 uW underlying41 iD Z (aB.le y) Z (bI.le y).vec (by omega) (by unfold maxLen;omega) (Nat.le_trans hbase (aM).size) ?_)
   intro Y aa bN bk N ah
   refine noT (by kernel_rfl) ?_
   have bO:iX w bN F:=aM.ch N (fun i hi hlt=>(hgr _ ((l.f _).2 (.inr ⟨(1-(tn%2)),by omega,.inr hi⟩))).resolve_right (by omega))
   refine Xi (1-(tn%2)) Z (G.jR Z Z Z Z (Ef.store PW Z Z (aq.ch N aj) (by simp[xZ.len,-List.getD_eq_getElem?_getD];omega) Z ?_))
   intro bl au I
   refine noT (by kernel_rfl) ?_
   have au:ik bl gt 44 (Mj (⟨d.gs,(j5 (j5 d.qa (tn%2) (⟨(mZ ((d.qa (tn%2)).A) ((d.qa (tn%2)).c) 1 61),((d.qa (tn%2)).n-1),((d.qa (tn%2)).c-1)⟩:kZ)) (1-(tn%2)) (⟨Y,((d.qa (1-(tn%2))).n+(jQ ((runT t tn).z (tn%2)) mq).2.length),aa⟩:kZ))⟩:vR)).toArray:=au.cast (sZ (⟨d.gs,(j5 d.qa (tn%2) (⟨(mZ ((d.qa (tn%2)).A) ((d.qa (tn%2)).c) 1 61),((d.qa (tn%2)).n-1),((d.qa (tn%2)).c-1)⟩:kZ))⟩:vR) (⟨Y,((d.qa (1-(tn%2))).n+(jQ ((runT t tn).z (tn%2)) mq).2.length),aa⟩:kZ) (by omega))
   have bP:iX w bl F:=bO.ch I (fun i hi _=>by cases hi;exact hFg)
   refine Gx (Rr 4 Z (Yi (tn%2) Z (Yk (.pointer (some ⟨(d.gs (tn%2)),0,none⟩)) Z au (oN (⟨d.gs,(j5 (j5 d.qa (tn%2) (⟨(mZ ((d.qa (tn%2)).A) ((d.qa (tn%2)).c) 1 61),((d.qa (tn%2)).n-1),((d.qa (tn%2)).c-1)⟩:kZ)) (1-(tn%2)) (⟨Y,((d.qa (1-(tn%2))).n+(jQ ((runT t tn).z (tn%2)) mq).2.length),aa⟩:kZ))⟩:vR) (by omega)) ?_)))
   have aN:=(((aA.le y).ch N (fun q hqq hF=>(aA.kg aB (by decide) (by decide)) q hqq hF)).ch I (fun q hqq hF=>by cases hqq;exact(aA.jg aC (by decide) (by decide)) hF))
   refine Yc Z (Y7 aN Q.1.1 Q.1.2) fun bQ B=>?_
   have bm:=bP.le B
   refine Nx ?_
   by_cases c3:(uj ((jQ ((runT t tn).z (tn%2)) mq).1))=true
   ·refine Cy Z c3 (Rr 4 Z (Yi (tn%2) Z ?_))
    have bn:=(au.le B)
    refine Yk (.pointer (some ⟨(d.gs (tn%2)),0,none⟩)) Z bn (oN (⟨d.gs,(j5 (j5 d.qa (tn%2) (⟨(mZ ((d.qa (tn%2)).A) ((d.qa (tn%2)).c) 1 61),((d.qa (tn%2)).n-1),((d.qa (tn%2)).c-1)⟩:kZ)) (1-(tn%2)) (⟨Y,((d.qa (1-(tn%2))).n+(jQ ((runT t tn).z (tn%2)) mq).2.length),aa⟩:kZ))⟩:vR) (by omega)) (Yd Z (Kz (aN.le B) Q.1.1 (by assumption) (Q.2 (by assumption)).no (Q.2 (by assumption)).cut (Q.2 (by assumption)).q1) ?_)
    rintro _ cU ⟨cV,rfl,aO,bR,ac⟩
    have bS:=((((ap.le y).ch N (fun q hqq hF=>(ap.kg aB (by decide) (by decide)) q hqq hF)).ch I (fun q hqq hF=>by cases hqq;exact(ap.jg aC (by decide) (by decide)) hF)).le B)
    have bT:=((((aL.le y).ch N (Apart.symm (fun q C D=>(fun q C D=>l.sq (tn%2) (by omega) q C D) q (uF C) D))).ch I (fun q hq=>by cases hq;exact(fun h=>ar (uF h)))).le B)
    have _:=aq.lt
    have bU:=((bk.ch I (fun q hq=>by cases hq;exact(ah.off (by omega) aj))).le B)
    have aP:=bS.ji ac (show∀k,(U (1-(tn%2))) k->¬ak k from bJ)
    have aQ:=bn.ji ac (show¬ak gt from bL)
    have _:=y.size
    have aR:=bU.ji ac (show∀g,rowOf Y aa=some g->¬ak g from(fun g hg hF=>(ah g hg).elim (fun hz=>bK g hz hF) (fun hz=>by have:=aA.lt hF;omega)))
    refine Yn 1 Z (Wa (.extract (v:= .agg (iR (yG ((jQ ((runT t tn).z (tn%2)) mq).1))).toArray) Z Z) Z (Yn 1 Z (W.ab Z sD yt (iD.one (yG ((jQ ((runT t tn).z (tn%2)) mq).1))) fun bV bW cW (bX:ik bW bV 134 (iR (yG ((jQ ((runT t tn).z (tn%2)) mq).1))).toArray) V=>Yx 1 Z (Sq (Sr (Yq 2 Z (show _=false from by first|decide|rfl) (Nx (Cf Z ?_))))))))
    refine Sn (WC.draw [0,1,2,3,4,5,6,7,8,9,10,13,14,11,12,15,16] mixed (by kernel_rfl) fun aS u=>Xn 2 Z (Ga Z (.as (.sub Z Z (by omega)) (int_eq (b:=((1-(tn%2):Nat):Int)) (by omega))) (Xn 2 Z (Ga Z (.as (.sub Z Z (by omega)) (int_eq (b:=((1-(tn%2):Nat):Int)) (by omega))) (Xn 2 Z (Xi (1-(tn%2)) Z ?_))))))
    have aT:=(aQ.le (V.trans u))
    refine Xk (.slice Y ((d.qa (1-(tn%2))).n+(jQ ((runT t tn).z (tn%2)) mq).2.length) aa) Z aT (by have q:=sj (⟨d.gs,(j5 (j5 d.qa (tn%2) (⟨(mZ ((d.qa (tn%2)).A) ((d.qa (tn%2)).c) 1 61),((d.qa (tn%2)).n-1),((d.qa (tn%2)).c-1)⟩:kZ)) (1-(tn%2)) (⟨Y,((d.qa (1-(tn%2))).n+(jQ ((runT t tn).z (tn%2)) mq).2.length),aa⟩:kZ))⟩:vR) (j:=1-tn%2) (by omega);simp only[Da,vQ _ _ hij]at q;exact q) (Xh Z (bX.le u) (Xn 2 Z (G.ef Z Z Z Z Z (Ef.iw (len:=1) [_] underlying41 uW Z (by simp[Value.cells,iD.len]) Z (by decide) (by decide) ?_))))
    intro bo bp bY aD S
    refine⟨fun _=>S,?_⟩
    have aU:=(((bm.sub ac (fun i hi hlt=>(by have hh:=hi;first|exact(hgr _ ((l.f _).2 (.inr ⟨tn%2,by omega,.inl hh⟩))).resolve_right (by omega)|exact(af _ hh).elim (fun hh=>(hgr _ ((l.f _).2 (.inr ⟨tn%2,by omega,.inl hh⟩))).resolve_right (by omega)) (fun hz=>by omega)))).le V).le u).le S
    have aD:ik bp bo 134 (([(yG ((jQ ((runT t tn).z (tn%2)) mq).1))]).map iR).flatten.toArray:=aD
    have cX:iy bp aS.heap.size 134 iR 61 (some ⟨bo,0,none⟩) 1 1 ([(yG ((jQ ((runT t tn).z (tn%2)) mq).1))]):=aD.j4 bY iD Z Z (by decide)
    have cY:=aU.size
    refine G.ef Z Z Z Z Z (Ef.NK (a:=(yG ((jQ ((runT t tn).z (tn%2)) mq).1))) underlying41 uW underlying41 iD Z (aR.le (V.trans (u.trans S))) Z aD (by omega) (by unfold maxLen;omega) (Nat.le_trans hbase (aU).size) ?_)
    intro aV aW bZ b0 ad bq
    refine noT (by kernel_rfl) ?_
    have b1:iX w bZ F:=aU.ch ad (fun i hi hlt=>(ah _ hi).elim (fun hi=>(hgr _ ((l.f _).2 (.inr ⟨(1-(tn%2)),by omega,.inr hi⟩))).resolve_right (by omega)) (fun hz=>by omega))
    refine Xi (1-(tn%2)) Z ?_
    have b2:=((aT.le S).ch ad (ah.off (by omega) aj))
    refine G.jR Z Z Z Z (Ef.store PW Z Z b2 (by simp[xZ.len,-List.getD_eq_getElem?_getD];omega) Z ?_)
    intro aX aY ae
    refine noT (by kernel_rfl) ?_
    have aY:ik aX gt 44 (Mj (⟨d.gs,(j5 (j5 (j5 d.qa (tn%2) (⟨(mZ ((d.qa (tn%2)).A) ((d.qa (tn%2)).c) 1 61),((d.qa (tn%2)).n-1),((d.qa (tn%2)).c-1)⟩:kZ)) (1-(tn%2)) (⟨Y,((d.qa (1-(tn%2))).n+(jQ ((runT t tn).z (tn%2)) mq).2.length),aa⟩:kZ)) (1-(tn%2)) (⟨aV,(((d.qa (1-(tn%2))).n+(jQ ((runT t tn).z (tn%2)) mq).2.length)+1),aW⟩:kZ))⟩:vR)).toArray:=aY.cast (sZ (⟨d.gs,(j5 (j5 d.qa (tn%2) (⟨(mZ ((d.qa (tn%2)).A) ((d.qa (tn%2)).c) 1 61),((d.qa (tn%2)).n-1),((d.qa (tn%2)).c-1)⟩:kZ)) (1-(tn%2)) (⟨Y,((d.qa (1-(tn%2))).n+(jQ ((runT t tn).z (tn%2)) mq).2.length),aa⟩:kZ))⟩:vR) (⟨aV,(((d.qa (1-(tn%2))).n+(jQ ((runT t tn).z (tn%2)) mq).2.length)+1),aW⟩:kZ) (by omega))
    have b3:iX w aX F:=b1.ch ae (fun i hi _=>by cases hi;exact hFg)
    refine G.nil (E.jD (E.iM (Rg ?_)))
    have b4:=(((aO.le (V.trans (u.trans S))).ch ad (fun q hqq hF=>(aO.kg aR (by decide) (by decide)) q hqq hF)).ch ae (fun q hqq hF=>by cases hqq;exact(aO.jg aQ (by decide) (by decide)) hF))
    have b5:=(((aP.le (V.trans (u.trans S))).ch ad (fun q hqq hF=>(aP.kg aR (by decide) (by decide)) q hqq hF)).ch ae (fun q hqq hF=>by cases hqq;exact(aP.jg aQ (by decide) (by decide)) hF))
    have b6:=((((bT.ji ac (show∀g,rowOf (mZ ((d.qa (tn%2)).A) ((d.qa (tn%2)).c) 1 61) ((d.qa (tn%2)).c-1)=some g->¬ak g from bM)).le (V.trans (u.trans S))).ch ad (Apart.step (Apart.symm (fun q C D=>(fun q C D=>l.sq (tn%2) (by omega) q C D) q (uF C) D)) ah (fun q hq=>by have:=(aL.row hq).2;omega))).ch ae (fun q hq=>by cases hq;exact(fun h=>ar (uF h))))
    have _:=S.size
    have b7:=(b0.ch ae (fun q hq=>by cases hq;exact(bq.off (by have:=aT.lt;omega) (ah.off (by omega) aj))))
    have b8:runT t (tn+1)=_:=SL (by omega) hqe (by assumption)
    have _:=K.size
    have _:=H.size
    have _:=P.size
    have _:=L.size
    have _:=R.size
    have _:=N.size
    have _:=I.size
    have _:=B.size
    have _:=ac.size
    have _:=V.size
    have _:=u.size
    have _:=ad.size
    have _:=ae.size
    obtain⟨bs,aZ,b9,_⟩:=l.turn (qi:=(⟨(mZ ((d.qa (tn%2)).A) ((d.qa (tn%2)).c) 1 61),((d.qa (tn%2)).n-1),((d.qa (tn%2)).c-1)⟩:kZ)) (qj:=(⟨aV,(((d.qa (1-(tn%2))).n+(jQ ((runT t tn).z (tn%2)) mq).2.length)+1),aW⟩:kZ)) (by omega) (by have q:=aY;rw[U8]at q;exact q) b4 b5 (fun q h=>(bR q h).elim (fun h=>(af q h).imp_right (fun h=>by omega)) (fun h=> .inr (by omega))) b6 b7 (fun q h=>uF h) (fun q h=>(bq q h).elim (fun h=>(ah q h).imp_right (fun h=>by omega)) (fun h=> .inr (by omega)))
    have aZ:Au aX base gt bs (runT t (tn+1)):=by rw[b8];exact aZ
    refine Yn 1 Z (Yp Z (Yn 1 Z (W.nil (E.again (tn+1,bs) (.of Z) ?_ ?_))))
    ·exact⟨by omega,(fun q h=>(b9 q h).elim (hgr q) (fun h=> .inr (by have:=Js;omega))),b3,by have:=ax;omega,aZ⟩
    first|omega|(simp only[];omega)
   refine Cn Z (Bool.eq_false_iff.2 c3) (WC.skip (E.jD (E.iM (Rg ?_))))
   have ca:=(au.le B)
   have cc:=(aN.le B)
   have cd:=((((ap.le y).ch N (fun q hqq hF=>(ap.kg aB (by decide) (by decide)) q hqq hF)).ch I (fun q hqq hF=>by cases hqq;exact(ap.jg aC (by decide) (by decide)) hF)).le B)
   have ce:=((((aL.le y).ch N (Apart.symm (fun q C D=>(fun q C D=>l.sq (tn%2) (by omega) q C D) q (uF C) D))).ch I (fun q hq=>by cases hq;exact(fun h=>ar (uF h)))).le B)
   have cf:=((bk.ch I (fun q hq=>by cases hq;exact(ah.off (by have:=aq.lt;omega) aj))).le B)
   have cg:runT t (tn+1)=_:=Y4 hqe (Bool.eq_false_iff.2 (by assumption))
   have _:=K.size
   have _:=H.size
   have _:=P.size
   have _:=L.size
   have _:=R.size
   have _:=y.size
   have _:=N.size
   have _:=I.size
   have _:=B.size
   obtain⟨bt,a0,ci,_⟩:=l.turn (qi:=(⟨(mZ ((d.qa (tn%2)).A) ((d.qa (tn%2)).c) 1 61),((d.qa (tn%2)).n-1),((d.qa (tn%2)).c-1)⟩:kZ)) (qj:=(⟨Y,((d.qa (1-(tn%2))).n+(jQ ((runT t tn).z (tn%2)) mq).2.length),aa⟩:kZ)) (by omega) ca cc cd (fun q h=>(af q h).imp_right (fun h=>by omega)) ce cf (fun q h=>uF h) (fun q h=>(ah q h).imp_right (fun h=>by omega))
   have a0:Au bQ base gt bt (runT t (tn+1)):=by rw[cg];exact a0
   refine Yn 1 Z (Yp Z (Yn 1 Z (W.nil (E.again (tn+1,bt) (.of Z) ?_ ?_))))
   ·exact⟨by omega,(fun q h=>(ci q h).elim (hgr q) (fun h=> .inr (by have:=Js;omega))),bm,by have:=ax;omega,a0⟩
   first|omega|(simp only[];omega)
  refine Cn Z (dF c1) ?_
  have hqe:(runT t tn).qs (tn%2)=[]:=List.eq_nil_of_length_eq_zero (by have hl:=(l.q (tn%2) (by omega)).1;omega)
  have Q:=hso.agQ hqe
  refine Sn (Rr 4 Z (Yi (tn%2) Z (Yk (.pointer (some ⟨(d.gs (tn%2)),0,none⟩)) Z l.b (oN (⟨d.gs,d.qa⟩:vR) (by omega)) (Yc Z (Y7 (l.s (tn%2) (by omega)) Q.1.1 Q.1.2) fun cj O=>?_))))
  have bu:=aw.le O
  refine Nx ?_
  by_cases c3:(uj ((runT t tn).z (tn%2)))=true
  ·refine Cy Z c3 (Rr 4 Z (Yi (tn%2) Z ?_))
   have a1:=(l.b.le O)
   refine Yk (.pointer (some ⟨(d.gs (tn%2)),0,none⟩)) Z a1 (oN (⟨d.gs,d.qa⟩:vR) (by omega)) ?_
   have aE:=((l.s (tn%2) (by omega)).le O)
   refine Yd Z (Kz aE Q.1.1 (by assumption) (Q.2 (by assumption)).no (Q.2 (by assumption)).cut (Q.2 (by assumption)).q1) ?_
   rintro _ cZ ⟨c2,rfl,a2,ck,al⟩
   have bv:=((l.q (tn%2) (by omega)).le O)
   have bw:=((l.q (1-(tn%2)) (by omega)).le O)
   have a3:=((l.s (1-(tn%2)) (by omega)).le O).ji al (show∀k,(U (1-(tn%2))) k->¬(U (tn%2)) k from(fun k C D=>(l.sf (tn%2) (by omega)) k D C))
   have a4:=bw.ji al (show∀g,rowOf ((d.qa (1-(tn%2))).A) ((d.qa (1-(tn%2))).c)=some g->¬(U (tn%2)) g from(aE.kg bw (by decide) (by decide)))
   have a5:=a1.ji al (show¬(U (tn%2)) gt from(aE.jg a1 (by decide) (by decide)))
   refine Yn 1 Z (Wa (.extract (v:= .agg (iR (yG ((runT t tn).z (tn%2)))).toArray) Z Z) Z (Yn 1 Z (W.ab Z sD yt (iD.one (yG ((runT t tn).z (tn%2)))) fun cm co c4 (cp:ik co cm 134 (iR (yG ((runT t tn).z (tn%2)))).toArray) ai=>Yx 1 Z (Sq (Sr (Yq 2 Z (show _=false from by first|decide|rfl) (Nx (Cf Z ?_))))))))
   refine Sn (WC.draw [0,1,2,3,4,5,6,7,8,9,10,13,14,11,12,15,16] mixed (by kernel_rfl) fun aS u=>Xn 2 Z (Ga Z (.as (.sub Z Z (by omega)) (int_eq (b:=((1-(tn%2):Nat):Int)) (by omega))) (Xn 2 Z (Ga Z (.as (.sub Z Z (by omega)) (int_eq (b:=((1-(tn%2):Nat):Int)) (by omega))) (Xn 2 Z (Xi (1-(tn%2)) Z ?_))))))
   have a6:=(a5.le (ai.trans u))
   refine Xk (.slice ((d.qa (1-(tn%2))).A) ((d.qa (1-(tn%2))).n) ((d.qa (1-(tn%2))).c)) Z a6 (sj (⟨d.gs,d.qa⟩:vR) (by omega)) (Xh Z (cp.le u) (Xn 2 Z (G.ef Z Z Z Z Z (Ef.iw (len:=1) [_] underlying41 uW Z (by simp[Value.cells,iD.len]) Z (by decide) (by decide) ?_))))
   intro bx bz cq aF X
   refine⟨fun _=>X,?_⟩
   have a7:=(((bu.sub al (fun i hi hlt=>(by have hh:=hi;first|exact(hgr _ ((l.f _).2 (.inr ⟨tn%2,by omega,.inl hh⟩))).resolve_right (by omega)|exact(af _ hh).elim (fun hh=>(hgr _ ((l.f _).2 (.inr ⟨tn%2,by omega,.inl hh⟩))).resolve_right (by omega)) (fun hz=>by omega)))).le ai).le u).le X
   have aF:ik bz bx 134 (([(yG ((runT t tn).z (tn%2)))]).map iR).flatten.toArray:=aF
   have c5:iy bz aS.heap.size 134 iR 61 (some ⟨bx,0,none⟩) 1 1 ([(yG ((runT t tn).z (tn%2)))]):=aF.j4 cq iD Z Z (by decide)
   have c6:=a7.size
   refine G.ef Z Z Z Z Z (Ef.NK (a:=(yG ((runT t tn).z (tn%2)))) underlying41 uW underlying41 iD Z (a4.le (ai.trans (u.trans X))) Z aF (by omega) (by unfold maxLen;omega) (Nat.le_trans hbase (a7).size) ?_)
   intro a8 a9 cr ct an bA
   refine noT (by kernel_rfl) ?_
   have cu:iX w cr F:=a7.ch an (fun i hi hlt=>(hgr _ ((l.f _).2 (.inr ⟨(1-(tn%2)),by omega,.inr hi⟩))).resolve_right (by omega))
   refine Xi (1-(tn%2)) Z (G.jR Z Z Z Z (Ef.store PW Z Z ((a6.le X).ch an aj) (by simp[xZ.len,-List.getD_eq_getElem?_getD];omega) Z ?_))
   intro ba bb ao
   refine noT (by kernel_rfl) ?_
   have bb:ik ba gt 44 (Mj (⟨d.gs,(j5 d.qa (1-(tn%2)) (⟨a8,((d.qa (1-(tn%2))).n+1),a9⟩:kZ))⟩:vR)).toArray:=bb.cast (sZ (⟨d.gs,d.qa⟩:vR) (⟨a8,((d.qa (1-(tn%2))).n+1),a9⟩:kZ) (by omega))
   have cv:iX w ba F:=cu.ch ao (fun i hi _=>by cases hi;exact hFg)
   refine G.nil (E.jD (E.iM (Rg ?_)))
   have cw:=(((a2.le (ai.trans (u.trans X))).ch an (fun q hqq hF=>(a2.kg a4 (by decide) (by decide)) q hqq hF)).ch ao (fun q hqq hF=>by cases hqq;exact(a2.jg a5 (by decide) (by decide)) hF))
   have cx:=(((a3.le (ai.trans (u.trans X))).ch an (fun q hqq hF=>(a3.kg a4 (by decide) (by decide)) q hqq hF)).ch ao (fun q hqq hF=>by cases hqq;exact(a3.jg a5 (by decide) (by decide)) hF))
   have cy:=((((bv.ji al (show∀g,rowOf ((d.qa (tn%2)).A) ((d.qa (tn%2)).c)=some g->¬(U (tn%2)) g from(aE.kg bv (by decide) (by decide)))).le (ai.trans (u.trans X))).ch an (Apart.symm (fun q C D=>l.sq (tn%2) (by omega) q C D))).ch ao (fun q hq=>by cases hq;exact ar))
   have _:=X.size
   have cz:=(ct.ch ao (fun q hq=>by cases hq;exact(bA.off (by have:=a6.lt;omega) aj)))
   have cA:runT t (tn+1)=_:=Y5 hqe (by assumption)
   have _:=O.size
   have _:=al.size
   have _:=ai.size
   have _:=u.size
   have _:=an.size
   have _:=ao.size
   obtain⟨bB,bc,cB,_⟩:=l.turn (qi:=(⟨(d.qa (tn%2)).A,(d.qa (tn%2)).n,(d.qa (tn%2)).c⟩:kZ)) (qj:=(⟨a8,((d.qa (1-(tn%2))).n+1),a9⟩:kZ)) (by omega) (by rw[xx];exact bb) cw cx (fun q h=>(ck q h).imp_right (fun h=>by omega)) cy cz (fun q h=>h) (fun q h=>(bA q h).imp_right (fun h=>by omega))
   have bc:Au ba base gt bB (runT t (tn+1)):=by rw[cA];have q:=bc;rw[xA]at q;exact q
   refine Yn 1 Z (Yp Z (Yn 1 Z (W.nil (E.again (tn+1,bB) (.of Z) ?_ ?_))))
   ·exact⟨by omega,(fun q h=>(cB q h).elim (hgr q) (fun h=> .inr (by have:=Js;omega))),cv,by have:=ax;omega,bc⟩
   first|omega|(simp only[];omega)
  refine Cn Z (Bool.eq_false_iff.2 c3) (WC.skip (E.jD (E.iM (Rg ?_))))
  have cC:=(l.b.le O)
  have cD:=((l.s (tn%2) (by omega)).le O)
  have cE:=((l.s (1-(tn%2)) (by omega)).le O)
  have cF:=((l.q (tn%2) (by omega)).le O)
  have cG:=((l.q (1-(tn%2)) (by omega)).le O)
  have cH:runT t (tn+1)=_:=Y6 hqe (Bool.eq_false_iff.2 (by assumption))
  have cI:Au cj base gt Fk (runT t (tn+1)):=by rw[cH];exact⟨_,_,cC,(fun j hj=>by rcases(show j=tn%2\/j=1-tn%2 by omega)with e|e<;>rw[e]<;>first|exact cD|exact cE),(fun j hj=>by rcases(show j=tn%2\/j=1-tn%2 by omega)with e|e<;>rw[e]<;>first|exact cF|exact cG),l.o,l.sf,l.sq,l.f⟩
  refine Yn 1 Z (Yp Z (Yn 1 Z (W.nil (E.again (tn+1,Fk) (.of Z) ?_ ?_))))
  ·exact⟨by omega,hgr,bu,by have:=ax;have:=O.size;omega,cI⟩
  first|omega|(simp only[];omega)
 refine Cn Z (dF c0) (Ex (Sr ?_))
 have cJ:tn=60:=by omega
 subst cJ
 obtain⟨me,Fe,hme⟩:=id aH
 have bC:=(hme.q 0 (by decide)).1;have bD:=(hme.q 1 (by decide)).1;rw[he0]at bC;rw[he1]at bD
 refine Yn 3 Z (Yi 0 Z (Yk (.slice ((me.qa 0).A) ((me.qa 0).n) ((me.qa 0).c)) Z hme.b Z (Yq 2 Z (dT (by simp at bC;omega)) (Yn 4 Z (Yi 1 Z (Yk (.slice ((me.qa 1).A) ((me.qa 1).n) ((me.qa 1).c)) Z hme.b Z (Yq 2 Z (dT (by simp at bD;omega)) (Yn 5 Z (Yi 0 Z ?_)))))))))
 refine Yk (.pointer (some ⟨(me.gs 0),0,none⟩)) Z hme.b Z (W.MN Z Z Z Z Z Z (Ef.call af8 Z Z (by have q:=OU (hme.s 0 (by decide)) (hfin 0 (by decide));rw[hq0]at q;exact q) ?_))
 rintro _ c7 ⟨rfl,aG⟩
 refine⟨_,rfl,?_⟩
 refine Yn 5 Z (Yi 1 Z (Yk (.pointer (some ⟨(me.gs 1),0,none⟩)) Z (hme.b.le aG) Z (W.MN Z Z Z Z Z Z (Ef.call af8 Z Z (by have q:=OU ((hme.s 1 (by decide)).le aG) (hfin 1 (by decide));rw[hq1]at q;exact q) ?_))))
 rintro _ c8 ⟨rfl,bE⟩
 refine⟨_,rfl,?_⟩
 refine Yy 2 Z Z Z ?_
 exact⟨_,rfl,(aH.le (aG.trans bE)),hgr,((aw.le aG).le bE)⟩
structure Cx where
 ch:vM
 kt:Nat->Kt
 h0:Int
 h1:Int
 rt:Int
structure Jt (C:Cx):Prop where
 b:∀i,i<2->C.ch.b i 0=base (C.kt i).f
 f:∀i,i<2->BG (C.kt i).f=true
 l:∀i,i<2->(C.kt i).ch.length=32
def Cx.z (C:Cx)(i:Nat)(l:Nat->List kT)(n:Nat)(p:jw)(k:Nat)(q:jw)(un:Cut)(wt:Bool)(sg:yA.BF):jU:=⟨C.ch,C.kt i,i,C.h0,C.h1,C.rt,l,⟨n,p⟩,⟨k,q⟩,un,wt,sg,lW (C.kt (1-i)).ch k,lW (C.kt (1-i)).ch (k+1),k,(C.kt (1-i)).ch⟩
def Cx.ok (C:Cx)(l:Nat->List kT):Prop:=∀i,i<2->lJ (C.z i l 0 qY 0 qY jO false iY)
def Cx.at_ (C:Cx)(l:Nat->List kT)(no:Int):ny:=WE no ⟨0,C.h0,C.h1,[],C.rt⟩ (l 0) (l 1)
def jE (l:Nat->List kT):jw:=⟨((l 0).length:Int),((l 1).length:Int)⟩
def Cx.comm (C:Cx)(i:Nat)(l:Nat->List kT)(n:Nat):mK:=⟨5,(n:Int),ag,0,nR (C.kt i).f (NF C.ch (C.at_ l (n:Int)) (1-i) (lW (C.kt (1-i)).ch n)),noH,0⟩
def Cx.rev (C:Cx)(i n:Nat):mK:=⟨6,(n:Int),ag,0,iY,lU (C.kt i).ch n,lW (C.kt i).ch (n+2)⟩
section
variable {C:Cx}{i s n k N:Nat}{l L:Nat->List kT}{p q:jw}{un:Cut}{wt:Bool}{sg:yA.BF}{u:kT}
theorem Cx.ok.z (h:C.ok l)(hi:i<2):lJ (C.z i l n p k q un wt sg):=by
 have h:=h i hi
 exact⟨h.me,h.lk,h.ln,h.h0,h.h1,h.rt,h.ch,h.rs,h.c8,h.kl⟩
theorem De:uj (C.z i l n p k q un wt sg)=(!wt&&(decide (k<1048574)&& !decide (p.put i ((l i).length:Int)=q))):=Z
theorem Y8:U6 (C.z i l n p k q un wt sg)=C.z i l n p k q ⟨k+1,p.put i ((l i).length:Int)⟩ true sg:=Z
theorem Y9:yG (C.z i l n p k q un wt sg)=C.comm i l (k+1):=Z
theorem IW {s:yA.BF}:jQ (C.z i l n p k q un wt sg) ⟨5,((n+1:Nat):Int),ag,0,s,noH,0⟩=(C.z i l (n+1) (q.put (1-i) ((l (1-i)).length:Int)) k q un wt s,[C.rev i n]):=by
 unfold jQ;rw[if_pos Z];rfl
theorem IX {q':jw}{sm:List (BitVec 8)}:jQ (C.z i l n p k q ⟨k+1,q'⟩ wt sg) ⟨6,(k:Int),ag,0,iY,sm,lW (C.kt (1-i)).ch (k+2)⟩=(C.z i l n p (k+1) q' ⟨k+1,q'⟩ false sg,[]):=by
 unfold jQ;rw[if_neg (by show¬(6:Nat)=5;decide),if_pos Z];rfl
theorem SN (u:kT):(iZ u).kd=u.kd:=by unfold iZ;split<;>rfl
theorem QG (hk:u.kd=1\/u.kd=2\/u.kd=3)(hh:q8 (iZ u)=u):jQ (C.z i L n p k q un wt sg) (iZ u)=(C.z i (kr L (1-i) (L (1-i)++[u])) n p k q un wt sg,[]):=by
 unfold jQ;rw[if_neg (by rw[SN];omega),if_neg (by rw[SN];omega),hh];rfl
theorem IY (hi:i<2)(l:Nat->List kT):(jE l).put i ((l i).length:Int)=jE l:=by rcases kX hi with rfl|rfl<;>rfl
theorem Av (hi:i<2)(l:Nat->List kT):(jE l).ix i=((l i).length:Int):=by rcases kX hi with rfl|rfl<;>rfl
theorem Va (hs:s<2):(jE L).put s ((kr L s (L s++[u]) s).length:Int)=jE (kr L s (L s++[u])):=by rcases kX hs with rfl|rfl<;>rfl
theorem Vb (hs:s<2):(jE L).put (1-s) ((kr L s (L s++[u]) (1-s)).length:Int)=jE L:=by rcases kX hs with rfl|rfl<;>rfl
theorem abN (hs:s<2):jE L≠jE (kr L s (L s++[u])):=by
 intro h
 have c:=congrArg (jw.ix · s) h
 simp only[Av hs,l6,List.length_append,List.length_singleton]at c
 omega
end
structure St (t:Bb)(i:Nat)(A B:jU)(qa qb:List mK):Prop where
 a:t.z i=A
 b:t.z (1-i)=B
 qa:t.qs i=qa
 qb:t.qs (1-i)=qb
def O9 (i:Nat)(A:jU):Prop:=lJ A/\A.me=i/\A.th.no<=1048576
section
variable {t:Bb}{i N:Nat}{A B A':jU}{m:mK}{ms qa qb l:List mK}{Q:Bb->Prop}
theorem St.sw (hi:i<2)(h:St t i A B qa qb):St t (1-i) B A qb qa:=⟨h.b,by rw[pg hi];exact h.a,h.qb,by rw[pg hi];exact h.qa⟩
theorem St.gd (hi:i<2)(h:St t i A B qa qb)(gA:O9 i A)(gB:O9 (1-i) B):∀j,j<2->lJ (t.z j)/\(t.z j).me=j/\(t.z j).th.no<=1048576:=fun j hj=>by
 rcases(show j=i\/j=1-i by omega)with rfl|rfl
 ·rw[h.a];exact gA
 ·rw[h.b];exact gB
theorem St.few (hi:i<2)(h:St t i A B qa qb)(hl:qa.length<=4/\qb.length<=4):∀j,j<2->(t.qs j).length<=4:=fun j hj=>by
 rcases(show j=i\/j=1-i by omega)with rfl|rfl
 ·rw[h.qa];exact hl.1
 ·rw[h.qb];exact hl.2
theorem St.mk2 (hi:i<2){a b:jU}{x y:List mK}{f:Nat->jU}{g:Nat->List mK}(hf:f (1-i)=b):St ⟨kr f i a,kr (kr g i x) (1-i) y⟩ i a b x y:=
 ⟨l6 _ _ _,by show kr f i a (1-i)=b;rw[qz _ _ (by omega)];exact hf,by show kr (kr g i x) (1-i) y i=x;rw[qz _ _ (by omega),l6],l6 _ _ _⟩
theorem St.mk1 (hi:i<2){a b:jU}{x y:List mK}{f:Nat->jU}{g:Nat->List mK}(hf:f (1-i)=b)(hg:g i=x):St ⟨kr f i a,kr g (1-i) y⟩ i a b x y:=
 ⟨l6 _ _ _,by show kr f i a (1-i)=b;rw[qz _ _ (by omega)];exact hf,by show kr g (1-i) y i=x;rw[qz _ _ (by omega)];exact hg,l6 _ _ _⟩
theorem St.tak (hi:i<2)(h:St t i A B (m::ms) qb)(e:jQ A m=(A',l)):Bt t i=⟨kr t.z i A',kr (kr t.qs i ms) (1-i) (qb++l)⟩:=by
 rw[Ap h.qa,h.a,h.qb,e]
theorem St.okT (hi:i<2)(h:St t i A B (m::ms) qb)(gA:O9 i A)(gB:O9 (1-i) B)(hl:(m::ms).length<=4/\qb.length<=4)(ht:qg A m)(e:jQ A m=(A',l))(gA':O9 i A')(hc:uj A'=true->Fu A'):q9 t i:=by
 have ez:(Bt t i).z i=A':=by rw[h.tak hi e];exact l6 _ _ _
 refine⟨h.gd hi gA gB,by rw[ez];exact⟨gA'.1,gA'.2.2⟩,h.few hi hl,fun m' ms' hq=>?_,by rw[ez];exact hc⟩
 rw[h.qa]at hq
 cases hq
 rw[h.a]
 exact ht
theorem St.take (hi:i<2)(h:St t i A B (m::ms) qb)(gA:O9 i A)(gB:O9 (1-i) B)(hl:(m::ms).length<=4/\qb.length<=4)(ht:qg A m)(e:jQ A m=(A',l))(gA':O9 i A')(hd:uj A'=false):q9 t i/\St (stepT t i) i A' B ms (qb++l):=by
 refine⟨h.okT hi gA gB hl ht e gA' fun q=>absurd (q.symm.trans hd) (by decide),?_⟩
 rw[Y4 h.qa (by rw[h.a,e];exact hd),h.a,h.qb,e]
 exact St.mk2 hi h.b
theorem St.takeC (hi:i<2)(h:St t i A B (m::ms) qb)(gA:O9 i A)(gB:O9 (1-i) B)(hl:(m::ms).length<=4/\qb.length<=4)(ht:qg A m)(e:jQ A m=(A',l))(gA':O9 i A')(hd:uj A'=true)(hc:Fu A'):q9 t i/\St (stepT t i) i (U6 A') B ms (qb++l++[yG A']):=by
 refine⟨h.okT hi gA gB hl ht e gA' fun _=>hc,?_⟩
 rw[SL hi h.qa (by rw[h.a,e];exact hd),h.a,h.qb,e]
 exact St.mk2 hi h.b
theorem St.com (hi:i<2)(h:St t i A B [] qb)(gA:O9 i A)(gB:O9 (1-i) B)(hl:qb.length<=4)(hd:uj A=true)(hc:Fu A):q9 t i/\St (stepT t i) i (U6 A) B [] (qb++[yG A]):=by
 have ez:(Bt t i).z i=A:=by rw[zx h.qa];exact h.a
 refine⟨⟨h.gd hi gA gB,by rw[ez];exact⟨gA.1,gA.2.2⟩,h.few hi ⟨Nat.zero_le _,hl⟩,fun m' ms' hq=>(by rw[h.qa]at hq;cases hq),by rw[ez];exact fun _=>hc⟩,?_⟩
 rw[Y5 h.qa (by rw[h.a];exact hd),h.a,h.qb]
 exact St.mk1 hi h.b h.qa
theorem St.none (hi:i<2)(h:St t i A B [] qb)(gA:O9 i A)(gB:O9 (1-i) B)(hl:qb.length<=4)(hd:uj A=false):q9 t i/\stepT t i=t:=by
 have ez:(Bt t i).z i=A:=by rw[zx h.qa];exact h.a
 exact⟨⟨h.gd hi gA gB,by rw[ez];exact⟨gA.1,gA.2.2⟩,h.few hi ⟨Nat.zero_le _,hl⟩,fun m' ms' hq=>(by rw[h.qa]at hq;cases hq),by rw[ez];exact fun q=>absurd (q.symm.trans hd) (by decide)⟩,Y6 h.qa (by rw[h.a];exact hd)⟩
def Mo (t:Bb)(i:Nat):Nat->Bb
 |0=>t
 |k+1=>Mo (stepT t i) (1-i) k
def uA (t:Bb)(i N:Nat)(Q:Bb->Prop):Prop:=(∀k,k<N->q9 (Mo t i k) ((i+k)%2))/\Q (Mo t i N)
theorem uA.step (hi:i<2)(h1:q9 t i)(h2:uA (stepT t i) (1-i) N Q):uA t i (N+1) Q:=by
 refine⟨fun k hk=>?_,h2.2⟩
 cases k with
 |zero=>rw[show(i+0)%2=i by omega];exact h1
 |succ k=>have:=h2.1 k (by omega);rw[show(i+(k+1))%2=(1-i+k)%2 by omega];exact this
theorem uA.stay (h:∀i,i<2->q9 t i/\stepT t i=t)(hi:i<2)(hQ:Q t):∀N,uA t i N Q:=fun N=>by
 have key:∀k i,i<2->Mo t i k=t:=by
  intro k
  induction k with
  |zero=>intro i _;rfl
  |succ k ih=>intro i hi;show Mo (stepT t i) (1-i) k=t;rw[(h i hi).2];exact ih _ (by omega)
 exact⟨fun k _=>by rw[key k i hi];exact(h _ (by omega)).1,by rw[key N i hi];exact hQ⟩
theorem KA:∀(k:Nat) (t:Bb) (i:Nat),i<2->Mo t i (k+1)=stepT (Mo t i k) ((i+k)%2)
 |0,t,i,hi=>by rw[show(i+0)%2=i by omega];rfl
 |k+1,t,i,hi=>by
  show Mo (stepT t i) (1-i) (k+1)=_
  rw[KA k _ _ (by omega),show(i+(k+1))%2=(1-i+k)%2 by omega]
  rfl
theorem QH (t:Bb):∀k,runT t k=Mo t 0 k
 |0=>rfl
 |k+1=>by
  show stepT (runT t k) (k%2)=_
  rw[QH t k,KA k t 0 (by omega),Nat.zero_add]
end
structure Qt (C:Cx)(n:Nat)(l:Nat->List kT)(t:Bb):Prop where
 z:∀i,i<2->∃un sg,t.z i=C.z i l n (jE l) n (jE l) un false sg
 q:∀i,i<2->t.qs i=[]
section
variable {C:Cx}{i s n k N:Nat}{l L:Nat->List kT}{p q:jw}{un un2:Cut}{wt:Bool}{sg sg2:yA.BF}{u:kT}{t:Bb}
theorem Cx.ok.gd (h:C.ok l)(hi:i<2)(hk:k<=100):O9 i (C.z i l n p k q un wt sg):=⟨h.z hi,rfl,by show k<=1048576;omega⟩
theorem Qt.stay (h:Qt C n l t)(hl:C.ok l)(hn:n<=100):∀i,i<2->q9 t i/\stepT t i=t:=fun i hi=>by
 obtain⟨c,d,e1⟩:=h.z i hi
 obtain⟨e,f,e2⟩:=h.z (1-i) (by omega)
 have hS:St t i _ _ [] []:=⟨e1,e2,h.q i hi,h.q (1-i) (by omega)⟩
 exact hS.none hi (hl.gd hi hn) (hl.gd (by omega) hn) (Nat.zero_le _) (by rw[De,IY hi,decide_eq_true Z];simp)
theorem Za (hC:Jt C)(hi:i<2)(hk:k<=100)(hp:p.put i ((l i).length:Int)=jE l):Fu (C.z i l n p k q un wt sg):=
 ⟨by show k<1048574;omega,fun j hj=>by show(p.put i ((l i).length:Int)).ix j=_;rw[hp];exact Av hj l,jC _,nD _⟩
theorem OV (hC:Jt C)(hi:i<2)(hn:n<=100)(hq:q.put (1-i) ((l (1-i)).length:Int)=jE l)(hne:jE l≠p):qg (C.z i l n p k q un wt sg) (C.comm (1-i) l (n+1)):=by
 have hv:nN (C.ch.b (1-i) 0) (NF C.ch (C.at_ l ((n+1:Nat):Int)) i (lW (C.kt i).ch (n+1))) (nR (C.kt (1-i)).f (NF C.ch (C.at_ l ((n+1:Nat):Int)) (1-(1-i)) (lW (C.kt (1-(1-i))).ch (n+1))))=true:=by
  rw[pg hi,hC.b _ (by omega)]
  exact GH (hC.f _ (by omega)) _
 refine qg.sig (z:=C.z i l n p k q un wt sg) _ (by show n<1048500;omega) (by show q.put (1-i) ((l (1-i)).length:Int)≠p;rw[hq];exact hne) (fun j hj=>by show(q.put (1-i) ((l (1-i)).length:Int)).ix j=_;rw[hq];exact Av hj l) ?_ hv
 unfold nN jX at hv
 simp only[Bool.and_eq_true]at hv
 exact Nat.lt_trans ((oP _).1 hv.1.1.2).2.1 (by decide)
theorem OW (hC:Jt C)(hi:i<2)(hk:k<13):qg (C.z i l n p k q un true sg) (C.rev (1-i) k):=
 qg.rev (z:=C.z i l n p k q un true sg) _ Z Z hk (hC.l _ (by omega)) Z ⟨jC _,nD _⟩
theorem Zb {P P':jw}{r:Nat}(hC:Jt C)(hr:r<2)(hl:C.ok l)(hn:n<12)(hP':P'=jE l)(hPr:P.put r ((l r).length:Int)=P)(hPs:P.put (1-r) ((l (1-r)).length:Int)=P')(hne:P≠P')
  (h:St t r (C.z r l n P n P un2 false sg2) (C.z (1-r) l n P n P ⟨n+1,P'⟩ true sg) [C.comm (1-r) l (n+1)] [])(N:Nat):uA t r (N+5) (Qt C (n+1) l):=by
 have hs:1-r<2:=by omega
 have c:P'.put r ((l r).length:Int)=P':=by rw[hP'];exact IY hr l
 have m:P'.put (1-r) ((l (1-r)).length:Int)=P':=by rw[hP'];exact IY hs l
 have hd:∀k,k<=100->decide (k<1048574)=true:=fun k hk=>decide_eq_true (by omega)
 obtain⟨o,s1⟩:=h.takeC hr (hl.gd hr (by omega)) (hl.gd hs (by omega)) (by simp) (OV hC hr (by omega) (by rw[hPs];exact hP') (by rw[<-hP'];exact hne.symm)) IW (by rw[hPs];exact hl.gd hr (by omega)) (by rw[hPs,De,c,hd n (by omega),decide_eq_false hne.symm];rfl) (by rw[hPs];exact Za hC hr (by omega) (by rw[c];exact hP'))
 rw[Y8,Y9,hPs,c]at s1
 refine .step hr o ?_
 have s1:=s1.sw hr
 obtain⟨s,d⟩:=s1.take hs (hl.gd hs (by omega)) (by rw[pg hr];exact hl.gd hr (by omega)) (by simp) (by have:=OW (l:=l) (p:=P) (q:=P) (n:=n) (un:=⟨n+1,P'⟩) (sg:=sg) hC hs (k:=n) (by omega);rw[pg hr]at this;exact this) (by have:=IX (C:=C) (i:=1-r) (l:=l) (n:=n) (p:=P) (k:=n) (q:=P) (q':=P') (wt:=true) (sg:=sg) (sm:=lU (C.kt r).ch n);rw[pg hr]at this;exact this) (hl.gd hs (by omega)) (by rw[De,hPs,hd _ (by omega),decide_eq_true Z];rfl)
 refine .step hs s ?_
 rw[pg hr]
 have d:=d.sw hs
 rw[pg hr]at d
 obtain⟨u,e3⟩:=d.none hr (hl.gd hr (by omega)) (hl.gd hs (by omega)) (by simp) (by rw[De];rfl)
 refine .step hr u ?_
 rw[e3]
 have v:=d.sw hr
 obtain⟨x,e⟩:=v.take hs (hl.gd hs (by omega)) (by rw[pg hr];exact hl.gd hr (by omega)) (by simp) (by have:=OV (i:=1-r) (l:=l) (n:=n) (p:=P) (k:=n+1) (q:=P') (un:=⟨n+1,P'⟩) (wt:=false) (sg:=sg) hC hs (by omega) (by rw[pg hr,c];exact hP') (by rw[<-hP'];exact hne.symm);rw[pg hr]at this;exact this) IW (hl.gd hs (by omega)) (by rw[pg hr,c,De,m,hd _ (by omega),decide_eq_true Z];rfl)
 rw[pg hr,c]at e
 refine .step hs x ?_
 rw[pg hr]
 have e:=e.sw hs
 rw[pg hr]at e
 obtain⟨y,f⟩:=e.take hr (hl.gd hr (by omega)) (hl.gd hs (by omega)) (by simp) (OW hC hr (by omega)) IX (hl.gd hr (by omega)) (by rw[De,c,hd _ (by omega),decide_eq_true Z];rfl)
 refine .step hr y ?_
 have hQ:Qt C (n+1) l (stepT (stepT (stepT (stepT t r) (1-r)) (1-r)) r):=by
  subst hP'
  refine⟨fun j hj=>?_,fun j hj=>?_⟩
  ·rcases(show j=r\/j=1-r by omega)with rfl|rfl
   ·exact⟨_,_,f.a⟩
   ·exact⟨_,_,f.b⟩
  ·rcases(show j=r\/j=1-r by omega)with rfl|rfl
   ·exact f.qa
   ·exact f.qb
 exact uA.stay (hQ.stay hl (by omega)) hs hQ N
theorem aef (hC:Jt C)(hs:s<2)(hL:C.ok L)(hl:C.ok (kr L s (L s++[u])))(hn:n<12)(hk:u.kd=1\/u.kd=2\/u.kd=3)(hh:q8 (iZ u)=u)(htk:qg (C.z (1-s) L n (jE L) n (jE L) un2 false sg2) (iZ u))
  (h:St t s (C.z s (kr L s (L s++[u])) n (jE L) n (jE L) un false sg) (C.z (1-s) L n (jE L) n (jE L) un2 false sg2) [] [iZ u]):uA t 0 60 (Qt C (n+1) (kr L s (L s++[u]))):=by
 have hr:1-s<2:=by omega
 have c:=Va (L:=L) (u:=u) hs
 have m:=Vb (L:=L) (u:=u) hs
 have o:=abN (L:=L) (u:=u) hs
 have hd:decide (n<1048574)=true:=decide_eq_true (by omega)
 have et:=QG (C:=C) (i:=1-s) (L:=L) (n:=n) (p:=jE L) (k:=n) (q:=jE L) (un:=un2) (wt:=false) (sg:=sg2) hk hh
 rw[pg hs]at et
 have dS:uj (C.z s (kr L s (L s++[u])) n (jE L) n (jE L) un false sg)=true:=by rw[De,c,hd,decide_eq_false o.symm];rfl
 have dR:uj (C.z (1-s) (kr L s (L s++[u])) n (jE L) n (jE L) un2 false sg2)=false:=by rw[De,m,hd,decide_eq_true Z];rfl
 have cS:Fu (C.z s (kr L s (L s++[u])) n (jE L) n (jE L) un false sg):=Za hC hs (by omega) c
 have tail:=fun t=>Zb (C:=C) (n:=n) (l:=kr L s (L s++[u])) (un2:=un2) (sg2:=sg2) (sg:=sg) (P:=jE L) (P':=jE (kr L s (L s++[u]))) (r:=1-s) (t:=t) hC hr hl hn Z m (by rw[pg hs];exact c) o
 rw[pg hs]at tail
 by_cases e:s=0
 ·subst e
  obtain⟨f,s1⟩:=h.com hs (hl.gd hs (by omega)) (hL.gd hr (by omega)) (by simp) dS cS
  rw[Y8,Y9,c]at s1
  refine .step hs f ?_
  obtain⟨j,d⟩:=(s1.sw hs).take hr (hL.gd hr (by omega)) (hl.gd hs (by omega)) (by simp) htk et (hl.gd hr (by omega)) dR
  refine .step hr j ?_
  obtain⟨v,e3⟩:=(d.sw hr).none hs (hl.gd hs (by omega)) (hl.gd hr (by omega)) (by simp) (by rw[De];rfl)
  refine .step hs v ?_
  rw[e3]
  exact tail _ d 52
 ·have e:s=1:=by omega
  subst e
  obtain⟨f,s1⟩:=(h.sw hs).take hr (hL.gd hr (by omega)) (hl.gd hs (by omega)) (by simp) htk et (hl.gd hr (by omega)) dR
  refine .step hr f ?_
  obtain⟨j,d⟩:=(s1.sw hr).com hs (hl.gd hs (by omega)) (hl.gd hr (by omega)) (by simp) dS cS
  rw[Y8,Y9,c]at d
  refine .step hs j ?_
  exact tail _ (d.sw hs) 53
end
def vk (L:Nat->List kT)(s:Nat)(am:Int)(pt:Nat):kT:=⟨1,⟨(s:Int),((iG (L s)).length:Int)+1,am,pt,500⟩,0⟩
def oF (fail:Bool)(id:Int)(sec:Nat):kT:=if fail then⟨3,⟨0,id,0,0,0⟩,0⟩else⟨2,⟨0,id,0,0,0⟩,sec⟩
def ll (L:Nat->List kT)(s:Nat)(u:kT):Nat->List kT:=kr L s (L s++[u])
structure CxK (C:Cx):Prop where
 h0:0<=C.h0/\C.h0<=1125899906842624
 h1:0<=C.h1/\C.h1<=1125899906842624
 rt:0<=C.rt/\C.rt<=1000
 ch:CO C.ch
structure Dl (C:Cx)(k:Nat)(L:Nat->List kT):Prop where
 lg:∀i,i<2->pX ((i:Nat):Int) (L i) (L (1-i))
 ln:(L 0).length+(L 1).length<=2*k
 ad:(iG (L 0)).length+(iG (L 1)).length<=k
 rs:kz C.ch.am C.ch.op (C.at_ L 0)
 Zc:lF C.rt 16<=(C.at_ L 0).h C.ch.op
def Cx.kp (C:Cx)(i:Nat):Int:=if(i:Int)=C.ch.op then 200+lF C.rt 16 else 200
section
variable {C:Cx}{k n s i:Nat}{L:Nat->List kT}{am:Int}{pt:Nat}{u:kT}
theorem OX (a b:List kT)(p:Nat->Bool):(kP a b p).length<=(iG a).length:=List.length_filter_le _ _
theorem zy (no:Int):(C.at_ L no).cs=nM (L 0) (L 1)++nM (L 1) (L 0):=Z
theorem Dl.cs (h:Dl C k L)(no:Int):(C.at_ L no).cs.length<=k:=by
 have c:=h.ad
 have d:=OX (L 0) (L 1) DN
 have e:=OX (L 1) (L 0) DN
 rw[zy,List.length_append]
 unfold nM
 omega
theorem Dl.ok (h:Dl C k L)(hK:CxK C)(hC:Jt C)(hk:k<=7):C.ok L:=fun i hi=>by
 have hl:=h.ln
 refine⟨hi,h.lg,fun j hj=>?_,hK.h0,hK.h1,hK.rt,hK.ch,h.rs,?_,hC.l i hi⟩
 ·show(L j).length<=30
  rcases kX hj with rfl|rfl<;>omega
 ·have:=h.cs 0
  show(C.at_ L 0).cs.length<=8
  omega
variable {wt:Bool}{i':Nat}
theorem agS {p q:jw}{m:Nat}{un:Cut}{sg:yA.BF}(hi:i<2):(C.z i' L m p n q un wt sg).sp i=(C.at_ L 0).h (i:Int):=by rcases kX hi with rfl|rfl<;>rfl
theorem aiu {p q:jw}{m:Nat}{un:Cut}{sg:yA.BF}:(C.z i' L m p n q un wt sg).kp i=C.kp i:=Z
theorem nO:ll L s u s=L s++[u]:=l6 _ _ _
theorem oG (h:i≠s):ll L s u i=L i:=qz _ _ h
theorem zA (hs:s<2):(ll L s u 0).length+(ll L s u 1).length=(L 0).length+(L 1).length+1:=by rcases kX hs with rfl|rfl<;>rw[nO,oG (by decide),List.length_append,List.length_singleton]<;>omega
theorem Vd:q8 (iZ (vk L s am pt))=vk L s am pt:=Z
theorem KC (b:Bool)(id:Int)(sec:Nat):q8 (iZ (oF b id sec))=oF b id sec:=by cases b<;>rfl
variable {c:mF}
theorem tV (h:pX (i:Int) (L i) (L (1-i)))(hc:c∈nM (L i) (L (1-i))):c.fr=(i:Int)/\1<=c.id/\c.id<=(iG (L i)).length:=⟨h.fr (NG hc).1,h.NF (NG hc).1⟩
def IZ (L:Nat->List kT)(s:Nat):Nat:=if s=0 then(nM (L 0) (L 1)).length else(nM (L 0) (L 1)++nM (L 1) (L 0)).length
theorem Zd (h:Dl C k L)(hs:s<2)(no:Int):C.at_ (ll L s (vk L s am pt)) no=JQ.lq (C.at_ L no) (vk L s am pt).c (IZ L s)/\Ns (C.at_ L no).cs (vk L s am pt).c (IZ L s):=by
 have d:=h.lg 0 (by decide)
 have f:=h.lg 1 (by decide)
 rcases kX hs with rfl|rfl
 ·have k1:=fun p=>NH (p:=p) d (u:=vk L 0 am pt) Z Z
  have k2:=fun p=>JU (a:=L 0) (b:=L 1) (p:=p) (u:=vk L 0 am pt) Z
  refine⟨?_,?_,fun j hj=>?_,fun j hj l=>?_⟩
  ·unfold Cx.at_ WE AJ AL nM
   rw[nO,oG (by decide)]
   simp only[show 1-0=1 from Z]at k1
   simp only[k1,k2,Jk,E8.rG,DN]
   simp only[lS,JQ.lq,IZ,uD,ny.setH,ny.h,vk,nM,kP,if_true,decide_true,decide_false,Bool.not_false,List.append_nil,List.append_assoc]
   simp[jT]<;>omega
  ·unfold IZ;rw[if_pos Z,zy,List.length_append];omega
  ·unfold IZ at hj
   rw[if_pos Z]at hj
   have e:(C.at_ L no).cs.getD j ag=(nM (L 0) (L 1)).getD j ag:=by rw[zy];simp[List.getD,List.getElem?_append_left hj]
   have:=tV (i:=0) d (zS hj)
   rw[e]
   exact .inr ⟨this.1,by show _<((iG (L 0)).length:Int)+1;exact Int.lt_add_one_of_le this.2.2⟩
  ·unfold IZ at hj
   rw[if_pos Z]at hj
   rw[zy,List.length_append]at l
   have e:(C.at_ L no).cs.getD j ag=(nM (L 1) (L 0)).getD (j-(nM (L 0) (L 1)).length) ag:=by rw[zy];simp[List.getD,List.getElem?_append_right hj]
   have:=tV (i:=1) f (zS (show j-(nM (L 0) (L 1)).length<_ by show _<(nM (L 1) (L 0)).length;omega))
   rw[e]
   have m:=this.1
   rintro(q|q)
   ·change _<(0:Int)at q;simp only[Nat.sub_self]at m;omega
   ·have:=q.1;change _=(0:Int)at this;simp only[Nat.sub_self]at m;omega
 ·have k1:=fun p=>NH (p:=p) f (u:=vk L 1 am pt) Z Z
  have k2:=fun p=>JU (a:=L 1) (b:=L 0) (p:=p) (u:=vk L 1 am pt) Z
  refine⟨?_,?_,fun j hj=>?_,fun j hj l=>?_⟩
  ·unfold Cx.at_ WE AJ AL nM
   rw[nO,oG (by decide)]
   simp only[show 1-1=0 from Z]at k1
   simp only[k1,k2,Jk,E8.rG,DN]
   simp only[lS,JQ.lq,IZ,uD,ny.setH,ny.h,vk,nM,kP,if_true,decide_true,decide_false,Bool.not_false,List.append_nil,List.append_assoc]
   simp[jT];refine⟨by omega,?_⟩;rw[List.take_of_length_le (by simp)];simp
  ·unfold IZ;rw[if_neg (by decide),zy];exact Nat.le_refl _
  ·unfold IZ at hj
   rw[if_neg (by decide),<-zy (C:=C) no]at hj
   have hm:=zS hj
   rw[zy]at hm ⊢
   rcases List.mem_append.1 hm with q|q
   ·have:=tV (i:=0) d q
    exact .inl (by show _<(1:Int);have:=this.1;omega)
   ·have:=tV (i:=1) f q
    exact .inr ⟨this.1,by show _<((iG (L 1)).length:Int)+1;omega⟩
  ·unfold IZ at hj
   rw[if_neg (by decide),<-zy (C:=C) no]at hj
   omega
theorem abO (h:0<=rt)(m:Nat):0<=lF rt m:=by
 unfold lF
 have:0<=rt*(68+8*(m:Int)):=Int.mul_nonneg h (by omega)
 omega
theorem SQ (h:Dl C k L)(hK:CxK C)(hk:k<7)(hs:s<2)(hp:C.kp s<=(C.at_ L 0).h (s:Int)-am)(ha:1<=am/\am<=65536)(hpt:right pt=true/\pt≠1):WA C.ch.op (C.at_ L 0) (vk L s am pt).c:=by
 have l:=h.cs 0
 have m:=h.ad
 have hcn:=abO hK.rt.1 16
 have d:=Nr hK.rt.1 (show(C.at_ L 0).cs.length+1<=16 by omega)
 have xz:=h.Zc
 have n:(iG (L s)).length<=k:=by rcases kX hs with rfl|rfl<;>omega
 have hkp:200<=C.kp s:=by unfold Cx.kp;split<;>omega
 refine⟨⟨?_,?_,?_,?_,hpt⟩,xP.2 fun c hc=>?_,by omega,?_,?_⟩
 ·show 0<=(s:Int)/\(s:Int)<=1;omega
 ·show 1<=((iG (L s)).length:Int)+1/\((iG (L s)).length:Int)+1<=1048576;omega
 ·show 1<=am/\am<=_;omega
 ·show(1:Int)<=500/\(500:Int)<=1048576;decide
 ·rw[zy]at hc
  rintro⟨f,j⟩
  change _=(s:Int)at f
  change _=((iG (L s)).length:Int)+1 at j
  rcases List.mem_append.1 hc with q|q
  ·have:=tV (i:=0) (h.lg 0 (by decide)) q
   have:s=0:=by omega
   subst this
   omega
  ·have:=tV (i:=1) (h.lg 1 (by decide)) q
   have:s=1:=by omega
   subst this
   omega
 ·show am<=(C.at_ L 0).h (s:Int);omega
 ·show lF C.rt _<=if C.ch.op=(s:Int)then(C.at_ L 0).h C.ch.op-am else(C.at_ L 0).h C.ch.op
  change lF C.rt _<=lF C.rt _ at d
  unfold Cx.kp at hp
  split
  ·rename_i e;rw[if_pos e.symm,<-e]at hp;omega
  ·omega
theorem Dl.off (h:Dl C k L)(hK:CxK C)(hk:k<7)(hs:s<2)(hp:C.kp s<=(C.at_ L 0).h (s:Int)-am)(ha:1<=am/\am<=65536)(hpt:right pt=true/\pt≠1):Dl C (k+1) (ll L s (vk L s am pt)):=by
 have hA:=SQ h hK hk hs hp ha hpt
 obtain⟨e1,e2⟩:=Zd (am:=am) (pt:=pt) h hs 0
 have hop:=hK.ch.op
 have hln:=h.ln
 have had:=h.ad
 refine⟨fun i hi=>?_,?_,?_,by rw[e1];exact TH h.rs hop hA e2,?_⟩
 ·rcases(show i=s\/i=1-s by omega)with rfl|rfl
  ·rw[nO,oG (by omega)];exact(h.lg i hi).add Z Z Z ⟨hA.fine,ha.2⟩
  ·rw[oG (by omega),pg hs,nO]
   have:=h.lg (1-s) hi
   rw[pg hs]at this
   exact this.ahm Z
 ·rcases kX hs with rfl|rfl<;>rw[nO,oG (by decide),List.length_append,List.length_singleton]<;>omega
 ·rcases kX hs with rfl|rfl<;>rw[nO,oG (by decide),uU Z,List.length_append,List.length_singleton]<;>omega
 ·rw[e1]
  obtain⟨_,k2⟩:=yN {(C.at_ L 0)with cs:=uD (C.at_ L 0).cs (vk L s am pt).c (IZ L s)} ((C.at_ L 0).h (vk L s am pt).c.fr-(vk L s am pt).c.am) hA.fine.1
  have xz:=h.Zc
  unfold JQ.lq
  rw[k2 _ hop]
  unfold Cx.kp at hp
  split
  ·rename_i e
   change C.ch.op=(s:Int)at e
   rw[if_pos e.symm]at hp
   show lF C.rt 16<=(C.at_ L 0).h (s:Int)-am
   omega
  ·exact xz
structure Op (L:Nat->List kT)(s:Nat)(c:mF):Prop where
 mem:c∈iG (L s)
 go:mQ (L (1-s)) c.id=0
theorem SS {l:List mF}{fr id:Int}(h:∀d∈l,d.fr≠fr):rX l fr id=l:=List.filter_eq_self.2 fun d hd=>by simp[TD,h d hd]
theorem I1 (b:Bool)(id:Int)(sec:Nat):(oF b id sec).kd=2\/(oF b id sec).kd=3:=by cases b;exact .inl Z;exact .inr Z
theorem I4 (b:Bool)(id:Int)(sec:Nat):(oF b id sec).c.id=id:=by cases b<;>rfl
theorem Op.cs (h:Dl C k L)(hs:s<2)(ho:Op L s c)(no:Int):c∈(C.at_ L no).cs:=by
 rw[zy,List.mem_append]
 have hm:c∈nM (L s) (L (1-s)):=List.mem_filter.2 ⟨ho.mem,by rw[ho.go];rfl⟩
 rcases kX hs with rfl|rfl
 ·exact .inl hm
 ·exact .inr hm
theorem at_end (h:Dl C k L)(hs:s<2)(ho:Op L s c)(b:Bool)(sec:Nat)(no:Int):C.at_ (ll L (1-s) (oF b c.id sec)) no=qD (C.at_ L no) c (if b then(s:Int)else((1-s:Nat):Int)):=by
 have hu:(oF b c.id sec).kd≠1:=by have:=I1 b c.id sec;omega
 have e:=h.lg 0 (by decide)
 have f:=h.lg 1 (by decide)
 have hfr:=(h.lg s hs).fr ho.mem
 have k1:=fun p=>WG (p:=p) (h.lg s hs) hu ho.mem (I4 b c.id sec) ho.go
 have k2:=fun p=>TJ (a:=L s) (b:=L (1-s)) (p:=p) hu
 have kG:=(k1 Jk).1
 have kS:=(k1 E8.rG).1
 have kO:=(k1 DN).2 Z (by have:=I1 b c.id sec;rcases this with q|q<;>rw[q]<;>rfl)
 rcases kX hs with rfl|rfl
 ·have hd:rX (kP (L 0) (L 1) DN++kP (L 1) (L 0) DN) c.fr c.id=rX (kP (L 0) (L 1) DN) c.fr c.id++kP (L 1) (L 0) DN:=by
   have:=SS (l:=kP (L 1) (L 0) DN) (fr:=c.fr) (id:=c.id) fun d hd=>by have:=(tV (i:=1) f hd).1;omega
   conv=>rhs;rw[<-this]
   unfold rX;rw[List.filter_append]
  unfold Cx.at_ WE AJ AL nM
  rw[show 1-0=1 from Z]at*
  rw[nO,oG (by decide),k2,k2,k2,kG,kS,kO]
  simp only[qD,hd]
  cases b
  ·simp[oF,Jk,E8.rG,ny.setH,ny.h,AL]
   omega
  ·simp[oF,Jk,E8.rG,ny.setH,ny.h,AJ]
   omega
 ·have hd:rX (kP (L 0) (L 1) DN++kP (L 1) (L 0) DN) c.fr c.id=kP (L 0) (L 1) DN++rX (kP (L 1) (L 0) DN) c.fr c.id:=by
   have:=SS (l:=kP (L 0) (L 1) DN) (fr:=c.fr) (id:=c.id) fun d hd=>by have:=(tV (i:=0) e hd).1;omega
   conv=>rhs;rw[<-this]
   unfold rX;rw[List.filter_append]
  unfold Cx.at_ WE AJ AL nM
  rw[show 1-1=0 from Z]at*
  rw[nO,oG (by decide),k2,k2,k2,kG,kS,kO]
  simp only[qD,hd]
  cases b
  ·simp[oF,Jk,E8.rG,ny.setH,ny.h,AL]
   omega
  ·simp[oF,Jk,E8.rG,ny.setH,ny.h,AJ]
   omega
theorem Op.off (h:Dl C k L)(hs:s<2):Op (ll L s (vk L s am pt)) s (vk L s am pt).c:=by
 have d:=h.lg s hs
 refine⟨by rw[nO,uU Z];simp,?_⟩
 rw[oG (by omega)]
 exact ND fun v hv hk e=>by have:=d.ends v hv hk;change _=((iG (L s)).length:Int)+1 at e;omega
theorem Dl.end_ (h:Dl C k L)(hK:CxK C)(hk:k<7)(hs:s<2)(hl:(L 0).length+(L 1).length+1<=2*k)(ho:Op L s c)(b:Bool)(sec:Nat):Dl C k (ll L (1-s) (oF b c.id sec)):=by
 have e1:=at_end h hs ho b sec 0
 have hop:=hK.ch.op
 have had:=h.ad
 have hkd:=I1 b c.id sec
 have hu:(oF b c.id sec).kd≠1:=by omega
 have hto:0<=(if b then(s:Int)else((1-s:Nat):Int))/\(if b then(s:Int)else((1-s:Nat):Int))<=1:=by split<;>omega
 have hm:=ho.cs h hs 0
 refine⟨fun i hi=>?_,?_,?_,by rw[e1];exact TE h.rs hop hm hto,?_⟩
 ·rcases(show i=1-s\/i=s by omega)with rfl|rfl
  ·rw[nO,pg hs,oG (by omega)]
   have:=h.lg (1-s) hi
   rw[pg hs]at this
   exact this.end' hkd
  ·rw[oG (by omega),nO]
   exact(h.lg i hi).end_ hu (by rw[I4];exact(h.lg i hi).NF ho.mem)
 ·rw[zA (by omega)];exact hl
 ·rcases kX hs with rfl|rfl
  ·rw[show 1-0=1 from Z,nO,oG (by decide),uV hu];exact had
  ·rw[show 1-1=0 from Z,nO,oG (by decide),uV hu];exact had
 ·rw[e1]
  obtain⟨_,k2⟩:=yN {(C.at_ L 0)with cs:=rX (C.at_ L 0).cs c.fr c.id} ((C.at_ L 0).h (if b then(s:Int)else((1-s:Nat):Int))+c.am) hto
  have xz:=h.Zc
  have ha:=(h.rs.fine c hm).2.2.1.1
  unfold qD
  rw[k2 _ hop]
  generalize (if b then(s:Int)else((1-s:Nat):Int))=to
  split
  ·rename_i e;rw[<-e];omega
  ·exact xz
def I5 (t:Bb)(s:Nat)(L:Nat->List kT)(u:kT):Bb:=⟨kr t.z s ((t.z s).yF s (L s++[u])),kr t.qs (1-s) (t.qs (1-s)++[iZ u])⟩
theorem I6 {un:Cut}{sg:yA.BF}:zw (C.z i' L n (jE L) n (jE L) un wt sg):=fun j hj=>⟨Av hj L,Av hj L⟩
theorem SV (hC:Jt C)(hs:s<2)(hQ:Qt C n L t)(hL:C.ok L)(hl:C.ok (ll L s u))(hn:n<12)(hk:u.kd=1\/u.kd=2\/u.kd=3)(hh:q8 (iZ u)=u)(htk:∀un sg,qg (C.z (1-s) L n (jE L) n (jE L) un false sg) (iZ u)):uA (I5 t s L u) 0 60 (Qt C (n+1) (ll L s u)):=by
 obtain⟨un,sg,e1⟩:=hQ.z s hs
 obtain⟨c,d,e2⟩:=hQ.z (1-s) (by omega)
 refine aef hC hs hL hl hn hk hh (htk c d) (un:=un) (sg:=sg) ⟨?_,?_,?_,?_⟩
 ·show kr _ _ _ _=_;rw[l6,e1];rfl
 ·show kr _ _ _ _=_;rw[qz _ _ (by omega),e2]
 ·show kr _ _ _ _=_;rw[qz _ _ (by omega)];exact hQ.q s hs
 ·show kr _ _ _ _=_;rw[l6,hQ.q _ (by omega)];rfl
theorem Ze {un:Cut}{sg:yA.BF}(h:Dl C k L)(hk:k<7)(hs:s<2)(ha:1<=am/\am<=65536)(hpt:right pt=true/\pt≠1/\pt<18446744073709551616):Am (C.z i' L n (jE L) n (jE L) un wt sg) s (vk L s am pt).c:=by
 have had:=h.ad
 exact⟨rfl,rfl,ha,rfl,hpt,by show(iG (L s)).length<=7;rcases kX hs with rfl|rfl<;>omega⟩
theorem abP (hK:CxK C)(hC:Jt C)(hs:s<2)(hQ:Qt C n L t)(h:Dl C k L)(hk:k<6)(hn:n<12)(hp:C.kp s<=(C.at_ L 0).h (s:Int)-am)(ha:1<=am/\am<=65536)(hpt:right pt=true/\pt≠1/\pt<18446744073709551616):uA (I5 t s L (vk L s am pt)) 0 60 (Qt C (n+1) (ll L s (vk L s am pt))):=by
 refine SV hC hs hQ (h.ok hK hC (by omega)) ((h.off hK (by omega) hs hp ha ⟨hpt.1,hpt.2.1⟩).ok hK hC (by omega)) hn (.inl Z) Vd fun un sg=>qg.offer (z:=C.z (1-s) L n (jE L) n (jE L) un false sg) (vk L s am pt).c I6 ?_ ?_
 ·show Am _ (1-(1-s)) _;rw[pg hs];exact Ze h (by omega) hs ha hpt
 ·show jU.kp _ (1-(1-s))<=jU.sp _ (1-(1-s))-_;rw[pg hs,aiu,agS hs];exact hp
theorem QI {un:Cut}{sg:yA.BF}(h:Dl C k L)(hs:s<2)(ho:Op L s c)(b:Bool)(sec:Nat)(Zf:b=false->base sec=c.pt):Ky (C.z i' L n (jE L) n (jE L) un wt sg) (1-s) (oF b c.id sec):=by
 have hid:=(h.lg s hs).NF ho.mem
 obtain⟨j,hj,ej⟩:=List.getElem_of_mem ho.mem
 have d:=(h.lg s hs).ids j hj
 have ed:(iG (L s)).getD j ag=c:=by simp[List.getD,hj,ej]
 rw[ed]at d
 refine⟨I1 b c.id sec,?_,?_,fun hk=>?_⟩
 ·rw[I4];show 1<=c.id/\c.id<=((iG (L (1-(1-s)))).length:Int);rw[pg hs];exact hid
 ·rw[I4];exact ho.go
 ·rw[I4]
  show _=((iG (L (1-(1-s)))).getD (c.id-1).toNat ag).pt
  rw[pg hs,show(c.id-1).toNat=j by omega,ed]
  cases b
  ·exact Zf Z
  ·cases hk
theorem run_end (hK:CxK C)(hC:Jt C)(hs:s<2)(hQ:Qt C n L t)(h:Dl C k L)(hk:k<7)(hn:n<12)(hl:(L 0).length+(L 1).length+1<=2*k)(ho:Op L s c)(b:Bool)(sec:Nat)(Zf:b=false->base sec=c.pt):uA (I5 t (1-s) L (oF b c.id sec)) 0 60 (Qt C (n+1) (ll L (1-s) (oF b c.id sec))):=by
 refine SV hC (by omega) hQ (h.ok hK hC (by omega)) ((h.end_ hK (by omega) hs hl ho b sec).ok hK hC (by omega)) hn (.inr (I1 b c.id sec)) (KC b c.id sec) fun un sg=>?_
 exact qg.ends (z:=C.z (1-(1-s)) L n (jE L) n (jE L) un false sg) (oF b c.id sec) I6 (KC b c.id sec) (by show Ky _ (1-(1-(1-s))) _;rw[pg hs];exact QI h hs ho b sec Zf)
theorem uA.rest (h:uA t 0 60 (Qt C n L))(hL:C.ok L):(∀k,k<60->q9 (runT t k) (k%2))/\(∀j,j<2->lJ ((runT t 60).z j))/\(runT t 60).qs 0=[]/\(runT t 60).qs 1=[]/\wE ((runT t 60).z 0)=true/\wE ((runT t 60).z 1)=true/\Qt C n L (runT t 60):=by
 have hQ:=h.2
 rw[<-QH]at hQ
 have q:∀j,j<2->lJ ((runT t 60).z j)/\wE ((runT t 60).z j)=true:=fun j hj=>by
  obtain⟨un,sg,e⟩:=hQ.z j hj
  rw[e]
  exact⟨hL.z hj,by show(!false&&(decide (jE L=jE L)&&decide (jE L=jE L)))=true;rw[decide_eq_true Z];rfl⟩
 refine⟨fun k hk=>?_,fun j hj=>(q j hj).1,hQ.q 0 (by decide),hQ.q 1 (by decide),(q 0 (by decide)).2,(q 1 (by decide)).2,hQ⟩
 have:=h.1 k hk
 rw[QH]
 simpa using this
end
theorem qy.mono {b b' g:Nat}{z:jU}(h:qy w b g F z)(hb:b'<=b):qy w b' g F z:=by
 obtain⟨a,ps,h⟩:=h
 exact⟨a,ps,h.b,fun i hi=>(h.l i hi).mono hb,h.p.mono hb,h.k.mono hb,h.ap,Nat.le_trans hb h.o,h.f,h.pl⟩
def oO:Nat->List kT:=fun _=>[]
def tw2 (z0 z1:jU):Bb:=⟨fun j=>if j=0 then z0 else z1,fun _=>[]⟩
theorem Au.new {base g0 g1 b0 b1:Nat}{F0 F1:Nat->Prop}{z0 z1:jU}(hB:ik w gt 44 #[.pointer (some ⟨g0,0,none⟩),.pointer (some ⟨g1,0,none⟩),.slice none 0 0,.slice none 0 0])(h0:qy w b0 g0 F0 z0)(h1:qy w b1 g1 F1 z1)(k0:base<=b0)(k1:base<=b1)(ho:base<=gt)(hd:∀k,F0 k->k<b1):∃F,Au w base gt F (tw2 z0 z1):=by
 refine⟨fun k=>k=gt\/∃j,j<2/\((if j=0 then F0 else F1) k\/rowOf (none:Option Addr) 0=some k),⟨fun j=>if j=0 then g0 else g1,fun _=>⟨none,0,0⟩⟩,fun j=>if j=0 then F0 else F1,hB,fun j hj=>?_,fun j hj=>lH.nil _ _ _ _ _ _,ho,fun j hj k c d=>?_,fun j hj k q=>absurd q (by rw[jI];simp),fun k=>Iff.rfl⟩
 ·rcases kX hj with rfl|rfl
  ·exact h0.mono k0
  ·exact h1.mono k1
 ·have key:∀k,F0 k->F1 k->False:=fun k c d=>by have:=hd k c;have:=h1.old d;omega
  rcases kX hj with rfl|rfl
  ·exact key k c d
  ·exact key k d c
def Pb (p:CW):CW:={p with oa:=none,on:=0,oc:=0,no:=0}
def CB (p:CW):Cx:=⟨AP (Pb p),fun i=>if i=0 then iq p.s0 else iq p.s1,(wD (Pb p)).h0,(wD (Pb p)).h1,(wD (Pb p)).rt⟩
theorem QJ {p:CW}(h:vO p):vO (Pb p):=⟨h.s0,h.s1,h.am,h.ow,h.ra,h.op,by show 0<65536;decide⟩
theorem Zg (p:CW):(wD (Pb p)).no=0:=by unfold wD FD;split<;>(try split)<;>rfl
theorem abQ (s:List Byte):BG (iq s).f=true:=by
 have c:=MC (lT s 1)
 have d:=wI (lT s 1)
 rw[Nat.mod_eq_of_lt c]at d
 show(decide (kD (lT s 1)<q)&&decide (kD (lT s 1)≠0))=true
 rw[decide_eq_true c,decide_eq_true d]
 rfl
structure SX (C:Cx):Prop where
 ok:Jt C
 k:CxK C
 ZF:∀i,i<2->iW (C.kt i)=C.ch.ZF i
 rs:kz C.ch.am C.ch.op ⟨0,C.h0,C.h1,[],C.rt⟩
theorem Zh {p:CW}(h:vO p):SX (CB p):=by
 have hr:=Qr (QJ h)
 have he:wD (Pb p)=⟨0,(CB p).h0,(CB p).h1,[],(CB p).rt⟩:=by
  have c:=Zg p
  have d:=aa8 (Pb p)
  show wD (Pb p)=⟨0,(wD (Pb p)).h0,(wD (Pb p)).h1,[],(wD (Pb p)).rt⟩
  rw[<-c,<-d]
 refine⟨⟨fun i hi=>?_,fun i hi=>?_,fun i hi=>?_⟩,⟨hr.Vq,hr.Vr,hr.Wy,XZ (QJ h)⟩,fun i hi=>?_,by rw[<-he];exact hr⟩
 ·rcases kX hi with rfl|rfl<;>rfl
 ·rcases kX hi with rfl|rfl<;>exact abQ _
 ·rcases kX hi with rfl|rfl<;>exact UF _ _
 ·rcases kX hi with rfl|rfl<;>rfl
def Cx.Zc (C:Cx):Prop:=lF C.rt 16<=if C.ch.op=0 then C.h0 else C.h1
section
variable {C:Cx}{i:Nat}
theorem at_nil (no:Int):C.at_ oO no=⟨no,C.h0,C.h1,[],C.rt⟩:=by simp[Cx.at_,oO,WE,AJ,AL,nM,kP,iG,jT]
theorem SX.dl (h:SX C)(hc:C.Zc):Dl C 0 oO:=⟨fun i hi=>pX.nil _,by decide,by decide,by rw[at_nil];exact h.rs,by rw[at_nil];exact hc⟩
theorem SX.sd (h:SX C){n k:Nat}{p q:jw}{un:Cut}{wt:Bool}{sg:yA.BF}(hi:i<2):lJ (C.z i oO n p k q un wt sg):=
 ⟨hi,fun j hj=>pX.nil _,fun j hj=>Nat.zero_le _,h.k.h0,h.k.h1,h.k.rt,h.k.ch,by show kz _ _ (C.at_ oO 0);rw[at_nil];exact h.rs,by show(C.at_ oO 0).cs.length<=8;rw[at_nil];exact Nat.zero_le _,h.ok.l i hi⟩
def Cx.sg0 (C:Cx)(i:Nat):yA.BF:=nR (C.kt (1-i)).f (nG [iP] (qC C.ch ⟨0,C.h0,C.h1,[],C.rt⟩ i (lW (C.kt i).ch 0)) (2*0+(i:Int)))
theorem SX.sg (h:SX C)(hi:i<2):nN (C.ch.b (1-i) 0) (NF C.ch (jU.si (C.z i oO 0 qY 0 qY jO false (C.sg0 i)) 0) i (lW (C.kt i).ch 0)) (C.sg0 i)=true:=by
 have e:jU.si (C.z i oO 0 qY 0 qY jO false (C.sg0 i)) 0=⟨0,C.h0,C.h1,[],C.rt⟩:=at_nil (C:=C) 0
 rw[e,h.ok.b _ (by omega)]
 exact GH (h.ok.f _ (by omega)) _
theorem SX.sr (h:SX C)(hi:i<2):(C.sg0 i).r<18446744073709551616:=by
 have hv:=h.sg hi
 unfold nN jX at hv
 simp only[Bool.and_eq_true]at hv
 exact Nat.lt_trans ((oP _).1 hv.1.1.2).2.1 (by decide)
theorem Qt.new:Qt C 0 oO (tw2 (C.z 0 oO 0 qY 0 qY jO false (C.sg0 0)) (C.z 1 oO 0 qY 0 qY jO false (C.sg0 1))):=⟨fun i hi=>by rcases kX hi with rfl|rfl<;>exact⟨_,_,rfl⟩,fun i hi=>rfl⟩
end
variable {C:Cx}
theorem OY {p:CW}(hC:C=CB p)(hp:vO p)(w:World):Calls prog 25 #[.agg (vz (Pb p)).toArray] w fun r w'=>r= .returned (.tuple #[.agg (mU C.ch).toArray,.agg (pG (C.kt 0,C.kt 1)).toArray,.agg #[J 0,J C.h0,J C.h1,.slice none 0 0,J C.rt]])/\Le w w':=by
 have:=aa9 (Pb p) w ⟨QJ hp,rfl,rfl,rfl⟩
 rw[Zg]at this
 rw[hC]
 exact this
structure KD where
 sd:Nat
 dd:Nat
 am:Nat
 se:Nat
def SY:KD:=⟨0,0,0,0⟩
def FH (x:KD):List Value:=[.int .u8 (x.sd:Int),.int .u8 (x.dd:Int),.int .u16 (x.am:Int),.int .u64 (x.se:Int)]
theorem I7:kM FH 4:=⟨fun _=>rfl,fun x v hv=>by simp[FH]at hv;rcases hv with rfl|rfl|rfl|rfl<;>rfl,by decide⟩
def zB (x:KD):Prop:=x.sd<256/\x.dd<256/\x.am<65536/\x.se<18446744073709551616
def nu (d:KD):Nat:=1+d.se%2305843009213688668
def jd (L:Nat->List kT)(d:KD):kT:=vk L (d.sd%2) (1+(d.am:Int)) (base (nu d))
def Ve (L:Nat->List kT)(d:KD):kT:=oF (decide (d.dd%3=1)) (jd L d).c.id (nu d)
def qA (C:Cx)(L:Nat->List kT)(d:KD):Prop:=C.kp (d.sd%2)<=(C.at_ L 0).h ((d.sd%2:Nat):Int)-(1+(d.am:Int))
instance (C : Cx) (L : Nat -> List kT) (d : KD) : Decidable (qA C L d) := by unfold qA; infer_instance
def jo (C:Cx)(L:Nat->List kT)(d:KD):Nat->List kT:=
 if qA C L d then
  if d.dd%3=2 then ll L (d.sd%2) (jd L d)else ll (ll L (d.sd%2) (jd L d)) (1-d.sd%2) (Ve L d)
 else L
variable {L:Nat->List kT}{d:KD}
theorem Dh (h:¬qA C L d):jo C L d=L:=if_neg h
theorem rE (h:qA C L d):jo C L d=if d.dd%3=2 then ll L (d.sd%2) (jd L d)else ll (ll L (d.sd%2) (jd L d)) (1-d.sd%2) (Ve L d):=if_pos h
theorem x8 (d:KD):right (base (nu d))=true/\base (nu d)≠1/\base (nu d)<18446744073709551616:=⟨jC _,yL (by show(1+d.se%2305843009213688668)%2305843009213688669≠0;omega),nD _⟩
section
variable {w w':World}{base gt:Nat}{F:Nat->Prop}{t:Bb}{m:vR}{Fs:Nat->Nat->Prop}{i:Nat}{F':Nat->Prop}
theorem TwM.tell {o:Nat}{z':jU}{q:kZ}{xs:List mK}(h:TwM w base gt F m Fs t)(hi:i<2)(ho:o=1-i)(hB:ik w' gt 44 (Mj ⟨m.gs,j5 m.qa o q⟩).toArray)(hS:qy w' base (m.gs i) F' z')(hO:qy w' base (m.gs o) (Fs o) (t.z o))(hF:∀k,F' k->Fs i k\/w.heap.size<=k)
  (hqi:lH w' base 134 iR 61 (m.qa i).A (m.qa i).n (m.qa i).c (t.qs i))(hq:lH w' base 134 iR 61 q.A q.n q.c xs)(hr:∀k,rowOf q.A q.c=some k->rowOf (m.qa o).A (m.qa o).c=some k\/w.heap.size<=k):
  ∃G,Au w' base gt G ⟨kr t.z i z',kr t.qs o xs⟩/\(∀k,G k->F k\/w.heap.size<=k)/\∀k,G k->k=gt\/F' k\/Fs o k\/rowOf (m.qa i).A (m.qa i).c=some k\/rowOf q.A q.c=some k:=by
 subst ho
 have:=h.turn (qi:=m.qa i) (qj:=q) hi (by rw[xx];exact hB) hS hO hF hqi hq (fun k h=>h) hr
 rw[xA]at this
 exact this
theorem TwM.idle (h:TwM w base gt F m Fs t)(hi:i<2)(hB:ik w' gt 44 (Mj m).toArray)(hS:qy w' base (m.gs i) F' (t.z i))(hO:qy w' base (m.gs (1-i)) (Fs (1-i)) (t.z (1-i)))(hF:∀k,F' k->Fs i k\/w.heap.size<=k)
  (hqi:lH w' base 134 iR 61 (m.qa i).A (m.qa i).n (m.qa i).c (t.qs i))(hqj:lH w' base 134 iR 61 (m.qa (1-i)).A (m.qa (1-i)).n (m.qa (1-i)).c (t.qs (1-i))):∃G,Au w' base gt G t/\(∀k,G k->F k\/w.heap.size<=k)/\∀k,G k->k=gt\/F' k\/Fs (1-i) k\/rowOf (m.qa i).A (m.qa i).c=some k\/rowOf (m.qa (1-i)).A (m.qa (1-i)).c=some k:=by
 have:=h.turn (qi:=m.qa i) (qj:=m.qa (1-i)) hi (by rw[xx,xx];exact hB) hS hO hF hqi hqj (fun k h=>h) (fun k h=> .inl h)
 rw[xA,xA,xA]at this
 exact this
end
section
variable {w:World}{base g s n k:Nat}{F:Nat->Prop}{C:Cx}{L:Nat->List kT}{t:Bb}{d:KD}
theorem Eh (h:qy w base g F (t.z (d.sd%2)))(hQ:Qt C n L t)(hD:Dl C k L)(hk:k<6)(hL:C.ok L)(hd:zB d):
  Calls prog 36 #[.pointer (some ⟨g,0,none⟩),J (1+(d.am:Int)),.int .u64 (Num.base (nu d):Int),J 500,.slice none 0 0] w fun r w'=>∃F',r= .returned (.tuple #[.agg (iR (if qA C L d then iZ (jd L d)else lG)).toArray,J (if qA C L d then 0 else 8)])/\qy w' base g F' (if qA C L d then(t.z (d.sd%2)).yF (d.sd%2) (L (d.sd%2)++[jd L d])else t.z (d.sd%2))/\(∀k,F' k->F k\/w.heap.size<=k)/\iX w w' F:=by
 have hs:d.sd%2<2:=by omega
 have ha:=hd.2.2.1
 obtain⟨un,sg,e⟩:=hQ.z _ hs
 rw[e]at h ⊢
 have:=YY (am:=1+(d.am:Int)) (pt:=Num.base (nu d)) w h (hL.z hs) I6 (Ze hD (by omega) hs (by omega) (x8 d))
 refine this.mono ?_
 rintro r w' ⟨F',rfl,c,f,i⟩
 have hM:(C.z (d.sd%2) L n (jE L) n (jE L) un false sg).kp (C.z (d.sd%2) L n (jE L) n (jE L) un false sg).me<=(C.z (d.sd%2) L n (jE L) n (jE L) un false sg).sp (C.z (d.sd%2) L n (jE L) n (jE L) un false sg).me-(1+(d.am:Int))↔qA C L d:=by
  show C.kp (d.sd%2)<=(C.z (d.sd%2) L n (jE L) n (jE L) un false sg).sp (d.sd%2)-_↔_
  rw[agS hs]
  exact Iff.rfl
 by_cases hp:qA C L d
 ·simp only[if_pos hp,if_pos (hM.2 hp),if_true]at c ⊢
  exact⟨F',rfl,c,f,i⟩
 ·simp only[if_neg hp,if_neg (fun q=>hp (hM.1 q)),show¬(8:Int)=0 by decide,if_false]at c ⊢
  exact⟨F',trivial,c,f,i⟩
variable {c:mF}{sec:Nat}
theorem Vf (h:qy w base g F (t.z (1-s)))(hQ:Qt C n L t)(hD:Dl C k L)(hL:C.ok L)(hs:s<2)(ho:Op L s c)(Zf:Num.base sec=c.pt):Calls prog 39 #[.pointer (some ⟨g,0,none⟩),J c.id,.int .u64 (sec:Int)] w fun r w'=>∃F',r= .returned (.tuple #[.agg (iR (iZ (oF false c.id sec))).toArray,J 0])/\qy w' base g F' ((t.z (1-s)).yF (1-s) (L (1-s)++[oF false c.id sec]))/\(∀k,F' k->F k\/w.heap.size<=k)/\iX w w' F:=by
 obtain⟨un,sg,e⟩:=hQ.z (1-s) (by omega)
 rw[e]at h ⊢
 exact U4 w h (hL.z (by omega)) I6 (QI hD hs ho false sec (fun _=>Zf))
theorem abR (h:qy w base g F (t.z (1-s)))(hQ:Qt C n L t)(hD:Dl C k L)(hL:C.ok L)(hs:s<2)(ho:Op L s c):Calls prog 40 #[.pointer (some ⟨g,0,none⟩),J c.id,.slice none 0 0] w fun r w'=>∃F',r= .returned (.tuple #[.agg (iR (iZ (oF true c.id sec))).toArray,J 0])/\qy w' base g F' ((t.z (1-s)).yF (1-s) (L (1-s)++[oF true c.id sec]))/\(∀k,F' k->F k\/w.heap.size<=k)/\iX w w' F:=by
 obtain⟨un,sg,e⟩:=hQ.z (1-s) (by omega)
 rw[e]at h ⊢
 exact abM w h (hL.z (by omega)) I6 (QI hD hs ho true sec (fun q=>by cases q))
end
theorem abS {base k:Nat}(w:World)(hS:Au w base gt F t)(hQ:Qt C n L t)(hD:Dl C k L)(hk6:k<6)(hn:n<=2*k)(hC:SX C)(hT:C8 w)(hb4:4<base)(hd:zB d):Calls prog 9 #[.pointer (some ⟨gt,0,none⟩),.agg (FH d).toArray] w fun r w'=>∃F' t' n',r= .returned (.bool true)/\Au w' base gt F' t'/\Qt C n' (jo C L d) t'/\n'<=2*(k+1)/\(∀q,F' q->F q\/w.heap.size<=q)/\iX w w' F:=by
 have hFg:F gt:=by obtain⟨_,_,h⟩:=id hS;exact(h.f gt).2 (.inl Z)
 have hbase:base<=w.heap.size:=by have N:=hS.old hFg;have O:=hS.lt hFg;omega
 obtain⟨fF,fG,fH,fI⟩:=id hd
 have hLk:=hD.ok hC.k hC.ok (by omega)
 have hgr:∀q,F q->F q\/w.heap.size<=q:=fun q h=> .inl h
 refine En func9 Z (Sr (Yv Z fun y aP d8 (a9:ik aP y 56 (FH d).toArray) cf=>?_))
 have L1:=(iX.refl w F).le cf
 refine Yx 1 Z (Rr 1 Z (Yk (.int .u8 (d.sd:Int)) Z a9 Z (Wa (.LQ Z Z (by omega)) Z (Wr (.Tp (rG underlying5) underlying3 Z (IntWalk.i64_in _ (by omega))) Z (Yx 1 Z (Rr 1 Z (Yk (.int .u64 (d.se:Int)) Z a9 Z (Wa (.BQ d.se 2305843009213688668 (d.se%2305843009213688668) Z Z Z Z (by omega) Z) Z (Wa (.addN 1 (d.se%2305843009213688668) (nu d) Z Z Z Z (by unfold nu;omega)) Z ?_)))))))))
 have f2:=(hS.le cf)
 have nY:¬F y:=(fun hF=>by have:=hS.lt hF;have:=d8;omega)
 have Js:=L1.size
 have hij:1-d.sd%2≠d.sd%2:=by omega
 obtain⟨j,x,e⟩:=id f2
 have d9:rowOf (j.qa (d.sd%2)).A (j.qa (d.sd%2)).c≠some gt:=(e.q (d.sd%2) (by omega)).kV e.b (by decide)
 have cg:rowOf (j.qa (1-(d.sd%2))).A (j.qa (1-(d.sd%2))).c≠some gt:=(e.q (1-(d.sd%2)) (by omega)).kV e.b (by decide)
 have Ml:=(e.q (d.sd%2) (by omega)).1;have Mm:=(e.q (1-(d.sd%2)) (by omega)).1
 rw[hQ.q _ (by omega)]at Ml Mm;simp only[List.length_nil]at Ml Mm
 have Ei:gt≠y:=fun h=>nY (by rw[<-h];exact(e.f gt).2 (.inl Z))
 refine Yx 1 Z ?_
 refine WC.cut (ι:=(Nat->Prop)×Nat) (fun⟨FA,I⟩=>[(0,.pointer (some ⟨gt,0,none⟩)),(3,.pointer (some ⟨y,0,none⟩)),(5,J ((d.sd:Int)%2)),(6,.int .u64 (nu d:Int)),(7,.pointer (some ⟨I,0,none⟩)),(8,J (if qA C L d then 0 else 8))]) (fun⟨FA,I⟩ V=>(∀q,FA q->x (d.sd%2) q\/aP.heap.size<=q)/\(∀q,FA q->¬x (1-(d.sd%2)) q)/\iX w V F/\aP.heap.size<=V.heap.size/\ik V gt 44 (Mj (⟨j.gs,j.qa⟩:vR)).toArray/\ik V y 56 (FH d).toArray/\qy V base (j.gs (d.sd%2)) FA (if qA C L d then((t.z (d.sd%2)).yF (d.sd%2) (L (d.sd%2)++[(jd L d)]))else(t.z (d.sd%2)))/\qy V base (j.gs (1-(d.sd%2))) (x (1-(d.sd%2))) (t.z (1-(d.sd%2)))/\lH V base 134 iR 61 ((j.qa (d.sd%2)).A) ((j.qa (d.sd%2)).n) ((j.qa (d.sd%2)).c) (t.qs (d.sd%2))/\lH V base 134 iR 61 ((j.qa (1-(d.sd%2))).A) ((j.qa (1-(d.sd%2))).n) ((j.qa (1-(d.sd%2))).c) (t.qs (1-(d.sd%2)))/\aP.heap.size<=I/\ik V I 134 (iR (if qA C L d then iZ (jd L d)else lG)).toArray) ?_ ?_
 ·refine WC.ac9 (fun w3 w'=>iX w w' F/\ik w' gt 44 (Mj (⟨j.gs,j.qa⟩:vR)).toArray/\ik w' y 56 (FH d).toArray) (fun o=>(app o [0,1,2,3,4,5,6,7,8,9,10] (.br (app o [11] (.br (app o [12,13,14,15,16,17,18] .nil) (app o [16,12,13,14,15,17,18] .nil))) (app o [16,11,12,13,14,15,17,18] .nil)))) mixed (by kernel_rfl) fun w3 u=>?_
  have L3:=L1.le u
  have f4:=(e.b.le u)
  have f5:=(a9.le u)
  refine⟨⟨L3,f4,f5⟩,?_⟩
  refine PI.app (GS.any Z Z (.move Z) Z Z Z (GS.any Z Z (.move Z) Z Z Z (GS.any Z Z (.nilCheck Z) Z Z Z (GS.any Z Z (.nU adx Z) Z Z Z (GS.any Z Z (.aci (d.sd%2) underlying40 adr Z Z (by omega) (by omega)) Z Z Z ?_)))))
  refine GS.rd Z Z (fun w' hs=> .ES (v:= .pointer (some ⟨(j.gs (d.sd%2)),0,none⟩)) ahv Z hs.2.1 (oN (⟨j.gs,j.qa⟩:vR) (by omega))) Z Z Z (GS.any Z Z (.nU ady Z) Z Z Z (GS.rd Z Z (fun w' hs=> .ES (v:= .int .u16 (d.am:Int)) ahr Z hs.2.2 Z) Z Z Z (GS.rd Z Z (fun w' hs=> .Tp (rG underlying27) underlying3 Z (IntWalk.i64_in _ (by omega))) Z Z Z (GS.any Z Z (.add Z Z (by omega)) Z Z Z (GS.any Z Z (.move Z) Z Z Z ?_)))))
  refine GS.nil (PI.br ?_ ?_)
  ·refine PI.app (GS.ef Z Z Z Z Z (Ef.call af6 Z Z (pF (nu d) w3) ?_))
   rintro _ fJ ⟨rfl,K⟩
   refine⟨_,rfl,?_⟩
   have L6:=L3.le K
   have f7:=(f4.le K)
   have f8:=(f5.le K)
   refine⟨⟨L6,f7,f8⟩,?_⟩
   refine GS.nil (PI.br ?_ ?_)
   ·refine PI.last ?_
    have f9:=((e.s (d.sd%2) (by omega)).le (u.trans K))
    refine GS.ef Z Z Z Z Z (Ef.call adw Z Z (Eh f9 hQ hD hk6 hLk hd) ?_)
    rintro _ fK ⟨ci,rfl,cj,ck,ae⟩
    refine⟨_,rfl,?_⟩
    have ba:=L6.sub ae (fun i hi hlt=>((hgr _ ((e.f _).2 (.inr ⟨(d.sd%2),by omega,.inl hi⟩))).resolve_right (by omega)))
    have cm:=((e.q (d.sd%2) (by omega)).le (u.trans K))
    have co:=((e.s (1-(d.sd%2)) (by omega)).le (u.trans K))
    have cp:=((e.q (1-(d.sd%2)) (by omega)).le (u.trans K))
    have bb:=f8.ji ae (show¬(x (d.sd%2)) y from(fun h=>nY ((e.f _).2 (.inr ⟨(d.sd%2),by omega,.inl h⟩))))
    have cq:=cm.ji ae (show∀g,rowOf ((j.qa (d.sd%2)).A) ((j.qa (d.sd%2)).c)=some g->¬(x (d.sd%2)) g from(f9.kg cm (by decide) (by decide)))
    have cr:=(show∀k,(x (1-(d.sd%2))) k->¬(x (d.sd%2)) k from(fun k N O=>(e.sf (d.sd%2) (by omega)) k O N))
    have ct:=co.ji ae cr
    have ea:∀k,(x (1-(d.sd%2))) k->¬ci k:=fun k hk hF=>(ck _ hF).elim (cr k hk) (fun hz=>by have:=co.lt hk;omega)
    have cu:=cp.ji ae (show∀g,rowOf ((j.qa (1-(d.sd%2))).A) ((j.qa (1-(d.sd%2))).c)=some g->¬(x (d.sd%2)) g from(f9.kg cp (by decide) (by decide)))
    have bc:=f7.ji ae (show¬(x (d.sd%2)) gt from(f9.jg f7 (by decide) (by decide)))
    refine⟨⟨ba,bc,bb⟩,?_⟩
    refine GS.any Z Z (.move Z) Z Z Z (GS.any Z Z (.extract (v:= .agg (iR (if qA C L d then iZ (jd L d)else lG)).toArray) Z Z) Z Z Z (GS.any Z Z (.extract (v:= J (if qA C L d then 0 else 8)) Z Z) Z Z Z (GS.ef Z Z Z Z Z (Ef.pR sD fun bd eb aQ (ec:ik eb bd 134 (iR lG).toArray) af=>?_))))
    have cv:=ba.le af
    have cw:=(bc.le af)
    have cx:=(bb.le af)
    refine⟨⟨cv,cw,cx⟩,?_⟩
    refine GS.jR Z Z Z Z (Ef.storeAll yt (by rfl) Z Z ec (by simp only[List.size_toArray,iD.len]) (iD.one (if qA C L d then iZ (jd L d)else lG)) ?_)
    intro cy be ah
    have be:ik cy bd 134 (iR (if qA C L d then iZ (jd L d)else lG)).toArray:=be
    have cz:iX w cy F:=cv.ch ah (fun i hi hlt=>by cases hi;exact absurd hlt (by have:=ba.size;have:=aQ;omega))
    have cA:=(cw.cn ah (by have:=bc.lt;omega))
    have cB:=(cx.cn ah (by have:=bb.lt;omega))
    refine⟨⟨cz,cA,cB⟩,?_⟩
    refine GS.any Z Z (.assign Z) Z Z Z (GS.nil ?_)
    have ed:=((ct.le af).ch ah (fun q hqq hF=>by cases hqq;have:=ct.lt hF;have:=aQ;omega))
    have ee:=((cj.le af).ch ah (fun q hqq hF=>by cases hqq;have:=cj.lt hF;have:=aQ;omega))
    have eg:=((cq.le af).cb ah (cq.rn (by omega)))
    have eh:=((cu.le af).cb ah (cu.rn (by omega)))
    refine E.meet (ci,bd) (.of Z) ?_
    have _:=u.size
    have _:=K.size
    have _:=ae.size
    have _:=af.size
    have _:=ah.size
    exact⟨(fun q h=>(ck q h).imp_right (fun h=>by omega)),(fun q N O=>ea q O N),cz,by omega,cA,cB,ee,ed,eg,eh,(by have:=aQ;omega),be⟩
   refine PI.last (GS.ef Z Z Z Z Z (Ef.pR sD fun aR ei bf (ej:ik ei aR 134 (iR lG).toArray) ai=>?_))
   have cC:=L6.le ai
   have bg:=(f7.le ai)
   have cD:=(f8.le ai)
   refine⟨⟨cC,bg,cD⟩,?_⟩
   have aS:=((e.s (d.sd%2) (by omega)).le (u.trans (K.trans ai)))
   refine GS.ef Z Z Z Z Z (Ef.call adw Z Z (Eh aS hQ hD hk6 hLk hd) ?_)
   rintro _ fL ⟨cE,rfl,cF,cG,aj⟩
   refine⟨_,rfl,?_⟩
   have cH:=cC.sub aj (fun i hi hlt=>((hgr _ ((e.f _).2 (.inr ⟨(d.sd%2),by omega,.inl hi⟩))).resolve_right (by omega)))
   have cI:=((e.q (d.sd%2) (by omega)).le (u.trans (K.trans ai)))
   have cJ:=((e.s (1-(d.sd%2)) (by omega)).le (u.trans (K.trans ai)))
   have cK:=((e.q (1-(d.sd%2)) (by omega)).le (u.trans (K.trans ai)))
   have cL:=cD.ji aj (show¬(x (d.sd%2)) y from(fun h=>nY ((e.f _).2 (.inr ⟨(d.sd%2),by omega,.inl h⟩))))
   have cM:=(show∀k,(x (1-(d.sd%2))) k->¬(x (d.sd%2)) k from(fun k N O=>(e.sf (d.sd%2) (by omega)) k O N))
   have cN:=cJ.ji aj cM
   have ek:∀k,(x (1-(d.sd%2))) k->¬cE k:=fun k hk hF=>(cG _ hF).elim (cM k hk) (fun hz=>by have:=cJ.lt hk;omega)
   have cO:=bg.ji aj (show¬(x (d.sd%2)) gt from(aS.jg bg (by decide) (by decide)))
   have _:=u.size
   have _:=K.size
   have bh:=ej.ji aj (show¬(x (d.sd%2)) aR from(fun hF=>by have:=(e.s (d.sd%2) (by omega)).lt hF;have:=bf;omega))
   refine⟨⟨cH,cO,cL⟩,?_⟩
   refine GS.any Z Z (.move Z) Z Z Z (GS.any Z Z (.extract (v:= .agg (iR (if qA C L d then iZ (jd L d)else lG)).toArray) Z Z) Z Z Z (GS.any Z Z (.extract (v:= J (if qA C L d then 0 else 8)) Z Z) Z Z Z (GS.jR Z Z Z Z (Ef.storeAll yt (by rfl) Z Z bh (by simp only[List.size_toArray,iD.len]) (iD.one (if qA C L d then iZ (jd L d)else lG)) ?_))))
   intro cP bi ak
   have bi:ik cP aR 134 (iR (if qA C L d then iZ (jd L d)else lG)).toArray:=bi
   have cQ:iX w cP F:=cH.ch ak (fun i hi hlt=>by cases hi;exact absurd hlt (by have:=L6.size;have:=bf;omega))
   have cR:=(cO.cn ak (by have:=f7.lt;omega))
   have cS:=(cL.cn ak (by have:=f8.lt;omega))
   refine⟨⟨cQ,cR,cS⟩,?_⟩
   refine GS.any Z Z (.assign Z) Z Z Z (GS.nil ?_)
   have el:=(cN.ch ak (fun q hqq hF=>by cases hqq;exact(cN.jg bh (by decide) (by decide)) hF))
   have em:=(cF.ch ak (fun q hqq hF=>by cases hqq;exact(cF.jg bh (by decide) (by decide)) hF))
   have en:=((cI.ji aj (show∀g,rowOf ((j.qa (d.sd%2)).A) ((j.qa (d.sd%2)).c)=some g->¬(x (d.sd%2)) g from(aS.kg cI (by decide) (by decide)))).ch ak (fun q hq=>by cases hq;exact(fun he=>by have:=((e.q (d.sd%2) (by omega)).row he).2;omega)))
   have eo:=((cK.ji aj (show∀g,rowOf ((j.qa (1-(d.sd%2))).A) ((j.qa (1-(d.sd%2))).c)=some g->¬(x (d.sd%2)) g from(aS.kg cK (by decide) (by decide)))).ch ak (fun q hq=>by cases hq;exact(fun he=>by have:=((e.q (1-(d.sd%2)) (by omega)).row he).2;omega)))
   refine E.meet (cE,aR) (.of Z) ?_
   have _:=ai.size
   have _:=aj.size
   have _:=ak.size
   exact⟨(fun q h=>(cG q h).imp_right (fun h=>by omega)),(fun q N O=>ek q O N),cQ,by omega,cR,cS,em,el,en,eo,(by have:=bf;omega),bi⟩
  refine PI.last (GS.ef Z Z Z Z Z (Ef.pR sD fun aT cT bj (ep:ik cT aT 134 (iR lG).toArray) al=>?_))
  have cU:=L3.le al
  have cV:=(f4.le al)
  have cW:=(f5.le al)
  refine⟨⟨cU,cV,cW⟩,?_⟩
  refine GS.ef Z Z Z Z Z (Ef.call af6 Z Z (pF (nu d) cT) ?_)
  rintro _ fM ⟨rfl,X⟩
  refine⟨_,rfl,?_⟩
  have cX:=cU.le X
  have bk:=(cV.le X)
  have cY:=(cW.le X)
  refine⟨⟨cX,bk,cY⟩,?_⟩
  have aU:=((e.s (d.sd%2) (by omega)).le (u.trans (al.trans X)))
  refine GS.ef Z Z Z Z Z (Ef.call adw Z Z (Eh aU hQ hD hk6 hLk hd) ?_)
  rintro _ fN ⟨cZ,rfl,c0,c1,an⟩
  refine⟨_,rfl,?_⟩
  have c4:=cX.sub an (fun i hi hlt=>((hgr _ ((e.f _).2 (.inr ⟨(d.sd%2),by omega,.inl hi⟩))).resolve_right (by omega)))
  have c5:=((e.q (d.sd%2) (by omega)).le (u.trans (al.trans X)))
  have c6:=((e.s (1-(d.sd%2)) (by omega)).le (u.trans (al.trans X)))
  have c7:=((e.q (1-(d.sd%2)) (by omega)).le (u.trans (al.trans X)))
  have c8:=cY.ji an (show¬(x (d.sd%2)) y from(fun h=>nY ((e.f _).2 (.inr ⟨(d.sd%2),by omega,.inl h⟩))))
  have c9:=(show∀k,(x (1-(d.sd%2))) k->¬(x (d.sd%2)) k from(fun k N O=>(e.sf (d.sd%2) (by omega)) k O N))
  have da:=c6.ji an c9
  have er:∀k,(x (1-(d.sd%2))) k->¬cZ k:=fun k hk hF=>(c1 _ hF).elim (c9 k hk) (fun hz=>by have:=c6.lt hk;omega)
  have db:=bk.ji an (show¬(x (d.sd%2)) gt from(aU.jg bk (by decide) (by decide)))
  have _:=u.size
  have bl:=(ep.le X).ji an (show¬(x (d.sd%2)) aT from(fun hF=>by have:=(e.s (d.sd%2) (by omega)).lt hF;have:=bj;omega))
  refine⟨⟨c4,db,c8⟩,?_⟩
  refine GS.any Z Z (.move Z) Z Z Z (GS.any Z Z (.extract (v:= .agg (iR (if qA C L d then iZ (jd L d)else lG)).toArray) Z Z) Z Z Z (GS.any Z Z (.extract (v:= J (if qA C L d then 0 else 8)) Z Z) Z Z Z (GS.jR Z Z Z Z (Ef.storeAll yt (by rfl) Z Z bl (by simp only[List.size_toArray,iD.len]) (iD.one (if qA C L d then iZ (jd L d)else lG)) ?_))))
  intro dc bm ao
  have bm:ik dc aT 134 (iR (if qA C L d then iZ (jd L d)else lG)).toArray:=bm
  have de:iX w dc F:=c4.ch ao (fun i hi hlt=>by cases hi;exact absurd hlt (by have:=L3.size;have:=bj;omega))
  have dg:=(db.cn ao (by have:=f4.lt;omega))
  have dh:=(c8.cn ao (by have:=f5.lt;omega))
  refine⟨⟨de,dg,dh⟩,?_⟩
  refine GS.any Z Z (.assign Z) Z Z Z (GS.nil ?_)
  have es:=(da.ch ao (fun q hqq hF=>by cases hqq;exact(da.jg bl (by decide) (by decide)) hF))
  have et:=(c0.ch ao (fun q hqq hF=>by cases hqq;exact(c0.jg bl (by decide) (by decide)) hF))
  have eu:=((c5.ji an (show∀g,rowOf ((j.qa (d.sd%2)).A) ((j.qa (d.sd%2)).c)=some g->¬(x (d.sd%2)) g from(aU.kg c5 (by decide) (by decide)))).ch ao (fun q hq=>by cases hq;exact(fun he=>by have:=((e.q (d.sd%2) (by omega)).row he).2;omega)))
  have ew:=((c7.ji an (show∀g,rowOf ((j.qa (1-(d.sd%2))).A) ((j.qa (1-(d.sd%2))).c)=some g->¬(x (d.sd%2)) g from(aU.kg c7 (by decide) (by decide)))).ch ao (fun q hq=>by cases hq;exact(fun he=>by have:=((e.q (1-(d.sd%2)) (by omega)).row he).2;omega)))
  refine E.meet (cZ,aT) (.of Z) ?_
  have _:=al.size
  have _:=X.size
  have _:=an.size
  have _:=ao.size
  exact⟨(fun q h=>(c1 q h).imp_right (fun h=>by omega)),(fun q N O=>er q O N),de,by omega,dg,dh,et,es,eu,ew,(by have:=bj;omega),bm⟩
 rintro⟨FA,I⟩ V ⟨gA,hdA,di,bn,dj,bo,dk,dm,dn,dp,dq,bp⟩
 refine Sq (Sr ?_)
 by_cases hp:qA C L d
 ·have aF:=hD.off hC.k (by omega) (by omega) hp (by omega) ⟨(x8 d).1,(x8 d).2.1⟩
  have bq:=aF.ok hC.k hC.ok (by omega)
  have hop:Op (ll L (d.sd%2) (jd L d)) (d.sd%2) (jd L d).c:=Op.off hD (by omega)
  have _:=hD.ln
  have dr:=fun b (hb:b=false->Num.base (nu d)=(jd L d).c.pt)=>(fun q=>And.intro q (Dl.ok q hC.k hC.ok (by omega))) (aF.end_ hC.k (by omega) (by omega) (by rw[zA (by omega)];omega) hop b (nu d))
  refine Yq 2 Z (dF (by rw[if_pos hp];decide)) (Nx (Cf Z (Sn (Sq (WC.draw [0,1,2,3,4,5,6,7,8,9,10,13,14,11,12,15,16] mixed (by kernel_rfl) fun w6 U=>?_)))))
  have ex:=(dk.le U)
  have pzA:=ex;rw[if_pos hp]at pzA
  have bs:=(dp.le U)
  have bt:=(dm.le U)
  have aH:=(dj.le U)
  have ds:=(bp.le U)
  have bzA:=ds;rw[if_pos hp]at bzA
  refine Xn 2 Z (Ga Z (.as (.sub Z Z (by omega)) (int_eq (b:=((1-(d.sd%2):Nat):Int)) (by omega))) (Xn 2 Z (Ga Z (.as (.sub Z Z (by omega)) (int_eq (b:=((1-(d.sd%2):Nat):Int)) (by omega))) (Xn 2 Z (Xi (1-(d.sd%2)) Z (Xk (.slice ((j.qa (1-(d.sd%2))).A) ((j.qa (1-(d.sd%2))).n) ((j.qa (1-(d.sd%2))).c)) Z aH (sj (⟨j.gs,j.qa⟩:vR) (by omega)) (Xh Z bzA (Xn 2 Z (G.ef Z Z Z Z Z ?_)))))))))
  refine Ef.iw (len:=1) [_] underlying41 uW Z (by simp[Value.cells,iD.len]) Z (by decide) (by decide) ?_
  intro du dw ey aV P
  refine⟨fun _=>P,?_⟩
  have bu:=(di.le U).le P
  have aV:ik dw du 134 (([(iZ (jd L d))]).map iR).flatten.toArray:=aV
  have fO:iy dw w6.heap.size 134 iR 61 (some ⟨du,0,none⟩) 1 1 ([(iZ (jd L d))]):=aV.j4 ey iD Z Z (by decide)
  have fP:=bu.size
  refine G.ef Z Z Z Z Z (Ef.NK (a:=(iZ (jd L d))) underlying41 uW underlying41 iD Z (bs.le P) Z aV (by omega) (by unfold maxLen;omega) (Nat.le_trans hbase (bu).size) ?_)
  intro bv bw ez eA ap aW
  refine noT (by kernel_rfl) ?_
  have eB:iX w ez F:=bu.ch ap (fun i hi hlt=>(hgr _ ((e.f _).2 (.inr ⟨(1-(d.sd%2)),by omega,.inr hi⟩))).resolve_right (by omega))
  refine Xi (1-(d.sd%2)) Z (G.jR Z Z Z Z (Ef.store PW Z Z ((aH.le P).ch ap cg) (by simp[xZ.len,-List.getD_eq_getElem?_getD];omega) Z ?_))
  intro aX bx aq
  refine noT (by kernel_rfl) ?_
  have bx:ik aX gt 44 (Mj (⟨j.gs,(j5 j.qa (1-(d.sd%2)) (⟨bv,((j.qa (1-(d.sd%2))).n+1),bw⟩:kZ))⟩:vR)).toArray:=bx.cast (sZ (⟨j.gs,j.qa⟩:vR) (⟨bv,((j.qa (1-(d.sd%2))).n+1),bw⟩:kZ) (by omega))
  have bz:iX w aX F:=eB.ch aq (fun i hi _=>by cases hi;exact hFg)
  refine Gx (Sq (Sr ?_))
  have bA:=(((pzA.le P).ch ap (fun q hqq hF=>(pzA.kg bs (by decide) (by decide)) q hqq hF)).ch aq (fun q hqq hF=>by cases hqq;exact(pzA.jg aH (by decide) (by decide)) hF))
  have eC:=(((bt.le P).ch ap (fun q hqq hF=>(bt.kg bs (by decide) (by decide)) q hqq hF)).ch aq (fun q hqq hF=>by cases hqq;exact(bt.jg aH (by decide) (by decide)) hF))
  have eD:=((((dn.le U).le P).ch ap (Apart.symm (fun q N O=>e.sq (d.sd%2) (by omega) q N O))).ch aq (fun q hq=>by cases hq;exact d9))
  have _:=P.size
  have eE:=(eA.ch aq (fun q hq=>by cases hq;exact(aW.off (by have:=aH.lt;omega) cg)))
  have _:=U.size
  have _:=ap.size
  have _:=aq.size
  obtain⟨aG,bB,eF,dx⟩:=e.tell (i:=(d.sd%2)) (o:=(1-(d.sd%2))) (q:=(⟨bv,((j.qa (1-(d.sd%2))).n+1),bw⟩:kZ)) (by omega) (by omega) bx bA eC (fun q h=>(gA q h).imp_right (fun h=>by have:=bn;omega)) eD eE (fun q h=>(aW q h).imp_right (fun h=>by have:=bn;omega))
  have bB:Au aX base gt aG (I5 t (d.sd%2) L (jd L d)):=by have q:=bB;skip;exact q
  have dy:∀q,aG q->F q\/w.heap.size<=q:=fun q h=>(eF q h).elim (hgr q) (fun h=> .inr (by have:=Js;omega))
  have bC:=(((bo.le (U.trans P)).ch ap (fun h=>nY ((e.f _).2 (.inr ⟨(1-(d.sd%2)),by omega,.inr h⟩)))).ch aq (fun h=>Ei (oI h)))
  have Vg:¬aG y:=fun h=>(dx _ h).elim (fun h=>((Ne.symm Ei) h)) (fun h=>h.elim (fun h=>(bA.jg bC (by decide) (by decide)) h) (fun h=>h.elim (fun h=>(fun h=>nY ((e.f _).2 (.inr ⟨(1-(d.sd%2)),by omega,.inl h⟩))) h) (fun h=>h.elim (fun h=>(fun h=>nY ((e.f _).2 (.inr ⟨(d.sd%2),by omega,.inr h⟩))) h) (fun h=>(aW.off (by have:=bo.lt;omega) (fun h=>nY ((e.f _).2 (.inr ⟨(1-(d.sd%2)),by omega,.inr h⟩)))) h))))
  have _:=e.b.lt
  have bD:=(((bzA.le P).ch ap (fun he=>by have:=((e.q (1-(d.sd%2)) (by omega)).row he).2;omega)).cn aq (by omega))
  have Zi:¬aG I:=fun h=>(dx _ h).elim (fun h=>((show I≠gt from by omega) h)) (fun h=>h.elim (fun h=>(bA.jg bD (by decide) (by decide)) h) (fun h=>h.elim (fun h=>(fun hF=>by have:=(e.s (1-(d.sd%2)) (by omega)).lt hF;have:=dq;omega) h) (fun h=>h.elim (fun h=>(fun he=>by have:=((e.q (d.sd%2) (by omega)).row he).2;omega) h) (fun h=>(aW.off (by have:=ds.lt;omega) (fun he=>by have:=((e.q (1-(d.sd%2)) (by omega)).row he).2;omega)) h))))
  have aiv:=bz.size
  refine Yn 1 Z ?_
  have aw:=uA.rest (abP hC.k hC.ok (by omega) hQ hD hk6 (by omega) hp (by omega) (x8 d)) bq
  refine Yd Z (Mk aX bB aw.1 (hT.chF bz (fun q h=>hS.old h) hb4) hb4 aw.2.1 aw.2.2.1 aw.2.2.2.1 aw.2.2.2.2.1 aw.2.2.2.2.2.1) ?_
  rintro _ fQ ⟨ar,rfl,aI,bE,bF⟩
  have bG:=bz.sub bF (fun i hi hlt=>((dy _ hi).resolve_right (by omega)))
  have dz:=(show¬aG y from Vg)
  have dA:¬ar y:=fun hF=>(bE _ hF).elim dz (fun hz=>by have:=bC.lt;omega)
  have dB:=(show¬aG I from Zi)
  have dC:=bD.ji bF dB
  have dD:¬ar I:=fun hF=>(bE _ hF).elim dB (fun hz=>by have:=bD.lt;omega)
  refine Yx 1 Z (Cf Z (Sn (Sr ?_)))
  have hgB:∀q,ar q->F q\/w.heap.size<=q:=fun q h=>(bE q h).elim (dy q) (fun h=> .inr (by have:=aiv;omega))
  have ax:Qt C (n+1) (ll L (d.sd%2) (jd L d)) (runT (I5 t (d.sd%2) L (jd L d)) 60):=aw.2.2.2.2.2.2
  refine Wa (.iF (iR (⟨0,0,ag,0,iY,noH,0⟩:mK)) A8 sD Z Z) Z (W.ab Z sD yt (iD.one (⟨0,0,ag,0,iY,noH,0⟩:mK)) fun Q eG aY (dE:ik eG Q 134 (iR (⟨0,0,ag,0,iY,noH,0⟩:mK)).toArray) ay=>?_)
  have bH:=bG.le ay
  refine Nx (Rn 1 Z (Sq (Rr 1 Z ?_)))
  have bI:=((bC.ji bF dz).le ay)
  refine Yk (.int .u8 (d.dd:Int)) Z bI Z (Wa (.LQ Z Z (by omega)) Z (Nx (Bk (Rn 2 Z ?_))))
  by_cases c2:((d.dd:Int)%3)=0
  ·refine Cy Z (dT c2) (WC.draw [0,1,2,3,4,5,6,7,8,9,10,11,12,13,14,15,16] mixed (by kernel_rfl) fun fR aJ=>?_)
   have dG:=bH.le aJ
   have eH:=(aI.le (ay.trans aJ))
   have dH:=(bI.le aJ)
   have xB:¬ar y:=dA
   have bJ:=(dC.le (ay.trans aJ))
   have zC:¬ar I:=dD
   have dI:=(dE.le aJ)
   have tq:¬ar Q:=(fun hF=>by have:=aI.lt hF;have:=aY;omega)
   have Js:=dG.size
   have hij:1-d.sd%2≠d.sd%2:=by omega
   obtain⟨B,au,l⟩:=id eH
   have dJ:rowOf (B.qa (d.sd%2)).A (B.qa (d.sd%2)).c≠some gt:=(l.q (d.sd%2) (by omega)).kV l.b (by decide)
   have eI:rowOf (B.qa (1-(d.sd%2))).A (B.qa (1-(d.sd%2))).c≠some gt:=(l.q (1-(d.sd%2)) (by omega)).kV l.b (by decide)
   have Ml:=(l.q (d.sd%2) (by omega)).1;have Mm:=(l.q (1-(d.sd%2)) (by omega)).1
   rw[ax.q _ (by omega)]at Ml Mm;simp only[List.length_nil]at Ml Mm
   have Vh:gt≠y:=fun h=>xB (by rw[<-h];exact(l.f gt).2 (.inl Z))
   have Zj:gt≠I:=fun h=>zC (by rw[<-h];exact(l.f gt).2 (.inl Z))
   have KE:gt≠Q:=fun h=>tq (by rw[<-h];exact(l.f gt).2 (.inl Z))
   refine Xn 2 Z (Ga Z (.as (.sub Z Z (by omega)) (int_eq (b:=((1-(d.sd%2):Nat):Int)) (by omega))) (Xn 2 Z (Xi (1-(d.sd%2)) Z (Xk (.pointer (some ⟨(B.gs (1-(d.sd%2))),0,none⟩)) Z l.b (oN (⟨B.gs,B.qa⟩:vR) (by omega)) (Xn 2 Z (Xk (J (((iZ (jd L d)).c).id)) Z bJ Z (Xn 1 Z (Xd Z (Vf (c:=(jd L d).c) (sec:=nu d) (l.s (1-(d.sd%2)) (by omega)) ax aF bq (by omega) hop Z) ?_))))))))
   rintro _ fS ⟨bK,rfl,aZ,a0,Y⟩
   refine noT (by kernel_rfl) ?_
   have eJ:=dG.sub Y (fun i hi hlt=>((hgB _ ((l.f _).2 (.inr ⟨(1-(d.sd%2)),by omega,.inl hi⟩))).resolve_right (by omega)))
   have dK:=(show¬(au (1-(d.sd%2))) y from(fun h=>xB ((l.f _).2 (.inr ⟨(1-(d.sd%2)),by omega,.inl h⟩))))
   have eK:=dH.ji Y dK
   have eL:¬bK y:=fun hF=>(a0 _ hF).elim dK (fun hz=>by have:=dH.lt;omega)
   have dL:=(show¬(au (1-(d.sd%2))) I from(fun h=>zC ((l.f _).2 (.inr ⟨(1-(d.sd%2)),by omega,.inl h⟩))))
   have eM:=bJ.ji Y dL
   have eN:¬bK I:=fun hF=>(a0 _ hF).elim dL (fun hz=>by have:=bJ.lt;omega)
   have dM:=(show¬(au (1-(d.sd%2))) Q from(fun h=>tq ((l.f _).2 (.inr ⟨(1-(d.sd%2)),by omega,.inl h⟩))))
   have bL:=dI.ji Y dM
   have eO:¬bK Q:=fun hF=>(a0 _ hF).elim dM (fun hz=>by have:=dI.lt;omega)
   have a1:=(l.s (d.sd%2) (by omega)).ji Y (show∀k,(au (d.sd%2)) k->¬(au (1-(d.sd%2))) k from(l.sf (d.sd%2) (by omega)))
   have bM:=(l.q (d.sd%2) (by omega)).ji Y (show∀g,rowOf ((B.qa (d.sd%2)).A) ((B.qa (d.sd%2)).c)=some g->¬(au (1-(d.sd%2))) g from((l.s (1-(d.sd%2)) (by omega)).kg (l.q (d.sd%2) (by omega)) (by decide) (by decide)))
   have eP:=(l.q (1-(d.sd%2)) (by omega)).ji Y (show∀g,rowOf ((B.qa (1-(d.sd%2))).A) ((B.qa (1-(d.sd%2))).c)=some g->¬(au (1-(d.sd%2))) g from((l.s (1-(d.sd%2)) (by omega)).kg (l.q (1-(d.sd%2)) (by omega)) (by decide) (by decide)))
   have bN:=l.b.ji Y (show¬(au (1-(d.sd%2))) gt from((l.s (1-(d.sd%2)) (by omega)).jg l.b (by decide) (by decide)))
   refine Xn 1 Z (Ga Z (.extract (v:= .agg (iR (iZ (oF false (jd L d).c.id (nu d)))).toArray) Z Z) (Xn 1 Z (Xw Z bL (iD.one (iZ (oF false (jd L d).c.id (nu d)))) ?_)))
   intro dN bO aa
   refine noT (by kernel_rfl) ?_
   have bO:ik dN Q 134 (iR (iZ (oF false (jd L d).c.id (nu d)))).toArray:=bO
   have eQ:iX w dN F:=eJ.ch aa (fun i hi hlt=>by cases hi;exact absurd hlt (by have:=bG.size;have:=aY;omega))
   refine Xn 1 Z (G.nil (E.jD (E.iM (Sq (Sr (Yq 2 Z (show _=false from by first|decide|rfl) (Nx (Cf Z (Sn ?_)))))))))
   refine Sq (WC.draw [0,1,2,3,4,5,6,7,8,11,12,9,10,13,14] mixed (by kernel_rfl) fun bP D=>Xn 6 Z (Xi (d.sd%2) Z ?_))
   have bQ:=((bN.ch aa (fun h=>(Ne.symm KE) (oI h))).le D)
   refine Xk (.slice ((B.qa (d.sd%2)).A) ((B.qa (d.sd%2)).n) ((B.qa (d.sd%2)).c)) Z bQ (sj (⟨B.gs,B.qa⟩:vR) (by omega)) ?_
   have dO:=(bO.le D)
   refine Xh Z dO (Xn 2 Z (G.ef Z Z Z Z Z (Ef.iw (len:=1) [_] underlying41 uW Z (by simp[Value.cells,iD.len]) Z (by decide) (by decide) ?_)))
   intro dP dQ eR a2 R
   refine⟨fun _=>R,?_⟩
   have bR:=(eQ.le D).le R
   have a2:ik dQ dP 134 (([(iZ (oF false (jd L d).c.id (nu d)))]).map iR).flatten.toArray:=a2
   have fT:iy dQ bP.heap.size 134 iR 61 (some ⟨dP,0,none⟩) 1 1 ([(iZ (oF false (jd L d).c.id (nu d)))]):=a2.j4 eR iD Z Z (by decide)
   have eS:=((bM.ch aa (fun q hq=>by cases hq;exact(fun h=>tq ((l.f _).2 (.inr ⟨(d.sd%2),by omega,.inr h⟩))))).le (D.trans R))
   have fU:=bR.size
   refine G.ef Z Z Z Z Z (Ef.NK (a:=(iZ (oF false (jd L d).c.id (nu d)))) underlying41 uW underlying41 iD Z eS Z a2 (by omega) (by unfold maxLen;omega) (Nat.le_trans hbase (bR).size) ?_)
   intro bS bT eT eU az aK
   refine noT (by kernel_rfl) ?_
   have eV:iX w eT F:=bR.ch az (fun i hi hlt=>(hgB _ ((l.f _).2 (.inr ⟨(d.sd%2),by omega,.inr hi⟩))).resolve_right (by omega))
   refine Xi (d.sd%2) Z (G.jR Z Z Z Z (Ef.store PW Z Z ((bQ.le R).ch az dJ) (by simp[xZ.len,-List.getD_eq_getElem?_getD];omega) Z ?_))
   intro a3 bU aA
   refine noT (by kernel_rfl) ?_
   have bU:ik a3 gt 44 (Mj (⟨B.gs,(j5 B.qa (d.sd%2) (⟨bS,((B.qa (d.sd%2)).n+1),bT⟩:kZ))⟩:vR)).toArray:=bU.cast (sZ (⟨B.gs,B.qa⟩:vR) (⟨bS,((B.qa (d.sd%2)).n+1),bT⟩:kZ) (by omega))
   have bV:iX w a3 F:=eV.ch aA (fun i hi _=>by cases hi;exact hFg)
   refine Gx (Sr ?_)
   have eW:=((((aZ.ch aa (fun q hqq hF=>by cases hqq;exact(aZ.jg bL (by decide) (by decide)) hF)).le (D.trans R)).ch az (fun q hqq hF=>(aZ.kg bM (by decide) (by decide)) q hqq hF)).ch aA (fun q hqq hF=>by cases hqq;exact(aZ.jg bN (by decide) (by decide)) hF))
   have eX:=((((a1.ch aa (fun q hqq hF=>by cases hqq;exact(a1.jg bL (by decide) (by decide)) hF)).le (D.trans R)).ch az (fun q hqq hF=>(a1.kg bM (by decide) (by decide)) q hqq hF)).ch aA (fun q hqq hF=>by cases hqq;exact(a1.jg bN (by decide) (by decide)) hF))
   have eY:=((((eP.ch aa (fun q hq=>by cases hq;exact(fun h=>tq ((l.f _).2 (.inr ⟨(1-(d.sd%2)),by omega,.inr h⟩))))).le (D.trans R)).ch az (fun q N O=>l.sq (d.sd%2) (by omega) q N O)).ch aA (fun q hq=>by cases hq;exact eI))
   have _:=R.size
   have eZ:=(eU.ch aA (fun q hq=>by cases hq;exact(aK.off (by have:=bQ.lt;omega) dJ)))
   have _:=Y.size
   have _:=aa.size
   have _:=D.size
   have _:=az.size
   have _:=aA.size
   obtain⟨aL,bW,e0,bX⟩:=l.tell (i:=(1-(d.sd%2))) (o:=(d.sd%2)) (q:=(⟨bS,((B.qa (d.sd%2)).n+1),bT⟩:kZ)) (by omega) (by omega) bU eW eX (fun q h=>(a0 q h).imp_right (fun h=>by omega)) eY eZ (fun q h=>(aK q h).imp_right (fun h=>by omega))
   have bW:Au a3 base gt aL (I5 (runT (I5 t (d.sd%2) L (jd L d)) 60) (1-(d.sd%2)) (ll L (d.sd%2) (jd L d)) (oF false (jd L d).c.id (nu d))):=by have q:=bW;unfold I5;rw[show 1-(1-d.sd%2)=d.sd%2 by omega];exact q
   have dR:∀q,aL q->F q\/w.heap.size<=q:=fun q h=>(e0 q h).elim (hgB q) (fun h=> .inr (by have:=Js;omega))
   have aeq:¬aL y:=fun h=>(bX _ h).elim (fun h=>((Ne.symm Vh) h)) (fun h=>h.elim (fun h=>eL h) (fun h=>h.elim (fun h=>(fun h=>xB ((l.f _).2 (.inr ⟨(d.sd%2),by omega,.inl h⟩))) h) (fun h=>h.elim (fun h=>(fun h=>xB ((l.f _).2 (.inr ⟨(1-(d.sd%2)),by omega,.inr h⟩))) h) (fun h=>(aK.off (by have:=eK.lt;omega) (fun h=>xB ((l.f _).2 (.inr ⟨(d.sd%2),by omega,.inr h⟩)))) h))))
   have agT:¬aL I:=fun h=>(bX _ h).elim (fun h=>((Ne.symm Zj) h)) (fun h=>h.elim (fun h=>eN h) (fun h=>h.elim (fun h=>(fun h=>zC ((l.f _).2 (.inr ⟨(d.sd%2),by omega,.inl h⟩))) h) (fun h=>h.elim (fun h=>(fun h=>zC ((l.f _).2 (.inr ⟨(1-(d.sd%2)),by omega,.inr h⟩))) h) (fun h=>(aK.off (by have:=eM.lt;omega) (fun h=>zC ((l.f _).2 (.inr ⟨(d.sd%2),by omega,.inr h⟩)))) h))))
   have aer:¬aL Q:=fun h=>(bX _ h).elim (fun h=>((Ne.symm KE) h)) (fun h=>h.elim (fun h=>eO h) (fun h=>h.elim (fun h=>(fun h=>tq ((l.f _).2 (.inr ⟨(d.sd%2),by omega,.inl h⟩))) h) (fun h=>h.elim (fun h=>(fun h=>tq ((l.f _).2 (.inr ⟨(1-(d.sd%2)),by omega,.inr h⟩))) h) (fun h=>(aK.off (by have:=dO.lt;omega) (fun h=>tq ((l.f _).2 (.inr ⟨(d.sd%2),by omega,.inr h⟩)))) h))))
   have bY:=bV.size
   refine Yn 1 Z ?_
   have aB:=uA.rest (run_end hC.k hC.ok (by omega) ax aF (by omega) (by omega) (by rw[zA (by omega)];omega) hop false (nu d) (fun h=>by rfl)) (dr false (fun _=>rfl)).2
   refine Yd Z (Mk a3 bW aB.1 (hT.chF bV (fun q h=>hS.old h) hb4) hb4 aB.2.1 aB.2.2.1 aB.2.2.2.1 aB.2.2.2.2.1 aB.2.2.2.2.2.1) ?_
   rintro _ fV ⟨fW,rfl,fa,fb,fc⟩
   refine Yy 1 Z Z Z ?_
   exact⟨_,_,_,rfl,fa,(by rw[rE hp,if_neg (show¬d.dd%3=2 by omega)];unfold Ve;rw[show decide (d.dd%3=1)=false from dF (by omega)];exact aB.2.2.2.2.2.2),(by omega),(fun q h=>(fb q h).elim (dR q) (fun h=> .inr (by have:=bY;omega))),(bV.sub fc (fun i hi hlt=>((dR _ hi).resolve_right (by omega))))⟩
  refine Cn Z (dF c2) (Rn 2 Z ?_)
  by_cases c3:((d.dd:Int)%3)=1
  ·refine Cy Z (dT c3) (WC.draw [0,1,2,3,4,5,6,7,8,9,10,11,12,13,14,15] mixed (by kernel_rfl) fun fX aM=>?_)
   have dS:=bH.le aM
   have fd:=(aI.le (ay.trans aM))
   have dU:=(bI.le aM)
   have xC:¬ar y:=dA
   have bZ:=(dC.le (ay.trans aM))
   have zD:¬ar I:=dD
   have dV:=(dE.le aM)
   have tu:¬ar Q:=(fun hF=>by have:=aI.lt hF;have:=aY;omega)
   have Js:=dS.size
   have hij:1-d.sd%2≠d.sd%2:=by omega
   obtain⟨H,av,m⟩:=id fd
   have dW:rowOf (H.qa (d.sd%2)).A (H.qa (d.sd%2)).c≠some gt:=(m.q (d.sd%2) (by omega)).kV m.b (by decide)
   have fe:rowOf (H.qa (1-(d.sd%2))).A (H.qa (1-(d.sd%2))).c≠some gt:=(m.q (1-(d.sd%2)) (by omega)).kV m.b (by decide)
   have Ml:=(m.q (d.sd%2) (by omega)).1;have Mm:=(m.q (1-(d.sd%2)) (by omega)).1
   rw[ax.q _ (by omega)]at Ml Mm;simp only[List.length_nil]at Ml Mm
   have Vi:gt≠y:=fun h=>xC (by rw[<-h];exact(m.f gt).2 (.inl Z))
   have Zk:gt≠I:=fun h=>zD (by rw[<-h];exact(m.f gt).2 (.inl Z))
   have KF:gt≠Q:=fun h=>tu (by rw[<-h];exact(m.f gt).2 (.inl Z))
   refine Xn 2 Z (Ga Z (.as (.sub Z Z (by omega)) (int_eq (b:=((1-(d.sd%2):Nat):Int)) (by omega))) (Xn 2 Z (Xi (1-(d.sd%2)) Z (Xk (.pointer (some ⟨(H.gs (1-(d.sd%2))),0,none⟩)) Z m.b (oN (⟨H.gs,H.qa⟩:vR) (by omega)) (Xn 2 Z (Xk (J (((iZ (jd L d)).c).id)) Z bZ Z (Xd Z (abR (c:=(jd L d).c) (sec:=nu d) (m.s (1-(d.sd%2)) (by omega)) ax aF bq (by omega) hop) ?_)))))))
   rintro _ fY ⟨b0,rfl,a4,a5,ac⟩
   refine noT (by kernel_rfl) ?_
   have ff:=dS.sub ac (fun i hi hlt=>((hgB _ ((m.f _).2 (.inr ⟨(1-(d.sd%2)),by omega,.inl hi⟩))).resolve_right (by omega)))
   have dX:=(show¬(av (1-(d.sd%2))) y from(fun h=>xC ((m.f _).2 (.inr ⟨(1-(d.sd%2)),by omega,.inl h⟩))))
   have fg:=dU.ji ac dX
   have fh:¬b0 y:=fun hF=>(a5 _ hF).elim dX (fun hz=>by have:=dU.lt;omega)
   have dY:=(show¬(av (1-(d.sd%2))) I from(fun h=>zD ((m.f _).2 (.inr ⟨(1-(d.sd%2)),by omega,.inl h⟩))))
   have fi:=bZ.ji ac dY
   have fj:¬b0 I:=fun hF=>(a5 _ hF).elim dY (fun hz=>by have:=bZ.lt;omega)
   have dZ:=(show¬(av (1-(d.sd%2))) Q from(fun h=>tu ((m.f _).2 (.inr ⟨(1-(d.sd%2)),by omega,.inl h⟩))))
   have b1:=dV.ji ac dZ
   have fk:¬b0 Q:=fun hF=>(a5 _ hF).elim dZ (fun hz=>by have:=dV.lt;omega)
   have a6:=(m.s (d.sd%2) (by omega)).ji ac (show∀k,(av (d.sd%2)) k->¬(av (1-(d.sd%2))) k from(m.sf (d.sd%2) (by omega)))
   have b2:=(m.q (d.sd%2) (by omega)).ji ac (show∀g,rowOf ((H.qa (d.sd%2)).A) ((H.qa (d.sd%2)).c)=some g->¬(av (1-(d.sd%2))) g from((m.s (1-(d.sd%2)) (by omega)).kg (m.q (d.sd%2) (by omega)) (by decide) (by decide)))
   have fl:=(m.q (1-(d.sd%2)) (by omega)).ji ac (show∀g,rowOf ((H.qa (1-(d.sd%2))).A) ((H.qa (1-(d.sd%2))).c)=some g->¬(av (1-(d.sd%2))) g from((m.s (1-(d.sd%2)) (by omega)).kg (m.q (1-(d.sd%2)) (by omega)) (by decide) (by decide)))
   have b3:=m.b.ji ac (show¬(av (1-(d.sd%2))) gt from((m.s (1-(d.sd%2)) (by omega)).jg m.b (by decide) (by decide)))
   refine Xn 1 Z (Ga Z (.extract (v:= .agg (iR (iZ (oF true (jd L d).c.id (nu d)))).toArray) Z Z) (Xn 1 Z (Xw Z b1 (iD.one (iZ (oF true (jd L d).c.id (nu d)))) ?_)))
   intro d0 b4 ad
   refine noT (by kernel_rfl) ?_
   have b4:ik d0 Q 134 (iR (iZ (oF true (jd L d).c.id (nu d)))).toArray:=b4
   have fm:iX w d0 F:=ff.ch ad (fun i hi hlt=>by cases hi;exact absurd hlt (by have:=bG.size;have:=aY;omega))
   refine Xn 1 Z (G.nil (E.jD (E.iM (Sq (Sr (Yq 2 Z (show _=false from by first|decide|rfl) (Nx (Cf Z (Sn ?_)))))))))
   refine Sq (WC.draw [0,1,2,3,4,5,6,7,8,11,12,9,10,13,14] mixed (by kernel_rfl) fun bP D=>Xn 6 Z (Xi (d.sd%2) Z ?_))
   have b5:=((b3.ch ad (fun h=>(Ne.symm KF) (oI h))).le D)
   refine Xk (.slice ((H.qa (d.sd%2)).A) ((H.qa (d.sd%2)).n) ((H.qa (d.sd%2)).c)) Z b5 (sj (⟨H.gs,H.qa⟩:vR) (by omega)) ?_
   have d1:=(b4.le D)
   refine Xh Z d1 (Xn 2 Z (G.ef Z Z Z Z Z (Ef.iw (len:=1) [_] underlying41 uW Z (by simp[Value.cells,iD.len]) Z (by decide) (by decide) ?_)))
   intro d2 d4 fo a7 S
   refine⟨fun _=>S,?_⟩
   have b6:=(fm.le D).le S
   have a7:ik d4 d2 134 (([(iZ (oF true (jd L d).c.id (nu d)))]).map iR).flatten.toArray:=a7
   have fZ:iy d4 bP.heap.size 134 iR 61 (some ⟨d2,0,none⟩) 1 1 ([(iZ (oF true (jd L d).c.id (nu d)))]):=a7.j4 fo iD Z Z (by decide)
   have fp:=((b2.ch ad (fun q hq=>by cases hq;exact(fun h=>tu ((m.f _).2 (.inr ⟨(d.sd%2),by omega,.inr h⟩))))).le (D.trans S))
   have f0:=b6.size
   refine G.ef Z Z Z Z Z (Ef.NK (a:=(iZ (oF true (jd L d).c.id (nu d)))) underlying41 uW underlying41 iD Z fp Z a7 (by omega) (by unfold maxLen;omega) (Nat.le_trans hbase (b6).size) ?_)
   intro b7 b8 fq fs aC aN
   refine noT (by kernel_rfl) ?_
   have ft:iX w fq F:=b6.ch aC (fun i hi hlt=>(hgB _ ((m.f _).2 (.inr ⟨(d.sd%2),by omega,.inr hi⟩))).resolve_right (by omega))
   refine Xi (d.sd%2) Z (G.jR Z Z Z Z (Ef.store PW Z Z ((b5.le S).ch aC dW) (by simp[xZ.len,-List.getD_eq_getElem?_getD];omega) Z ?_))
   intro a8 b9 aD
   refine noT (by kernel_rfl) ?_
   have b9:ik a8 gt 44 (Mj (⟨H.gs,(j5 H.qa (d.sd%2) (⟨b7,((H.qa (d.sd%2)).n+1),b8⟩:kZ))⟩:vR)).toArray:=b9.cast (sZ (⟨H.gs,H.qa⟩:vR) (⟨b7,((H.qa (d.sd%2)).n+1),b8⟩:kZ) (by omega))
   have ca:iX w a8 F:=ft.ch aD (fun i hi _=>by cases hi;exact hFg)
   refine Gx (Sr ?_)
   have fu:=((((a4.ch ad (fun q hqq hF=>by cases hqq;exact(a4.jg b1 (by decide) (by decide)) hF)).le (D.trans S)).ch aC (fun q hqq hF=>(a4.kg b2 (by decide) (by decide)) q hqq hF)).ch aD (fun q hqq hF=>by cases hqq;exact(a4.jg b3 (by decide) (by decide)) hF))
   have fv:=((((a6.ch ad (fun q hqq hF=>by cases hqq;exact(a6.jg b1 (by decide) (by decide)) hF)).le (D.trans S)).ch aC (fun q hqq hF=>(a6.kg b2 (by decide) (by decide)) q hqq hF)).ch aD (fun q hqq hF=>by cases hqq;exact(a6.jg b3 (by decide) (by decide)) hF))
   have fw:=((((fl.ch ad (fun q hq=>by cases hq;exact(fun h=>tu ((m.f _).2 (.inr ⟨(1-(d.sd%2)),by omega,.inr h⟩))))).le (D.trans S)).ch aC (fun q N O=>m.sq (d.sd%2) (by omega) q N O)).ch aD (fun q hq=>by cases hq;exact fe))
   have _:=S.size
   have fx:=(fs.ch aD (fun q hq=>by cases hq;exact(aN.off (by have:=b5.lt;omega) dW)))
   have _:=ac.size
   have _:=ad.size
   have _:=D.size
   have _:=aC.size
   have _:=aD.size
   obtain⟨aO,cc,fy,cd⟩:=m.tell (i:=(1-(d.sd%2))) (o:=(d.sd%2)) (q:=(⟨b7,((H.qa (d.sd%2)).n+1),b8⟩:kZ)) (by omega) (by omega) b9 fu fv (fun q h=>(a5 q h).imp_right (fun h=>by omega)) fw fx (fun q h=>(aN q h).imp_right (fun h=>by omega))
   have cc:Au a8 base gt aO (I5 (runT (I5 t (d.sd%2) L (jd L d)) 60) (1-(d.sd%2)) (ll L (d.sd%2) (jd L d)) (oF true (jd L d).c.id (nu d))):=by have q:=cc;unfold I5;rw[show 1-(1-d.sd%2)=d.sd%2 by omega];exact q
   have d5:∀q,aO q->F q\/w.heap.size<=q:=fun q h=>(fy q h).elim (hgB q) (fun h=> .inr (by have:=Js;omega))
   have aes:¬aO y:=fun h=>(cd _ h).elim (fun h=>((Ne.symm Vi) h)) (fun h=>h.elim (fun h=>fh h) (fun h=>h.elim (fun h=>(fun h=>xC ((m.f _).2 (.inr ⟨(d.sd%2),by omega,.inl h⟩))) h) (fun h=>h.elim (fun h=>(fun h=>xC ((m.f _).2 (.inr ⟨(1-(d.sd%2)),by omega,.inr h⟩))) h) (fun h=>(aN.off (by have:=fg.lt;omega) (fun h=>xC ((m.f _).2 (.inr ⟨(d.sd%2),by omega,.inr h⟩)))) h))))
   have agU:¬aO I:=fun h=>(cd _ h).elim (fun h=>((Ne.symm Zk) h)) (fun h=>h.elim (fun h=>fj h) (fun h=>h.elim (fun h=>(fun h=>zD ((m.f _).2 (.inr ⟨(d.sd%2),by omega,.inl h⟩))) h) (fun h=>h.elim (fun h=>(fun h=>zD ((m.f _).2 (.inr ⟨(1-(d.sd%2)),by omega,.inr h⟩))) h) (fun h=>(aN.off (by have:=fi.lt;omega) (fun h=>zD ((m.f _).2 (.inr ⟨(d.sd%2),by omega,.inr h⟩)))) h))))
   have aet:¬aO Q:=fun h=>(cd _ h).elim (fun h=>((Ne.symm KF) h)) (fun h=>h.elim (fun h=>fk h) (fun h=>h.elim (fun h=>(fun h=>tu ((m.f _).2 (.inr ⟨(d.sd%2),by omega,.inl h⟩))) h) (fun h=>h.elim (fun h=>(fun h=>tu ((m.f _).2 (.inr ⟨(1-(d.sd%2)),by omega,.inr h⟩))) h) (fun h=>(aN.off (by have:=d1.lt;omega) (fun h=>tu ((m.f _).2 (.inr ⟨(d.sd%2),by omega,.inr h⟩)))) h))))
   have bY:=ca.size
   refine Yn 1 Z ?_
   have aE:=uA.rest (run_end hC.k hC.ok (by omega) ax aF (by omega) (by omega) (by rw[zA (by omega)];omega) hop true (nu d) (fun h=>by cases h)) (dr true (fun h=>by cases h)).2
   refine Yd Z (Mk a8 cc aE.1 (hT.chF ca (fun q h=>hS.old h) hb4) hb4 aE.2.1 aE.2.2.1 aE.2.2.2.1 aE.2.2.2.2.1 aE.2.2.2.2.2.1) ?_
   rintro _ f1 ⟨f3,rfl,fz,fA,fB⟩
   refine Yy 1 Z Z Z ?_
   exact⟨_,_,_,rfl,fz,(by rw[rE hp,if_neg (show¬d.dd%3=2 by omega)];unfold Ve;rw[show decide (d.dd%3=1)=true from dT (by omega)];exact aE.2.2.2.2.2.2),(by omega),(fun q h=>(fA q h).elim (d5 q) (fun h=> .inr (by have:=bY;omega))),(ca.sub fB (fun i hi hlt=>((d5 _ hi).resolve_right (by omega))))⟩
  refine Cn Z (dF c3) (Rn 2 Z (Cy Z (dT (by omega)) (Rn 1 Z (Rt (E.jc (E.il (E.iC Z Z ?_)))))))
  exact⟨_,_,_,rfl,(aI.le ay),(by rw[rE hp,if_pos (show d.dd%3=2 by omega)];exact ax),(by omega),hgB,bH⟩
 refine Yq 2 Z (dT (by rw[if_neg hp];decide)) (Nx (Ct Z (Sr ?_)))
 have pzA:=dk;rw[if_neg hp]at pzA
 have bzA:=bp;rw[if_neg hp]at bzA
 obtain⟨ce,fC,fD,d7⟩:=e.idle (i:=(d.sd%2)) (by omega) dj pzA dm (fun q h=>(gA q h).imp_right (fun h=>by have:=bn;omega)) dn dp
 have fE:∀q,ce q->F q\/w.heap.size<=q:=fun q h=>(fD q h).elim (hgr q) (fun h=> .inr (by have:=Js;omega))
 have aeu:¬ce y:=fun h=>(d7 _ h).elim (fun h=>((Ne.symm Ei) h)) (fun h=>h.elim (fun h=>(pzA.jg bo (by decide) (by decide)) h) (fun h=>h.elim (fun h=>(fun h=>nY ((e.f _).2 (.inr ⟨(1-(d.sd%2)),by omega,.inl h⟩))) h) (fun h=>h.elim (fun h=>(fun h=>nY ((e.f _).2 (.inr ⟨(d.sd%2),by omega,.inr h⟩))) h) (fun h=>(fun h=>nY ((e.f _).2 (.inr ⟨(1-(d.sd%2)),by omega,.inr h⟩))) h))))
 have agV:¬ce I:=fun h=>(d7 _ h).elim (fun h=>((show I≠gt from by have:=e.b.lt;omega) h)) (fun h=>h.elim (fun h=>(pzA.jg bp (by decide) (by decide)) h) (fun h=>h.elim (fun h=>(fun hF=>by have:=(e.s (1-(d.sd%2)) (by omega)).lt hF;have:=dq;omega) h) (fun h=>h.elim (fun h=>(fun he=>by have:=((e.q (d.sd%2) (by omega)).row he).2;omega) h) (fun h=>(fun he=>by have:=((e.q (1-(d.sd%2)) (by omega)).row he).2;omega) h))))
 refine Yx 1 Z (Rt (E.il (E.iC Z Z ?_)))
 exact⟨_,_,n,rfl,fC,(by rw[Dh hp];exact hQ),(by omega),fE,di⟩
theorem Di:kM vz 102:=⟨fun p=>by simp[vz,jV],fun x v hv=>by
 unfold vz at hv
 rcases List.mem_append.1 hv with hv|hv
 ·rcases List.mem_append.1 hv with hv|hv
  ·exact(List.mem_append.1 hv).elim (zV _ v) (zV _ v)
  ·simp only[List.mem_cons,List.not_mem_nil,or_false]at hv;rcases hv with rfl|rfl|rfl|rfl|rfl|rfl<;>rfl
 ·exact zV _ v hv,by decide⟩
def agW (p:CW):CW:={p with oa:=none,on:=0,oc:=0}
theorem I8 {Ai Ao:Option Addr}{ni ci wY co:Nat}{note:Int}{ins:List Qo}{zY:List UJ}{os:List uG}(w:World)(hI:Vec w Qp 36 Ai ni ins)(hO:Vec w XQ 2 Ao wY zY)(hU:zo w 0 zY os)(hnt:note<=9223372036854775807):Calls prog 29 #[.agg (mD kt).toArray,.agg #[.slice Ai ni ci,.slice Ao wY co,J (note)]] w fun r w'=>r= .returned (.agg (sS (nR kt.f (nG ins os note))).toArray)/\Le w w':=by
 have hIl:=hI.1
 have hOl:=hO.1
 have hUl:=hU.1
 refine En func29 Z (Sr (Yv Z fun o s L (t:ik s o 70 (mD kt).toArray) u=>Yv Z fun x y N (A:ik y x 113 #[.slice Ai ni ci,.slice Ao wY co,J (note)]) l=>?_))
 have m:=((Le.refl w).trans u).trans l
 refine Yz Z z75 fun n B C (D:ik B n 75 (sS iY).toArray) e=>Nx (Sq (WC.draw [0,1,2,3,4,5] mixed (by kernel_rfl) fun F c=>?_))
 have d:=(m.trans e).trans c
 refine Xn 1 Z (Xk (.int .u64 (kt.f:Int)) Z (t.le (l.trans (e.trans c))) Z (Xh Z (A.le (e.trans c)) (Xc Z (ve (ci:=ci) (co:=co) (note:=note) F (hI.le d) (hO.le d) (hU.le d) (by omega)) fun H i=>Xc Z (by have q:=CK kt.f (nG ins os note) (l5 _ _ _) H;rw[<-kF (l5 _ _ _)]at q;exact q) fun O j=>?_)))
 refine Xw Z (D.le (c.trans (i.trans j))) (qQ.one (nR kt.f (nG ins os note))) ?_
 intro I k K
 refine noT (by kernel_rfl) ?_
 have k:ik I n 75 (sS (nR kt.f (nG ins os note))).toArray:=k
 refine Gx (Re Z (lV Z k TS (by rfl)) ?_)
 exact⟨rfl,(((d.trans i).trans j).tb K m C)⟩
theorem Zl (p:CW){C:Cx}(w:World)(hp:vO p)(ZG:C=CB p)(xz:¬C.Zc):Calls prog 5 #[.agg (vz p).toArray] w fun r w'=>r= .returned (.tuple #[.pointer none,.bool false])/\Le w w':=by
 have hB:=Zh hp;rw[<-ZG]at hB
 refine En func5 Z ?_
 have D:=Le.refl w
 refine Sr (Yv Z fun F aq X (ar:ik aq F 29 (vz p).toArray) au=>Yx 2 Z (Rr 1 Z (W.jR Z Z (Ef.store afe Z Z ar (by first|decide|(simp;done)|simp[Di.len]) Z ?_))))
 intro av H aw
 have H:ik av F 29 (vz (agW p)).toArray:=H
 refine Nx (Rr 1 Z (W.jR Z Z (Ef.store adq Z Z H (by first|decide|(simp;done)|simp[Di.len]) Z ?_)))
 intro Y I ax
 have I:ik Y F 29 (vz (Pb p)).toArray:=I
 refine Nx (Sr (Yh Z I (Yc Z (OY ZG hp Y) fun aX ay=>?_)))
 have L4:=(((D.trans au).tb aw D X).tb ax D X).trans ay
 refine Yn 1 Z (Wa (.extract (v:= .agg (mU C.ch).toArray) Z Z) Z (Wa (.extract (v:= .agg (pG (C.kt 0,C.kt 1)).toArray) Z Z) Z (Wa (.extract (v:= .agg #[J 0,J C.h0,J C.h1,.slice none 0 0,J (C.rt)]) Z Z) Z (Yz Z z68 ?_))))
 intro aa az aA e aB
 have L5:=L4.trans aB
 have e:ik az aa 68 #[jf (jh.id.1.getD 0 0),jf (jh.id.1.getD 1 0),jf (jh.id.1.getD 2 0),jf (jh.id.1.getD 3 0),jf (jh.id.1.getD 4 0),jf (jh.id.1.getD 5 0),jf (jh.id.1.getD 6 0),jf (jh.id.1.getD 7 0),jf (jh.id.1.getD 8 0),jf (jh.id.1.getD 9 0),jf (jh.id.1.getD 10 0),jf (jh.id.1.getD 11 0),jf (jh.id.1.getD 12 0),jf (jh.id.1.getD 13 0),jf (jh.id.1.getD 14 0),jf (jh.id.1.getD 15 0),jf (jh.id.1.getD 16 0),jf (jh.id.1.getD 17 0),jf (jh.id.1.getD 18 0),jf (jh.id.1.getD 19 0),jf (jh.id.1.getD 20 0),jf (jh.id.1.getD 21 0),jf (jh.id.1.getD 22 0),jf (jh.id.1.getD 23 0),jf (jh.id.1.getD 24 0),jf (jh.id.1.getD 25 0),jf (jh.id.1.getD 26 0),jf (jh.id.1.getD 27 0),jf (jh.id.1.getD 28 0),jf (jh.id.1.getD 29 0),jf (jh.id.1.getD 30 0),jf (jh.id.1.getD 31 0),J jh.no,J 0,.int .u64 (je.f:Int),.int .u64 (je.p:Int),.int .u64 (je.l:Int),.int .u64 (je.c:Int),.int .u64 (je.r:Int),.int .u64 (je.f:Int),.int .u64 (je.p:Int),.int .u64 (je.l:Int),.int .u64 (je.c:Int),.int .u64 (je.r:Int),J 0,J 0,J 0,J 0,J 0,J 0,J 0,J 0,J 0,J 0,J 0,J 0,J (0)]:=e
 refine Yz Z z105 fun ac aC aD (K:ik aC ac 105 (pG (CP,CP)).toArray) n=>?_
 have L6:=L5.trans n
 refine Yz Z z38 fun ad aE aF (aG:ik aE ad 38 #[J 0,J 0,J 0,.slice none 0 0,J (0)]) L=>Yw Z (e.le (n.trans L)) (IU.one C.ch) ?_
 intro aH N O
 have N:ik aH aa 68 (mU C.ch).toArray:=N
 have _:=e.lt
 have aI:=((K.le L).cn O (by omega))
 refine Yw Z aI (qx.one (C.kt 0,C.kt 1)) ?_
 intro aJ P Q
 have P:ik aJ ac 105 (pG (C.kt 0,C.kt 1)).toArray:=P
 have _:=n.size
 have _:=K.lt
 refine Yw Z ((aG.cn O (by omega)).cn Q (by omega)) (wN Z) ?_
 intro aK R S
 have R:ik aK ad 38 #[J 0,J C.h0,J C.h1,.slice none 0 0,J (C.rt)]:=R
 refine Nx (Sr (Wa (.iF [.pointer none,.pointer none,.slice none 0 0,.slice none 0 0] age z44 Z Z) Z (Yv Z fun aY aL aZ a0 o=>Yx 1 Z (Sq (Rn 1 Z (Bk (WC.rounds 3 (uo.step ?_))))))))
 refine Sq (Sr (Yq 2 Z (show _=true from by first|decide|rfl) (Nx (Ct Z (Nb (Rr 1 Z (Yj 0 Z ?_)))))))
 have ae:=((P.cn S (by omega)).le o)
 refine Yb (mD ((C.kt 0,C.kt 1).1)) Z ae Z (Yc Z (ui (C.kt 0) 0 (hB.ok.l _ (by decide)) (by omega) aL) fun aM t=>Yx 5 Z (Rr 1 Z (Wa (.as (.sub Z Z (by decide)) Z) Z (Yj 1 Z ?_))))
 have af:=(ae.le t)
 refine Yb (mD ((C.kt 0,C.kt 1).2)) Z af Z (Yc Z (ui (C.kt 1) 0 (hB.ok.l _ (by decide)) (by omega) aM) fun aN u=>Yx 5 Z (Rr 1 Z (Wa (.as (.sub Z Z (by decide)) Z) Z (Yj 1 Z ?_))))
 have ah:=(af.le u)
 refine Yb (mD ((C.kt 0,C.kt 1).2)) Z ah Z (Yc Z (ui (C.kt 1) 1 (hB.ok.l _ (by decide)) (by omega) aN) fun aO x=>Yx 5 Z (Sr ?_))
 have ai:=(((N.cn Q (by omega)).cn S (by omega)).le (o.trans (t.trans (u.trans x))))
 refine Yh Z ai ?_
 have aj:=(R.le (o.trans (t.trans (u.trans x))))
 refine Yh Z aj (Yn 2 Z (Yd Z (uI C.ch 0 (lW (C.kt 0).ch 0) (s:=(⟨0,C.h0,C.h1,[],C.rt⟩:ny)) aO (Vec.nil _ _ _ _) hB.rs hB.k.ch (by decide) (jC _) (nD _) (Nat.zero_le _)) ?_))
 rintro _ a1 ⟨U,y,V,m,A,ak,al,rfl,aP,⟨a2,aQ,aR⟩,B⟩
 refine Yn 1 Z (Wa (.extract (v:= .agg #[.slice U 1 y,.slice V m A,J (2*0+((0:Nat):Int)),.slice ak m al]) Z Z) Z (Yn 1 Z (W.ab Z z116 H8 (wN Z) fun aS aT a3 (aU:ik aT aS 116 #[.slice U 1 y,.slice V m A,J (2*0+((0:Nat):Int)),.slice ak m al]) j=>Yx 1 Z (Sq (WC.draw [0,1,2,3,4,5,6,7,8,9,10,11,12,13,14,15,16,17,18,19,20,21] mixed (by kernel_rfl) ?_)))))
 intro aV d
 refine Xh Z (ai.le (B.trans (j.trans d))) (Xn 1 Z (Xj 0 Z ?_))
 have an:=(ah.le (x.trans (B.trans (j.trans d))))
 refine Xb (mD ((C.kt 0,C.kt 1).1)) Z an Z (Xn 1 Z (Xh Z (aj.le (B.trans (j.trans d))) (Xn 2 Z (Ga Z (.kU (cells:=(ZE ((lW (C.kt 1).ch 0,lW (C.kt 1).ch 1):Nat×Nat)).toArray) underlying76 Cs z76 Z Z) (Xn 1 Z (Ga Z (.as (.sub Z Z (by decide)) Z) (Xj 1 Z (Xb (mD ((C.kt 0,C.kt 1).2)) Z an Z (Xn 1 Z ?_)))))))))
 refine Xb [.slice U 1 y,.slice V m A,J (2*0+((0:Nat):Int))] Z (aU.le d) Z (Xc Z (I8 (kt:=(C.kt 1)) (ci:=y) (co:=A) (note:=(2*0+((0:Nat):Int))) aV (aP.le (j.trans d)).vec (aQ.le (j.trans d)).vec (aR.le (j.trans d)).weak (by omega)) fun aW ao=>Xc Z (OT (C.kt (1-0)).ch aW (hB.sd (i:=0) (by decide)) (hB.ZF 0 (by decide)) ⟨jC _,nD _⟩ ⟨jC _,nD _⟩ xz) fun a4 ap=>Xx 5 Z (Sq (Sr (Yq 2 Z (show _=true from by first|decide|rfl) (Yx 4 Z (Ct Z (Rn 2 Z ?_)))))))
 refine Rt (E.il (E.jc (E.il (E.il (E.jc (E.il (E.lD Z Z Z ?_)))))))
 exact⟨rfl,(((((((((((((L6.trans L).tb O L4 aA).tb Q L5 aD).tb S L6 aF).trans o).trans t).trans u).trans x).trans B).trans j).trans d).trans ao).trans ap)⟩
theorem Zm (p:CW){C:Cx}(w:World)(hp:vO p)(ZG:C=CB p)(xz:C.Zc):Calls prog 5 #[.agg (vz p).toArray] w fun r w'=>∃gt F t,r= .returned (.tuple #[.pointer (some ⟨gt,0,none⟩),.bool true])/\Au w' w.heap.size gt F t/\Qt C 0 oO t/\Le w w':=by
 have hB:=Zh hp;rw[<-ZG]at hB
 refine En func5 Z ?_
 have L0:=Le.refl w
 refine Sr (Yv Z fun aj bd aD (be:ik bd aj 29 (vz p).toArray) aE=>Yx 2 Z (Rr 1 Z (W.jR Z Z (Ef.store afe Z Z be (by first|decide|(simp;done)|simp[Di.len]) Z ?_))))
 intro bf ak aF
 have ak:ik bf aj 29 (vz (agW p)).toArray:=ak
 refine Nx (Rr 1 Z (W.jR Z Z (Ef.store adq Z Z ak (by first|decide|(simp;done)|simp[Di.len]) Z ?_)))
 intro aG al aH
 have al:ik aG aj 29 (vz (Pb p)).toArray:=al
 refine Nx (Sr (Yh Z al (Yc Z (OY ZG hp aG) fun bU aI=>?_)))
 have L4:=(((L0.trans aE).tb aF L0 aD).tb aH L0 aD).trans aI
 refine Yn 1 Z (Wa (.extract (v:= .agg (mU C.ch).toArray) Z Z) Z (Wa (.extract (v:= .agg (pG (C.kt 0,C.kt 1)).toArray) Z Z) Z (Wa (.extract (v:= .agg #[J 0,J C.h0,J C.h1,.slice none 0 0,J (C.rt)]) Z Z) Z (Yz Z z68 ?_))))
 intro aJ bg bh m aK
 have L5:=L4.trans aK
 have m:ik bg aJ 68 #[jf (jh.id.1.getD 0 0),jf (jh.id.1.getD 1 0),jf (jh.id.1.getD 2 0),jf (jh.id.1.getD 3 0),jf (jh.id.1.getD 4 0),jf (jh.id.1.getD 5 0),jf (jh.id.1.getD 6 0),jf (jh.id.1.getD 7 0),jf (jh.id.1.getD 8 0),jf (jh.id.1.getD 9 0),jf (jh.id.1.getD 10 0),jf (jh.id.1.getD 11 0),jf (jh.id.1.getD 12 0),jf (jh.id.1.getD 13 0),jf (jh.id.1.getD 14 0),jf (jh.id.1.getD 15 0),jf (jh.id.1.getD 16 0),jf (jh.id.1.getD 17 0),jf (jh.id.1.getD 18 0),jf (jh.id.1.getD 19 0),jf (jh.id.1.getD 20 0),jf (jh.id.1.getD 21 0),jf (jh.id.1.getD 22 0),jf (jh.id.1.getD 23 0),jf (jh.id.1.getD 24 0),jf (jh.id.1.getD 25 0),jf (jh.id.1.getD 26 0),jf (jh.id.1.getD 27 0),jf (jh.id.1.getD 28 0),jf (jh.id.1.getD 29 0),jf (jh.id.1.getD 30 0),jf (jh.id.1.getD 31 0),J jh.no,J 0,.int .u64 (je.f:Int),.int .u64 (je.p:Int),.int .u64 (je.l:Int),.int .u64 (je.c:Int),.int .u64 (je.r:Int),.int .u64 (je.f:Int),.int .u64 (je.p:Int),.int .u64 (je.l:Int),.int .u64 (je.c:Int),.int .u64 (je.r:Int),J 0,J 0,J 0,J 0,J 0,J 0,J 0,J 0,J 0,J 0,J 0,J 0,J (0)]:=m
 refine Yz Z z105 fun aL bi bj (an:ik bi aL 105 (pG (CP,CP)).toArray) N=>?_
 have L6:=L5.trans N
 refine Yz Z z38 fun aM bk bl (bm:ik bk aM 38 #[J 0,J 0,J 0,.slice none 0 0,J (0)]) V=>Yw Z (m.le (N.trans V)) (IU.one C.ch) ?_
 intro bn X Y
 have X:ik bn aJ 68 (mU C.ch).toArray:=X
 have _:=m.lt
 have bo:=((an.le V).cn Y (by omega))
 refine Yw Z bo (qx.one (C.kt 0,C.kt 1)) ?_
 intro bp aa O
 have aa:ik bp aL 105 (pG (C.kt 0,C.kt 1)).toArray:=aa
 have _:=N.size
 have _:=an.lt
 refine Yw Z ((bm.cn Y (by omega)).cn O (by omega)) (wN Z) ?_
 intro bq ac B
 have ac:ik bq aM 38 #[J 0,J C.h0,J C.h1,.slice none 0 0,J (C.rt)]:=ac
 have ao:=(((L6.trans V).tb Y L4 bh).tb O L5 bj).tb B L6 bl
 refine Nx (Sr (Wa (.iF [.pointer none,.pointer none,.slice none 0 0,.slice none 0 0] age z44 Z Z) Z (Yv Z fun ap aN aq (bs:ik aN ap 44 #[.pointer none,.pointer none,.slice none 0 0,.slice none 0 0]) P=>Yx 1 Z (Sq (Rn 1 Z (Bk (WC.rounds 3 (uo.step ?_))))))))
 refine Sq (Sr (Yq 2 Z (show _=true from by first|decide|rfl) (Nx (Ct Z (Nb (Rr 1 Z (Yj 0 Z ?_)))))))
 have aO:=((aa.cn B (by omega)).le P)
 refine Yb (mD ((C.kt 0,C.kt 1).1)) Z aO Z (Yc Z (ui (C.kt 0) 0 (hB.ok.l _ (by decide)) (by omega) aN) fun bt D=>Yx 5 Z (Rr 1 Z (Wa (.as (.sub Z Z (by decide)) Z) Z (Yj 1 Z ?_))))
 have aP:=(aO.le D)
 refine Yb (mD ((C.kt 0,C.kt 1).2)) Z aP Z (Yc Z (ui (C.kt 1) 0 (hB.ok.l _ (by decide)) (by omega) bt) fun bu H=>Yx 5 Z (Rr 1 Z (Wa (.as (.sub Z Z (by decide)) Z) Z (Yj 1 Z ?_))))
 have aQ:=(aP.le H)
 refine Yb (mD ((C.kt 0,C.kt 1).2)) Z aQ Z (Yc Z (ui (C.kt 1) 1 (hB.ok.l _ (by decide)) (by omega) bu) fun bv I=>Yx 5 Z (Sr ?_))
 have aR:=(((X.cn O (by omega)).cn B (by omega)).le (P.trans (D.trans (H.trans I))))
 refine Yh Z aR ?_
 have aS:=(ac.le (P.trans (D.trans (H.trans I))))
 refine Yh Z aS (Yn 2 Z (Yd Z (uI C.ch 0 (lW (C.kt 0).ch 0) (s:=(⟨0,C.h0,C.h1,[],C.rt⟩:ny)) bv (Vec.nil _ _ _ _) hB.rs hB.k.ch (by decide) (jC _) (nD _) (Nat.zero_le _)) ?_))
 rintro _ bV ⟨ar,ad,au,Q,ae,aT,aU,rfl,bw,⟨bW,bx,bz⟩,K⟩
 refine Yn 1 Z (Wa (.extract (v:= .agg #[.slice ar 1 ad,.slice au Q ae,J (2*0+((0:Nat):Int)),.slice aT Q aU]) Z Z) Z (Yn 1 Z (W.ab Z z116 H8 (wN Z) fun bA bB bX (bC:ik bB bA 116 #[.slice ar 1 ad,.slice au Q ae,J (2*0+((0:Nat):Int)),.slice aT Q aU]) j=>Yx 1 Z (Sq (WC.draw [0,1,2,3,4,5,6,7,8,9,10,11,12,13,14,15,16,17,18,19,20,21] mixed (by kernel_rfl) ?_)))))
 intro av d
 have aV:=(aR.le (K.trans (j.trans d)))
 refine Xh Z aV (Xn 1 Z (Xj 0 Z ?_))
 have aw:=(aQ.le (I.trans (K.trans (j.trans d))))
 refine Xb (mD ((C.kt 0,C.kt 1).1)) Z aw Z (Xn 1 Z ?_)
 have aW:=(aS.le (K.trans (j.trans d)))
 refine Xh Z aW (Xn 2 Z (Ga Z (.kU (cells:=(ZE ((lW (C.kt 1).ch 0,lW (C.kt 1).ch 1):Nat×Nat)).toArray) underlying76 Cs z76 Z Z) (Xn 1 Z (Ga Z (.as (.sub Z Z (by decide)) Z) (Xj 1 Z (Xb (mD ((C.kt 0,C.kt 1).2)) Z aw Z (Xn 1 Z (Xb [.slice ar 1 ad,.slice au Q ae,J (2*0+((0:Nat):Int))] Z (bC.le d) Z (Xc Z (I8 (kt:=(C.kt 1)) (ci:=ad) (co:=ae) (note:=(2*0+((0:Nat):Int))) av (bw.le (j.trans d)).vec (bx.le (j.trans d)).vec (bz.le (j.trans d)).weak (by omega)) fun bD n=>?_)))))))))
 have aX:=(((((((ao.trans P).trans D).trans H).trans I).trans K).trans j).trans d).trans n
 refine Xd Z (Fq (C.kt (1-0)).ch bD (hB.sd (i:=0) (by decide)) (hB.ZF 0 (by decide)) ⟨jC _,nD _⟩ ⟨jC _,nD _⟩ xz (hB.ok.l (1-0) (by decide)) (hB.sr (i:=0) (by decide)) (hB.sg (i:=0) (by decide))) ?_
 rintro _ bY ⟨aY,bE,rfl,ax,o⟩
 refine⟨fun _=>o,?_⟩
 refine Xx 5 Z (Sq (Sr (Yq 2 Z (show _=false from by first|decide|rfl) (Yn 2 Z (Wg (Any.rd (.dec (.Lc (by kernel_rfl) Z) Z) _) Z (Yx 1 Z (Cf Z (Sn (Rg ?_)))))))))
 refine Yn 5 Z (Yi 0 Z ?_)
 have ay:=(bs.le (D.trans (H.trans (I.trans (K.trans (j.trans (d.trans (n.trans o))))))))
 refine W.jR Z Z (Ef.store adr Z Z ay (by first|decide|(simp;done)) Z ?_)
 intro aZ az L
 have az:ik aZ ap 44 #[.pointer (some ⟨aY,0,none⟩),.pointer none,.slice none 0 0,.slice none 0 0]:=az
 refine W.nil (E.jD (E.iM (Rg (Yn 1 Z (Wa (.as (.add Z Z (by decide)) Z) Z (Yn 1 Z (W.nil (E.round (uo.step ?_)))))))))
 refine Sq (Sr (Yq 2 Z (show _=true from by first|decide|rfl) (Nx (Ct Z (Nb (Rr 1 Z (Yj 1 Z ?_)))))))
 have _:=B.size
 have a0:=((aw.le (n.trans o)).cn L (by have:=aa.lt;omega))
 refine Yb (mD ((C.kt 0,C.kt 1).2)) Z a0 Z (Yc Z (ui (C.kt 1) 0 (hB.ok.l _ (by decide)) (by omega) aZ) fun bF u=>Yx 5 Z (Rr 1 Z (Wa (.as (.sub Z Z (by decide)) Z) Z (Yj 0 Z ?_))))
 have a1:=(a0.le u)
 refine Yb (mD ((C.kt 0,C.kt 1).1)) Z a1 Z (Yc Z (ui (C.kt 0) 0 (hB.ok.l _ (by decide)) (by omega) bF) fun bG x=>Yx 5 Z (Rr 1 Z (Wa (.as (.sub Z Z (by decide)) Z) Z (Yj 0 Z ?_))))
 have a2:=(a1.le x)
 refine Yb (mD ((C.kt 0,C.kt 1).1)) Z a2 Z (Yc Z (ui (C.kt 0) 1 (hB.ok.l _ (by decide)) (by omega) bG) fun bH y=>Yx 5 Z (Sr ?_))
 have _:=O.size
 have a3:=(((aV.le (n.trans o)).cn L (by have:=X.lt;omega)).le (u.trans (x.trans y)))
 refine Yh Z a3 ?_
 have a4:=(((aW.le (n.trans o)).cn L (by have:=ac.lt;omega)).le (u.trans (x.trans y)))
 refine Yh Z a4 (Yn 2 Z (Yd Z (uI C.ch 1 (lW (C.kt 1).ch 0) (s:=(⟨0,C.h0,C.h1,[],C.rt⟩:ny)) bH (Vec.nil _ _ _ _) hB.rs hB.k.ch (by decide) (jC _) (nD _) (Nat.zero_le _)) ?_))
 rintro _ bZ ⟨aA,af,aB,R,ah,a5,a6,rfl,bI,⟨b0,bJ,bK⟩,A⟩
 refine Yn 1 Z (Wa (.extract (v:= .agg #[.slice aA 1 af,.slice aB R ah,J (2*0+((1:Nat):Int)),.slice a5 R a6]) Z Z) Z (Yn 1 Z (W.ab Z z116 H8 (wN Z) fun bL bM b1 (bN:ik bM bL 116 #[.slice aA 1 af,.slice aB R ah,J (2*0+((1:Nat):Int)),.slice a5 R a6]) e=>Yx 1 Z (Sq (WC.draw [0,1,2,3,4,5,6,7,8,9,10,11,12,13,14,15,16,17,18,19,20,21] mixed (by kernel_rfl) ?_)))))
 intro av d
 refine Xh Z (a3.le (A.trans (e.trans d))) (Xn 1 Z (Xj 1 Z ?_))
 have a7:=(a2.le (y.trans (A.trans (e.trans d))))
 refine Xb (mD ((C.kt 0,C.kt 1).2)) Z a7 Z (Xn 1 Z (Xh Z (a4.le (A.trans (e.trans d))) (Xn 2 Z (Ga Z (.kU (cells:=(ZE ((lW (C.kt 0).ch 0,lW (C.kt 0).ch 1):Nat×Nat)).toArray) underlying76 Cs z76 Z Z) (Xn 1 Z (Ga Z (.as (.sub Z Z (by decide)) Z) (Xj 0 Z (Xb (mD ((C.kt 0,C.kt 1).1)) Z a7 Z (Xn 1 Z ?_)))))))))
 refine Xb [.slice aA 1 af,.slice aB R ah,J (2*0+((1:Nat):Int))] Z (bN.le d) Z (Xc Z (I8 (kt:=(C.kt 0)) (ci:=af) (co:=ah) (note:=(2*0+((1:Nat):Int))) av (bI.le (e.trans d)).vec (bJ.le (e.trans d)).vec (bK.le (e.trans d)).weak (by omega)) fun a8 S=>?_)
 have a9:=((((((((aX.trans o).tb L ao aq).trans u).trans x).trans y).trans A).trans e).trans d).trans S
 have ba:=((ax.ch L (fun q hqq hF=>by cases hqq;exact(ax.jg ay (by decide) (by decide)) hF)).le (u.trans (x.trans (y.trans (A.trans (e.trans (d.trans S)))))))
 have bO:∀k,bE k->k<a8.heap.size:=fun k h=>(ba).lt h
 refine Xd Z (Fq (C.kt (1-1)).ch a8 (hB.sd (i:=1) (by decide)) (hB.ZF 1 (by decide)) ⟨jC _,nD _⟩ ⟨jC _,nD _⟩ xz (hB.ok.l (1-1) (by decide)) (hB.sr (i:=1) (by decide)) (hB.sg (i:=1) (by decide))) ?_
 rintro _ b2 ⟨bP,b3,rfl,bb,U⟩
 refine⟨fun _=>U,?_⟩
 refine Xx 5 Z (Sq (Sr (Yq 2 Z (show _=false from by first|decide|rfl) (Yn 2 Z (Wg (Any.rd (.dec (.Lc (by kernel_rfl) Z) Z) _) Z (Yx 1 Z (Cf Z (Sn (Rg ?_)))))))))
 refine Yn 5 Z (Yi 1 Z ?_)
 have bc:=(az.le (u.trans (x.trans (y.trans (A.trans (e.trans (d.trans (S.trans U))))))))
 refine W.jR Z Z (Ef.store adr Z Z bc (by first|decide|(simp;done)) Z ?_)
 intro bQ aC ai
 have aC:ik bQ ap 44 #[.pointer (some ⟨aY,0,none⟩),.pointer (some ⟨bP,0,none⟩),.slice none 0 0,.slice none 0 0]:=aC
 have bR:=(a9.trans U).tb ai ao aq
 refine W.nil (E.jD (E.iM (Rg (Yn 1 Z (Wa (.as (.add Z Z (by decide)) Z) Z (Yn 1 Z (W.nil (E.round (uo.step ?_)))))))))
 refine Sq (Sr (Yq 2 Z (show _=false from by first|decide|rfl) (Nx (Cf Z (Ex (Rn 3 Z (Rt ?_)))))))
 have bS:=((ba.le U).ch ai (fun q hqq hF=>by cases hqq;exact(ax.jg ay (by decide) (by decide)) hF))
 have bT:=(bb.ch ai (fun q hqq hF=>by cases hqq;exact(bb.jg bc (by decide) (by decide)) hF))
 refine E.lD Z Z Z ?_
 have _:=d.size
 obtain⟨Fz,hz⟩:=Au.new (base:=w.heap.size) (z0:=C.z 0 oO 0 qY 0 qY jO false (C.sg0 0)) (z1:=C.z 1 oO 0 qY 0 qY jO false (C.sg0 1)) aC bS bT aX.size a9.size (by have:=aE.size;have:=aF.size;have:=aH.size;have:=aI.size;have:=aK.size;have:=V.size;have:=Y.size;have:=P.size;have:=D.size;have:=H.size;have:=I.size;have:=K.size;have:=j.size;have:=n.size;have:=o.size;have:=L.size;have:=u.size;have:=x.size;have:=y.size;have:=A.size;have:=e.size;have:=S.size;have:=U.size;have:=ai.size;have:=aq;omega) bO;exact⟨_,Fz,_,rfl,hz,Qt.new,bR⟩
section
variable {C:Cx}{k n:Nat}{L:Nat->List kT}{d:KD}
theorem OZ (h:qA C L d):jo C L d (d.sd%2)=L (d.sd%2)++[jd L d]:=by
 rw[rE h]
 split
 ·exact nO
 ·rw[oG (by omega)];exact nO
theorem Vj (h:qA C L d):(jo C L d (d.sd%2)).getD (L (d.sd%2)).length iJ=jd L d:=by rw[OZ h];simp[List.getD]
theorem Dl.up (h:Dl C k L):Dl C (k+1) L:=⟨h.lg,by have:=h.ln;omega,by have:=h.ad;omega,h.rs,h.Zc⟩
theorem Dl.acS (hD:Dl C k L)(hB:SX C)(hk:k<6)(hd:zB d)(h:qA C L d):Dl C (k+1) (ll L (d.sd%2) (jd L d)):=hD.off hB.k (by omega) (by omega) h (by have:=hd.2.2.1;omega) ⟨(x8 d).1,(x8 d).2.1⟩
theorem Dl.agX (hD:Dl C k L)(hB:SX C)(hk:k<6)(hd:zB d):Dl C (k+1) (jo C L d):=by
 by_cases h:qA C L d
 ·have c:=hD.acS hB hk hd h
  rw[rE h]
  split
  ·exact c
  ·exact c.end_ hB.k (by omega) (by omega) (by have:=hD.ln;rw[zA (by omega)];omega) (Op.off hD (by omega)) _ _
 ·rw[Dh h];exact hD.up
variable {l:rP}
theorem zF (h:qE (C.at_ L 0) l)(no:Int):qE (C.at_ L no) l:=⟨h.own,h.ls,h.lost,h.get,h.held,h.all⟩
theorem abT (hD:Dl C k L)(hB:SX C)(hk:k<6)(hd:zB d)(h:qA C L d)(hR:qE (C.at_ L 0) l)(hg:jB l):(nI l 0 ((d.sd%2:Nat):Int) (jd L d).c.id (jd L d).c.am (jd L d).c.pt).2=0/\qE (C.at_ (ll L (d.sd%2) (jd L d)) 0) (nI l 0 ((d.sd%2:Nat):Int) (jd L d).c.id (jd L d).c.am (jd L d).c.pt).1:=by
 have ha:=SQ hD hB.k (by omega) (by omega) h (by have:=hd.2.2.1;omega) ⟨(x8 d).1,(x8 d).2.1⟩
 obtain⟨e,hp⟩:=Zd (am:=1+(d.am:Int)) (pt:=base (nu d)) hD (s:=d.sd%2) (by omega) 0
 have:=hR.offer hD.rs hg ha hp
 rw[<-e]at this
 exact this
theorem abU (hD:Dl C k L)(hB:SX C)(hk:k<6)(hd:zB d)(h:qA C L d)(hR:qE (C.at_ (ll L (d.sd%2) (jd L d)) 0) l)(hg:jB l):
  (d.dd%3=0->(lZ l 0 ((d.sd%2:Nat):Int) (jd L d).c.id (nu d)).2=0/\qE (C.at_ (jo C L d) 0) (lZ l 0 ((d.sd%2:Nat):Int) (jd L d).c.id (nu d)).1)/\(d.dd%3=1->(um l 0 ((d.sd%2:Nat):Int) (jd L d).c.id).2=0/\qE (C.at_ (jo C L d) 0) (um l 0 ((d.sd%2:Nat):Int) (jd L d).c.id).1):=by
 have f:=hD.acS hB hk hd h
 have ho:Op (ll L (d.sd%2) (jd L d)) (d.sd%2) (jd L d).c:=Op.off hD (by omega)
 have hf:pW (C.at_ (ll L (d.sd%2) (jd L d)) 0).cs ((d.sd%2:Nat):Int) (jd L d).c.id=some (jd L d).c:=wZ f.rs.ord (ho.cs f (by omega) 0)
 have he:∀b,C.at_ (ll (ll L (d.sd%2) (jd L d)) (1-d.sd%2) (oF b (jd L d).c.id (nu d))) 0=_:=fun b=>at_end f (by omega) ho b (nu d) 0
 constructor
 ·intro e
  have e2:jo C L d=ll (ll L (d.sd%2) (jd L d)) (1-d.sd%2) (oF false (jd L d).c.id (nu d)):=by rw[rE h,if_neg (by omega)];unfold Ve;rw[decide_eq_false (by omega)]
  have hs:=hR.settle f.rs hg (fr:=((d.sd%2:Nat):Int)) (id:=(jd L d).c.id) (by omega) (nu d)
  have i:TI (C.at_ (ll L (d.sd%2) (jd L d)) 0) ((d.sd%2:Nat):Int) (jd L d).c.id (nu d)=0:=by
   unfold TI;rw[hf];exact if_neg (fun q=>q Z)
  obtain⟨c,k1,k2⟩:=hs.2.1 i
  rw[hf]at k1
  injection k1 with k1
  subst k1
  refine⟨hs.1.trans i,?_⟩
  rw[e2,he false]
  have e3:(if(false:Bool)=true then((d.sd%2:Nat):Int)else((1-d.sd%2:Nat):Int))=1-((d.sd%2:Nat):Int):=by rw[if_neg (by decide)];omega
  rw[e3]
  exact k2
 ·intro e
  have e2:jo C L d=ll (ll L (d.sd%2) (jd L d)) (1-d.sd%2) (oF true (jd L d).c.id (nu d)):=by rw[rE h,if_neg (by omega)];unfold Ve;rw[decide_eq_true e]
  have hs:=hR.fail f.rs hg (fr:=((d.sd%2:Nat):Int)) (id:=(jd L d).c.id) (by omega)
  have i:JS (C.at_ (ll L (d.sd%2) (jd L d)) 0) ((d.sd%2:Nat):Int) (jd L d).c.id=0:=by
   unfold JS;rw[hf]
  obtain⟨c,k1,k2⟩:=hs.2.1 i
  rw[hf]at k1
  injection k1 with k1
  subst k1
  refine⟨hs.1.trans i,?_⟩
  rw[e2,he true]
  exact k2
theorem Zn (h:qA C L d)(e:d.dd%3=2)(hR:qE (C.at_ (ll L (d.sd%2) (jd L d)) 0) l):qE (C.at_ (jo C L d) 0) l:=by rw[rE h,if_pos e];exact hR
end
section
variable {w:World}{base gt n k:Nat}{F:Nat->Prop}{t:Bb}{C:Cx}{L:Nat->List kT}{d:KD}
theorem QK {g i:Nat}(h:qy w base g F (t.z i))(hQ:Qt C n L t)(hL:C.ok L)(hi:i<2):Calls prog 6 #[.pointer (some ⟨g,0,none⟩)] w fun r w'=>∃A' c',r= .returned (.agg #[J (C.at_ L (n:Int)).no,J (C.at_ L (n:Int)).h0,J (C.at_ L (n:Int)).h1,.slice A' (C.at_ L (n:Int)).cs.length c',J (C.at_ L (n:Int)).rt])/\iy w' w.heap.size 83 jl 5 A' (C.at_ L (n:Int)).cs.length c' (C.at_ L (n:Int)).cs/\Le w w':=by
 obtain⟨un,sg,e⟩:=hQ.z i hi
 rw[e]at h
 obtain⟨a,ps,hm⟩:=h
 exact U1 w hm.r (hL.z hi) (fun j hj=>Av hj L)
theorem C8.lt (h:C8 w):4<w.heap.size:=by
 have c:=h 0 (by decide)
 refine Nat.lt_of_not_le fun hle=>?_
 have:w.heap[4]? =none:=Array.getElem?_eq_none hle
 simp[World.cell?,this]at c
theorem Qt.lg (hQ:Qt C n L t){i:Nat}(hi:i<2):(t.z i).lg=L:=by
 obtain⟨un,sg,e⟩:=hQ.z i hi
 rw[e];rfl
theorem Qt.ch (hQ:Qt C n L t){i:Nat}(hi:i<2):(t.z i).ch=C.ch:=by
 obtain⟨un,sg,e⟩:=hQ.z i hi
 rw[e];rfl
theorem Dl.Zo (hD:Dl C k L){no:Nat}(hn:no<=1048576):kz C.ch.am C.ch.op (C.at_ L (no:Int)):=⟨⟨Int.natCast_nonneg _,by show(no:Int)<=1048576;omega⟩,hD.rs.Vq,hD.rs.Vr,hD.rs.Wy,hD.rs.len,hD.rs.fine,hD.rs.ord,hD.rs.tot,hD.rs.top,hD.rs.pays⟩
end
end Go.Proofs.YtkpmaajniagncaaGreatDoor
