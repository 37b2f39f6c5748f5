/- LedgerSplices: for every input the law answers true and leaves its arguments as they were. -/
import Derived.Test.YtcaehidaejhdfaaGreatLedgerSplicesO
set_option linter.unusedVariables false
set_option linter.unusedSimpArgs false
namespace Go.Proofs.YtcaehidaejhdfaaGreat
open Tryz
open Go Go.Sx Go.wI Go.Num Go.Ac Go.rZ Go.Lsp Go.Fv Go.Dk
set_option maxRecDepth 20000
def uJ (l:List pY)(k:Nat):Prop:=∀i,k<=i->(l.getD i jP).sA=none/\(l.getD i jP).sN=0/\(l.getD i jP).sC=0
theorem GJ:uJ [] 0:=fun i _=>⟨rfl,rfl,rfl⟩
theorem xh {l:List pY}{x:pY}(h:uJ l 0)(hx:x.sA=none/\x.sN=0/\x.sC=0):uJ (l++[x]) 0:=fun i _=>by
  rcases Nat.lt_trichotomy i l.length with q|q|q
  · rw[Bw q];exact h i (Nat.zero_le _)
  · subst q;rw[Bz];exact hx
  · rw[show(l++[x]).getD i jP=jP by simp[List.getD];rw[List.getElem?_eq_none (by simp;omega)];rfl];exact⟨rfl,rfl,rfl⟩
theorem CF {l:List pY}{k:Nat}{x:pY}(h:uJ l (k+1)):uJ (l.set k x) (k+1):=fun i hi=>by rw[OC (by omega)];exact h i hi
theorem Rs {l:List pY}{k:Nat}(h:uJ l k):uJ l (k+1):=fun i hi=>h i (by omega)
set_option maxHeartbeats 4000000 in
theorem OE {A:Option Addr} {n c:Nat} {xs:List (BitVec 8)} (w:World) (hV:Vec w kL 1 A n xs) (hn:n<=100000):Calls prog 35 #[.slice A n c] w fun r w'=>∃Ai ci Ao co ins rF os note ok,r= .returned (.tuple #[.agg #[.slice Ai ins.length ci,.slice Ao rF.length co,.int .i64 note],.bool ok])/\jO w' w.heap.size 111 xy 36 Ai ins.length ci ins/\jO w' w.heap.size 77 xC 2 Ao rF.length co rF/\oG w' w.heap.size rF os/\note<=9223372036854775807/\(ok=true->FN ins os note=true/\xs≠[]/\∀uP m0 tl,JY xs uP m0 tl->1<=os.length)/\Le w w':=by
 have hl:=hV.1
 refine enter func35 rfl rfl ?_
 have L0:=Le.refl w
 refine Sr (W.ef rfl rfl rfl (Ef.jR z61 fun f fH aq (aL:jL fH f 61 #[.slice none 0 0,.slice none 0 0,.int .i64 (0)]) cL=>?_))
 have L1:=L0.trans cL
 refine Wn 1 rfl (Nx (Sr (W.ef rfl rfl rfl (Ef.jR z61 fun l aM bG (aN:jL aM l 61 #[.slice none 0 0,.slice none 0 0,.int .i64 (0)]) a2=>?_))))
 have F:=L1.trans a2
 refine Nx (Sr (Wn 1 rfl (W.cl Yp rfl rfl (MJ aM (hV.le F) (by omega)) ?_)))
 rintro _ hG ⟨t,b,rfl,bh,ak⟩
 have L3:=F.trans ak
 refine W.ef rfl rfl rfl (Ef.alloc aaD fun d fI bi (fJ:jL fI d 170 #[.pointer none]) a3=>(W.kP rfl rfl (Ef.store XZ rfl rfl fJ (by first|decide|(simp;done)) rfl ?_)))
 intro bj a4 a5
 have a4:jL bj d 170 #[.pointer (some ⟨t,0,none⟩)]:=a4
 refine Nx (Sr (Wa (.makeFunc rfl) rfl (Wn 1 rfl (Nx (Sr (Wn 1 rfl ?_))))))
 have f6:=((bh.le a3).ch a5 (fun q hqq hF=>by cases hqq;have:=bh.lt hF;have:=bi;omega))
 refine W.ef rfl rfl rfl (Ef.D9 VK rfl rfl rfl (Iq 64 a4 (show¬b d from(fun hF=>by have:=bh.lt hF;have:=bi;omega)) f6) ?_)
 rintro _ L ⟨ad,bH,rfl,bI,bJ,a6⟩
 refine⟨_,rfl,?_⟩
 have L7:=((L3.trans a3).tb a5 L3 bi).kM a6 (fun i hi=>Nat.le_trans F.size (f6.old hi))
 have f8:=((aL.le (a2.trans (ak.trans a3))).cn a5 (by have:=aL.lt;have:=a2.size;have:=ak.size;omega))
 have f9:=((aN.le (ak.trans a3)).cn a5 (by have:=aN.lt;have:=ak.size;omega))
 have cM:=(show¬b f from(fun hF=>by have:=f6.old hF;have:=aL.lt;have:=a2.size;omega))
 have aO:=f8.kX a6 cM
 have cN:¬b f:=fun hF=>((kG bj b) _ hF).elim cM (fun hz=>by have:=f8.lt;omega)
 have cO:=(show¬b l from(fun hF=>by have:=f6.old hF;have:=aN.lt;omega))
 have ar:=f9.kX a6 cO
 have cP:¬b l:=fun hF=>((kG bj b) _ hF).elim cO (fun hz=>by have:=f9.lt;omega)
 have cQ:=(show¬b d from(fun hF=>by have:=bh.lt hF;have:=bi;omega))
 have a7:=a4.kX a6 cQ
 have bK:¬b d:=fun hF=>((kG bj b) _ hF).elim cQ (fun hz=>by have:=a4.lt;omega)
 have hH:=bI.1;have hI:=Ls 64 ad
 have Wq:∀uP m0 tl,JY xs uP m0 tl->Ae 64 ad=(uP.length:Int)/\bH=Di uP m0 tl 0:=fun uP m0 tl hb=>OD hb bI
 have hnil:xs=[]->bH.2=true:=bI.2.2.1
 refine Wn 1 rfl (Nx (Sq (Sr (Wn 2 rfl (Nx (WC.block ?_))))))
 refine WC.loop (ι:=Nat×(Option Addr)×Nat×(List pY)×(List (BitVec 8)×Bool)) (fun⟨k,Ai,ci,ri,s⟩=>[(2,.pointer (some ⟨f,0,none⟩)),(4,.pointer (some ⟨l,0,none⟩)),(5,.pointer (some ⟨d,0,none⟩)),(6,.func (.func 77) #[] #[.pointer (some ⟨d,0,none⟩)]),(7,.int .i64 (Ae 64 ad)),(20,.int .i64 (Ae 64 ad)),(21,.int .i64 ((k:Nat):Int))]) (fun⟨k,Ai,ci,ri,s⟩ K=>(k<=64)/\(uJ ri 0)/\(∀uP m0 tl,JY xs uP m0 tl->k<=uP.length/\s=Di uP m0 tl k)/\(xs=[]->s.2=true)/\Le w K/\L.heap.size<=K.heap.size/\jL K f 61 #[.slice none 0 0,.slice none 0 0,.int .i64 (0)]/\jL K l 61 #[.slice Ai k ci,.slice none 0 0,.int .i64 (0)]/\jO K L.heap.size 111 xy 36 Ai k ci ri/\jL K d 170 #[.pointer (some ⟨t,0,none⟩)]/\uK K aM.heap.size t b s) (fun⟨k,Ai,ci,ri,s⟩=>(Ae 64 ad).toNat-k) (0,none,0,[],bH) ?_ ?_ ?_
 ·exact .of rfl
 ·exact⟨Nat.zero_le _,GJ,(fun uP m0 tl hb=>⟨Nat.zero_le _,(Wq uP m0 tl hb).2⟩),hnil,L7,Nat.le_refl _,aO,ar,(jO.nil L L.heap.size 111 xy 36 none),a7,bJ⟩
 rintro⟨k,Ai,ci,ri,s⟩ K ⟨hk,hns,hbk,hnk,cR,cS,bL,bM,H,bk,bN⟩
 have cT:L.heap.size<=K.heap.size:=by omega
 refine Sr (Wn 1 rfl (Nx (Sq ?_)))
 by_cases c0:((k:Nat):Int)<(Ae 64 ad)
 ·refine Cy rfl (dT c0) (Sn (Sq (WC.block (WC.xO (fun w7 w'=>Le w w'/\jL w' l 61 #[.slice Ai k ci,.slice none 0 0,.int .i64 (0)]/\jL w' d 170 #[.pointer (some ⟨t,0,none⟩)]) [0,1,2,4,3,5,6,7,8,9,10,11] mixed (by kernel_rfl) fun w7 d7=>?_))))
  have cU:=cR.trans d7
  have bO:=(bM.le d7)
  have bP:=(bk.le d7)
  refine⟨⟨cU,bO,bP⟩,?_⟩
  refine GR.any rfl rfl (.jE qB rfl) rfl rfl rfl (GR.rd rfl rfl (fun w' hs=> .jF (v:= .slice Ai k ci) Co rfl hs.2.1 rfl) rfl rfl rfl (GR.rd rfl rfl (fun w' hs=> .jF (v:= .pointer (some ⟨t,0,none⟩)) si rfl hs.2.2 rfl) rfl rfl rfl (GR.rd rfl rfl (fun w' hs=> .jF (v:= .pointer (some ⟨t,0,none⟩)) si rfl hs.2.2 rfl) rfl rfl rfl ?_)))
  have cV:=(bN.le d7)
  refine GR.ef rfl rfl rfl rfl rfl (Ef.call aa4 rfl rfl (Uf cV) ?_)
  rintro _ hJ ⟨aP,hK,rfl,aQ,cW,cX,aE⟩
  refine⟨_,rfl,?_⟩
  have cY:=cU.kM aE (fun i hi=>Nat.le_trans F.size (cV.old hi))
  have cZ:=(bL.le d7)
  have bQ:=(H.le d7)
  have c7:=(show¬b f from cN)
  have fK:¬b f:=fun hF=>((kG w7 b) _ hF).elim c7 (fun hz=>by have:=cZ.lt;omega)
  have c8:=(show¬b l from cP)
  have c9:=bO.kX aE c8
  have fL:¬b l:=fun hF=>((kG w7 b) _ hF).elim c8 (fun hz=>by have:=bO.lt;omega)
  have da:=(show¬b d from bK)
  have db:=bP.kX aE da
  have fM:¬b d:=fun hF=>((kG w7 b) _ hF).elim da (fun hz=>by have:=bP.lt;omega)
  have dc:=(show∀g,rowOf Ai ci=some g->¬b g from(fun g hg hF=>by have:=bJ.lt hF;have:=(bQ.row hg).1;omega))
  have fN:∀g,rowOf Ai ci=some g->¬b g:=fun g hg hF=>((kG w7 b) _ hF).elim (dc g hg) (fun hz=>by have:=(bQ.row hg).2;omega)
  refine⟨fun _=>⟨cY,c9,db⟩,?_⟩
  refine GR.ef rfl rfl rfl rfl rfl (Ef.call FJ rfl rfl (xf cX) ?_)
  rintro _ fO ⟨aR,fP,rfl,bR,bS,aF⟩
  refine⟨_,rfl,?_⟩
  have dd:=cY.kM aF (fun i hi=>Nat.le_trans F.size (cX.old hi))
  have bT:=c9.kX aF (show¬b l from fL)
  have de:=db.kX aF (show¬b d from fM)
  have dg:=(bQ.kX aE dc).kX aF (show∀g,rowOf Ai ci=some g->¬b g from fN)
  have hL:=bR.1
  refine⟨fun _=>⟨dd,bT,de⟩,?_⟩
  refine GR.any rfl rfl (.kK (BX (⟨⟨aP,aQ⟩,((aR:Nat):Int)⟩:Cw)) Y1 z37 rfl rfl) rfl rfl rfl (GR.any rfl rfl (.kK (xy (⟨(⟨⟨aP,aQ⟩,((aR:Nat):Int)⟩:Cw),0,none,0,0,0⟩:pY)) Mj KM rfl rfl) rfl rfl rfl (GR.ef rfl rfl rfl rfl rfl (Ef.jX (len:=1) [_] underlying59 Bc rfl (by simp[Value.cells,kS.len]) rfl (by decide) (by decide) ?_)))
  intro dh di fQ bl au
  have dj:=dd.trans au
  have bl:jL di dh 111 (([(⟨(⟨⟨aP,aQ⟩,((aR:Nat):Int)⟩:Cw),0,none,0,0,0⟩:pY)]).map xy).flatten.toArray:=bl
  have hM:jO di fO.heap.size 111 xy 36 (some ⟨dh,0,none⟩) 1 1 ([(⟨(⟨⟨aP,aQ⟩,((aR:Nat):Int)⟩:Cw),0,none,0,0,0⟩:pY)]):=bl.pQ fQ kS rfl rfl (by decide)
  have dk:=(bT.le au)
  have dl:=(de.le au)
  refine⟨fun _=>⟨dj,dk,dl⟩,?_⟩
  have a8:=(dg.le au)
  refine GR.ef rfl rfl rfl rfl rfl (Ef.xw (a:=(⟨(⟨⟨aP,aQ⟩,((aR:Nat):Int)⟩:Cw),0,none,0,0,0⟩:pY)) underlying59 Bc underlying59 kS rfl a8 rfl bl (by omega) (by unfold maxLen;omega) (by have:=cT;have:=d7.size;have:=aE.size;have:=aF.size;have:=au.size;omega) ?_)
  intro dm dn hN dp aS hO
  refine noT (by kernel_rfl) (GR.any rfl rfl (.jE qB rfl) rfl rfl rfl ?_)
  have fR:=(dk.ch aS (a8.rl (by have:=ar.lt;omega)))
  refine GR.kP rfl rfl rfl rfl (Ef.store PZ rfl rfl fR (by first|decide|(simp;done)) rfl ?_)
  intro fS bU aT
  have bU:jL fS l 61 #[.slice dm (k+1) dn,.slice none 0 0,.int .i64 (0)]:=bU
  refine noT (by kernel_rfl) (GR.nil (E.jZ (E.jG (WC.region (Wa (.add rfl rfl (by omega)) rfl (Wn 1 rfl (W.nil ?_)))))))
  have fT:=(((((cZ.kX aE c7).kX aF (show¬b f from fK)).le au).ch aS (a8.rl (by have:=aO.lt;omega))).cn aT (by have:=aL.lt;omega))
  have fU:=(dp.cb aT (dp.rl (by have:=ar.lt;omega)))
  have fV:=((dl.ch aS (a8.rl (by have:=a7.lt;omega))).cn aT (by have:=aN.lt;have:=ak.size;omega))
  have fW:=(((bS.le au).ch aS (fun q hqq hF=>(bS.rV dg (by decide) (by decide)) q hqq hF)).ch aT (fun q hqq hF=>by cases hqq;exact(bS.qE bT (by decide) (by decide)) hF))
  refine E.again (k+1,dm,dn,(ri++[(⟨(⟨⟨aP,aQ⟩,((aR:Nat):Int)⟩:Cw),0,none,0,0,0⟩:pY)]),fP) (.of rfl) ?_ ?_
  ·exact⟨by omega,xh hns ⟨rfl,rfl,rfl⟩,(fun uP m0 tl hb=>by have e:=Wq uP m0 tl hb;have e2:=hbk uP m0 tl hb;exact⟨by omega,Wp hb (by omega) e2.2 cW bR⟩),(fun h=>bR.2.1.1 (cW.1.1 (hnk h))),((dj.kI aS (fun q hq=>Nat.le_trans L7.size (a8.row hq).1)).tb aT L1 bG),by have:=cS;have:=d7.size;have:=aE.size;have:=aF.size;have:=au.size;have:=aS.size;have:=aT.size;omega,fT,bU,fU,fV,fW⟩
  first|omega|(simp only[];omega)
 refine Cn rfl (dF c0) (WC.exit (E.jJ (E.jJ (E.ko (E.jG (Sr (Wn 1 rfl (W.ef rfl rfl rfl (Ef.D9 VK rfl rfl rfl (Iq 64 bk (show¬b d from bK) bN) ?_)))))))))
 rintro _ z ⟨ae,dq,rfl,bV,bW,aG⟩
 refine⟨_,rfl,?_⟩
 have bm:=cR.kM aG (fun i hi=>Nat.le_trans F.size (bN.old hi))
 have dr:=(show¬b f from cN)
 have bX:=bL.kX aG dr
 have ds:¬b f:=fun hF=>((kG K b) _ hF).elim dr (fun hz=>by have:=bL.lt;omega)
 have du:=(show¬b l from cP)
 have bn:=bM.kX aG du
 have dw:¬b l:=fun hF=>((kG K b) _ hF).elim du (fun hz=>by have:=bM.lt;omega)
 have dx:=(show¬b d from bK)
 have dy:=bk.kX aG dx
 have dz:¬b d:=fun hF=>((kG K b) _ hF).elim dx (fun hz=>by have:=bk.lt;omega)
 have dA:=(show∀g,rowOf Ai ci=some g->¬b g from(fun g hg hF=>by have:=bJ.lt hF;have:=(H.row hg).1;omega))
 have a9:=H.kX aG dA
 have dB:∀g,rowOf Ai ci=some g->¬b g:=fun g hg hF=>((kG K b) _ hF).elim (dA g hg) (fun hz=>by have:=(H.row hg).2;omega)
 have hP:=bV.1;have hQ:=Ls 64 ae
 refine Wn 1 rfl (Nx (Sq (Sr ?_)))
 have hbm:∀uP m0 tl,JY xs uP m0 tl->Ae 64 ae=(m0:Int):=fun uP m0 tl hb=>by have e:=Wq uP m0 tl hb;have e2:=hbk uP m0 tl hb;exact Ul hb (by omega) e2.2 bV
 have hnl:xs=[]->dq.2=true:=fun h=>bV.2.1.1 (hnk h)
 refine Wn 2 rfl (Nx (WC.block ?_))
 refine WC.loop (ι:=Nat×(Option Addr)×Nat×(List uO)×(List nC)×(List (BitVec 8)×Bool)) (fun⟨j,Ao,co,ro,os,s1⟩=>[(2,.pointer (some ⟨f,0,none⟩)),(4,.pointer (some ⟨l,0,none⟩)),(5,.pointer (some ⟨d,0,none⟩)),(6,.func (.func 77) #[] #[.pointer (some ⟨d,0,none⟩)]),(7,.int .i64 (Ae 64 ad)),(8,.int .i64 (Ae 64 ae)),(37,.int .i64 (Ae 64 ae)),(38,.int .i64 ((j:Nat):Int))]) (fun⟨j,Ao,co,ro,os,s1⟩ m=>(j<=64)/\(((j:Nat):Int)<=Ae 64 ae\/j=0)/\(xs=[]->s1.2=true)/\Le w m/\z.heap.size<=m.heap.size/\jL m f 61 #[.slice none 0 0,.slice none 0 0,.int .i64 (0)]/\jL m l 61 #[.slice Ai k ci,.slice Ao j co,.int .i64 (0)]/\jO m L.heap.size 111 xy 36 Ai k ci ri/\jO m z.heap.size 77 xC 2 Ao j co ro/\oG m z.heap.size ro os/\jL m d 170 #[.pointer (some ⟨t,0,none⟩)]/\uK m aM.heap.size t b s1) (fun⟨j,Ao,co,ro,os,s1⟩=>(Ae 64 ae).toNat-j) (0,none,0,[],[],dq) ?_ ?_ ?_
 ·exact .of rfl
 ·exact⟨Nat.zero_le _,(.inr rfl),hnl,bm,Nat.le_refl _,bX,bn,a9,(jO.nil z z.heap.size 77 xC 2 none),(oG.nil z z.heap.size),dy,bW⟩
 rintro⟨j,Ao,co,ro,os,s1⟩ m ⟨hj,hjm,hnj,dC,dD,bo,bp,bq,aU,dE,aV,aW⟩
 have fX:L.heap.size<=m.heap.size:=Nat.le_trans cT (by have:=aG.size;omega)
 have hR:z.heap.size<=m.heap.size:=by omega
 have ba:z.heap.size<=m.heap.size:=by omega
 refine Sr (Wn 1 rfl (Nx (Sq ?_)))
 by_cases c1:((j:Nat):Int)<(Ae 64 ae)
 ·refine Cy rfl (dT c1) (Sn (Sq (WC.block (Sr (Wr (.jF (v:= .pointer (some ⟨t,0,none⟩)) si rfl aV rfl) rfl (W.cl FJ rfl rfl (xf aW) ?_))))))
  rintro _ hS ⟨S,hT,rfl,dG,bY,T⟩
  have bZ:=dC.kM T (fun i hi=>Nat.le_trans F.size (aW.old hi))
  have dH:=(show¬b f from ds)
  have b0:=bo.kX T dH
  have fY:¬b f:=fun hF=>((kG m b) _ hF).elim dH (fun hz=>by have:=bo.lt;omega)
  have dI:=(show¬b l from dw)
  have b1:=bp.kX T dI
  have fZ:¬b l:=fun hF=>((kG m b) _ hF).elim dI (fun hz=>by have:=bp.lt;omega)
  have dJ:=(show¬b d from dz)
  have b2:=aV.kX T dJ
  have f0:¬b d:=fun hF=>((kG m b) _ hF).elim dJ (fun hz=>by have:=aV.lt;omega)
  have dK:=(show∀g,rowOf Ai ci=some g->¬b g from dB)
  have b3:=bq.kX T dK
  have f1:∀g,rowOf Ai ci=some g->¬b g:=fun g hg hF=>((kG m b) _ hF).elim (dK g hg) (fun hz=>by have:=(bq.row hg).2;omega)
  have dL:=(show∀g,rowOf Ao co=some g->¬b g from(fun g hg hF=>by have:=bW.lt hF;have:=(aU.row hg).1;omega))
  have b4:=aU.kX T dL
  have f2:∀g,rowOf Ao co=some g->¬b g:=fun g hg hF=>((kG m b) _ hF).elim (dL g hg) (fun hz=>by have:=(aU.row hg).2;omega)
  have hU:=dG.1
  refine Wa (.kK [.int .i64 ((S:Nat):Int),.slice none 0 0] Y3 z77 rfl rfl) rfl (W.ef rfl rfl rfl (Ef.jR z77 fun bs f3 bt (dM:jL f3 bs 77 #[.int .i64 0,.slice none 0 0]) N=>(W.sA Cq rfl rfl dM ?_)))
  intro f4 b5 O
  have b5:jL f4 bs 77 #[.int .i64 ((S:Nat):Int),.slice none 0 0]:=b5
  refine Nx (Sr ?_)
  have dN:=((b2.le N).cn O (by have:=b2.lt;omega))
  refine Wr (.jF (v:= .pointer (some ⟨t,0,none⟩)) si rfl dN rfl) rfl ?_
  have b6:=((bY.le N).ch O (fun q hqq hF=>by cases hqq;have:=bY.lt hF;have:=bt;omega))
  refine W.cl aa6 rfl rfl (Re b6) ?_
  rintro _ f5 ⟨hW,hZ,h0,f7,rfl,ga,h3,gb,bb,P⟩
  have bu:=((b0.le N).cn O (by have:=b0.lt;omega)).kX P (show¬b f from fY)
  have bv:=((b1.le N).cn O (by have:=b1.lt;omega)).kX P (show¬b l from fZ)
  have dO:=dN.kX P (show¬b d from f0)
  have b7:=((b3.le N).cb O (b3.rn (by omega))).kX P (show∀g,rowOf Ai ci=some g->¬b g from f1)
  have bw:=((b4.le N).cb O (b4.rn (by omega))).kX P (show∀g,rowOf Ao co=some g->¬b g from f2)
  have bx:=b5.kX P (show¬b bs from(fun hF=>by have:=bY.lt hF;have:=bt;omega))
  refine W.cl aa5 rfl rfl (Rh f5 ga.vec (by omega)) ?_
  rintro _ h4 ⟨al,am,an,b8,gc,rfl,bc,dP,h5,h6,u⟩
  have dQ:=(((bZ.trans N).tb O bZ bt).kM P (fun i hi=>Nat.le_trans F.size (b6.old hi))).trans u
  refine Wn 1 rfl (Wa (.extract (v:= .agg #[.slice al an.length am]) rfl rfl) rfl (Wn 1 rfl (W.ef rfl rfl rfl (Ef.jR z75 fun dR gd dS (b9:jL gd dR 75 #[.slice none 0 0]) I=>(W.sA xU rfl rfl b9 ?_)))))
  intro gf ca J
  have ca:jL gf dR 75 #[.slice al an.length am]:=ca
  have dU:=(dQ.trans I).tb J dQ dS
  refine Wn 1 rfl (Nx (Sq (Sr (Wn 2 rfl (Nx ?_)))))
  by_cases c2:gc=true
  ·refine Cn rfl (congrArg not c2) (Sn (Sr (Wr (.jK sM (by rfl) rfl ca) rfl ?_)))
   refine Wa (.jE zy rfl) rfl ?_
   have cc:=((bx.le (u.trans I)).cn J (by have:=bx.lt;have:=u.size;omega))
   refine W.kP rfl rfl (Ef.uh [.int .i64 ((S:Nat):Int),.slice al an.length am] xU (by rfl) rfl rfl cc (by show 1+1<=2;decide) (by simp[Value.oneCell']) rfl ?_)
   intro dV cd Q
   have cd:jL dV bs 77 #[.int .i64 ((S:Nat):Int),.slice al an.length am]:=cd
   refine Nx (WC.region (Wa (.jE qC rfl) rfl ?_))
   have dW:=(((bv.le (u.trans I)).cn J (by have:=bv.lt;have:=u.size;omega)).cn Q (by have:=b1.lt;omega))
   refine Wr (.jF (v:= .slice Ao j co) sW rfl dW rfl) rfl (Wr (.jK Tk (by rfl) rfl cd) rfl ?_)
   refine W.ef rfl rfl rfl (Ef.jX (len:=1) [_] underlying31 KL rfl (by simp[Value.cells,kV.len]) rfl (by decide) (by decide) ?_)
   intro dX dY gg bz R
   have bz:jL dY dX 77 (([(⟨((S:Nat):Int),al,an.length,am⟩:uO)]).map xC).flatten.toArray:=bz
   have h7:jO dY dV.heap.size 77 xC 2 (some ⟨dX,0,none⟩) 1 1 ([(⟨((S:Nat):Int),al,an.length,am⟩:uO)]):=bz.pQ gg kV rfl rfl (by decide)
   have av:=((((bw.le (u.trans I)).cb J (bw.rn (by have:=u.size;omega))).cb Q (b4.rn (by omega))).le R)
   refine W.ef rfl rfl rfl (Ef.xw (a:=(⟨((S:Nat):Int),al,an.length,am⟩:uO)) underlying31 KL underlying31 kV rfl av rfl bz (by omega) (by unfold maxLen;omega) (by have:=ba;have:=T.size;have:=N.size;have:=O.size;have:=P.size;have:=u.size;have:=I.size;have:=J.size;have:=Q.size;have:=R.size;omega) ?_)
   intro dZ d0 h8 d1 af h9
   refine Wa (.jE qC rfl) rfl ?_
   have ce:=((dW.le R).ch af (av.rl (by have:=bn.lt;omega)))
   refine W.kP rfl rfl (Ef.store Nv rfl rfl ce (by first|decide|(simp;done)) rfl ?_)
   intro gh cf ah
   have cf:jL gh l 61 #[.slice Ai k ci,.slice dZ (j+1) d0,.int .i64 (0)]:=cf
   refine W.nil (E.jZ (E.jG (WC.region ?_)))
   have gi:=((((((((((dE.MK T aW (by decide) (by decide) (by decide) (by decide)).le N).rE O dM (by decide) (by decide)).MK P b6 (by decide) (by decide) (by decide) (by decide)).le (u.trans I)).rE J b9 (by decide) (by decide)).rE Q cc (by decide) (by decide)).le R).U8 af av (by decide) (by decide)).rE ah ce (by decide) (by decide))
   have gj:=((((((bc.le I).cb J (bc.rn (by omega))).cb Q (bc.rl (by have:=bx.lt;omega))).le R).ch af (fun q B C=>by have:=(bw.row B).2;have:=(bc.row C).1;omega)).cb ah (bc.rl (by have:=bv.lt;omega)))
   have gk:=((((((dP.le I).rE J b9 (by decide)).rE Q cc (by decide)).le R).U8 af av (by decide)).rE ah ce (by decide))
   have zpu:=gi.push (o:=(⟨((S:Nat):Int),al,an.length,am⟩:uO)) (y:=⟨((S:Nat):Int),b8⟩) ⟨rfl,(show b8.length<=9223372036854775807 by have:=dP.1;omega),_,gj.mono (by have:=ba;have:=T.size;have:=N.size;have:=O.size;have:=P.size;omega),gk.mono (by have:=ba;have:=T.size;have:=N.size;have:=O.size;have:=P.size;omega)⟩
   refine Wa (.add rfl rfl (by omega)) rfl (Wn 1 rfl (W.nil ?_))
   have gl:=((((((bu.le (u.trans I)).cn J (by have:=bu.lt;have:=u.size;omega)).cn Q (by have:=b0.lt;omega)).le R).ch af (av.rl (by have:=bX.lt;omega))).cn ah (by have:=aL.lt;omega))
   have gm:=((((((b7.le (u.trans I)).cb J (b7.rn (by have:=u.size;omega))).cb Q (b3.rn (by omega))).le R).ch af (Apart.symm (fun q B C=>by have:=(a9.row B).2;have:=(av.row C).1;omega))).cb ah (b7.rl (by have:=ar.lt;omega)))
   have gn:=(d1.cb ah (d1.rl (by have:=bn.lt;omega)))
   have gp:=((((((dO.le (u.trans I)).cn J (by have:=dO.lt;have:=u.size;omega)).cn Q (by have:=b2.lt;omega)).le R).ch af (av.rl (by have:=dy.lt;omega))).cn ah (by have:=aN.lt;have:=ak.size;omega))
   have gq:=((((((bb.le (u.trans I)).ch J (fun q hqq hF=>by cases hqq;have:=bb.lt hF;have:=u.size;have:=dS;omega)).ch Q (fun q hqq hF=>by cases hqq;exact(bb.qE bx (by decide) (by decide)) hF)).le R).ch af (fun q hqq hF=>(bb.rV bw (by decide) (by decide)) q hqq hF)).ch ah (fun q hqq hF=>by cases hqq;exact(bb.qE bv (by decide) (by decide)) hF))
   refine E.again (j+1,dZ,d0,(ro++[(⟨((S:Nat):Int),al,an.length,am⟩:uO)]),(os++[⟨((S:Nat):Int),b8⟩]),f7) (.of rfl) ?_ ?_
   ·exact⟨by omega,(.inl (by omega)),(fun h=>gb.1 (dG.2.1.1 (hnj h))),((((dU.tb Q bZ bt).trans R).kI af (fun q hq=>Nat.le_trans bm.size (av.row hq).1)).tb ah L1 bG),by have:=dD;have:=T.size;have:=N.size;have:=O.size;have:=P.size;have:=u.size;have:=I.size;have:=J.size;have:=Q.size;have:=R.size;have:=af.size;have:=ah.size;omega,gl,cf,gm,gn,zpu,gp,gq⟩
   first|omega|(simp only[];omega)
  refine Cy rfl (congrArg not (Bool.eq_false_iff.2 c2)) (Sr (Wa (.kK [.slice none 0 0,.slice none 0 0,.int .i64 (0)] FK z61 rfl rfl) rfl (W.sA vZ rfl rfl ((bu.le (u.trans I)).cn J (by have:=bu.lt;have:=u.size;omega)) ?_)))
  intro gr cg gs
  have cg:jL gr f 61 #[.slice none 0 0,.slice none 0 0,.int .i64 (0)]:=cg
  refine Wn 1 rfl (Nx (Rt (E.jH (E.j4 (E.jH (E.jH (E.j4 (E.jH (E.mI rfl (lS rfl cg ql (by rfl)) rfl ?_)))))))))
  exact⟨none,0,none,0,[],[],[],0,false,rfl,jO.nil _ _ _ _ _ _,jO.nil _ _ _ _ _ _,oG.nil _ _,by omega,fun h=>absurd h (by decide),(dU.tb gs L0 aq)⟩
 refine Cn rfl (dF c1) (WC.exit (E.jJ (E.jJ (E.ko (E.jG (Sr (Wr (.jF (v:= .pointer (some ⟨t,0,none⟩)) si rfl aV rfl) rfl (W.cl FJ rfl rfl (xf aW) ?_))))))))
 rintro _ ia ⟨aX,gu,rfl,d2,d3,U⟩
 have d4:=(show¬b f from ds)
 have gv:¬b f:=fun hF=>((kG m b) _ hF).elim d4 (fun hz=>by have:=bo.lt;omega)
 have d5:=(show¬b l from dw)
 have cj:=bp.kX U d5
 have gw:¬b l:=fun hF=>((kG m b) _ hF).elim d5 (fun hz=>by have:=bp.lt;omega)
 have d6:=(show¬b d from dz)
 have gx:¬b d:=fun hF=>((kG m b) _ hF).elim d6 (fun hz=>by have:=aV.lt;omega)
 have d8:=(show∀g,rowOf Ai ci=some g->¬b g from dB)
 have d9:=bq.kX U d8
 have gy:∀g,rowOf Ai ci=some g->¬b g:=fun g hg hF=>((kG m b) _ hF).elim (d8 g hg) (fun hz=>by have:=(bq.row hg).2;omega)
 have ea:=(show∀g,rowOf Ao co=some g->¬b g from(fun g hg hF=>by have:=bW.lt hF;have:=(aU.row hg).1;omega))
 have eb:=aU.kX U ea
 have gz:∀g,rowOf Ao co=some g->¬b g:=fun g hg hF=>((kG m b) _ hF).elim (ea g hg) (fun hz=>by have:=(aU.row hg).2;omega)
 have ib:=d2.1
 refine Wa (.jE KR rfl) rfl (W.kP rfl rfl (Ef.store kz rfl rfl cj (by first|decide|(simp;done)) rfl ?_))
 intro ec bA V
 have bA:jL ec l 61 #[.slice Ai k ci,.slice Ao j co,.int .i64 ((aX:Nat):Int)]:=bA
 refine Nx (Sq (Sr (Wa (.jE qB rfl) rfl (Wr (.jF (v:= .slice Ai k ci) Co rfl bA rfl) rfl (Wr (.len underlying59 rfl) rfl (Wn 1 rfl (Nx (WC.block ?_))))))))
 have ed:=(d9.cb V (d9.rl (by have:=ar.lt;omega)))
 have gA:=(d3.ch V (fun q hqq hF=>by cases hqq;exact(d3.qE cj (by decide) (by decide)) hF))
 refine WC.loop (ι:=Nat×(List pY)×(List (BitVec 8)×Bool)) (fun⟨k2,rj,s2⟩=>[(2,.pointer (some ⟨f,0,none⟩)),(4,.pointer (some ⟨l,0,none⟩)),(5,.pointer (some ⟨d,0,none⟩)),(6,.func (.func 77) #[] #[.pointer (some ⟨d,0,none⟩)]),(7,.int .i64 (Ae 64 ad)),(8,.int .i64 (Ae 64 ae)),(66,.int .i64 ((k:Nat):Int)),(67,.int .i64 ((k2:Nat):Int))]) (fun⟨k2,rj,s2⟩ x=>(k2<=k)/\(uJ rj k2)/\(xs=[]->s2.2=true)/\(rj.length=k)/\Le w x/\ec.heap.size<=x.heap.size/\jL x f 61 #[.slice none 0 0,.slice none 0 0,.int .i64 (0)]/\jL x l 61 #[.slice Ai k ci,.slice Ao j co,.int .i64 ((aX:Nat):Int)]/\jO x L.heap.size 111 xy 36 Ai k ci rj/\jO x z.heap.size 77 xC 2 Ao j co ro/\oG x z.heap.size ro os/\jL x d 170 #[.pointer (some ⟨t,0,none⟩)]/\uK x aM.heap.size t b s2) (fun⟨k2,rj,s2⟩=>k-k2) (0,ri,gu) ?_ ?_ ?_
 ·exact .of rfl
 ·exact⟨Nat.zero_le _,hns,(fun h=>d2.2.1.1 (hnj h)),(ed).1,((dC.kM U (fun i hi=>Nat.le_trans F.size (aW.old hi))).tb V L1 bG),Nat.le_refl _,((bo.kX U d4).cn V (by have:=aL.lt;omega)),bA,ed,(eb.cb V (eb.rl (by have:=bn.lt;omega))),((dE.MK U aW (by decide) (by decide) (by decide) (by decide)).rE V cj (by decide) (by decide)),((aV.kX U d6).cn V (by have:=aN.lt;have:=ak.size;omega)),gA⟩
 rintro⟨k2,rj,s2⟩ x ⟨ic,hns,ee,hjl,bB,gB,aw,bC,ck,cm,eg,bd,be⟩
 have gC:L.heap.size<=x.heap.size:=Nat.le_trans fX (by have:=U.size;have:=V.size;omega)
 have ie:z.heap.size<=x.heap.size:=Nat.le_trans ba (by have:=U.size;have:=V.size;omega)
 have eh:z.heap.size<=x.heap.size:=Nat.le_trans ba (by have:=U.size;have:=V.size;omega)
 refine Sr (Wn 1 rfl (Nx (Sq ?_)))
 by_cases c3:((k2:Nat):Int)<((k:Nat):Int)
 ·refine Cy rfl (dT c3) (Sn (Sq (WC.block (Sr (Wn 2 rfl (Nx (Sr (Wa (.jE qB rfl) rfl (Wr (.jF (v:= .slice Ai k ci) Co rfl bC rfl) rfl (Wn 1 rfl (Wa (.lL k2 underlying59 C9 rfl rfl (H.vec.isSome kS (by omega)) rfl (by omega)) rfl ?_)))))))))))
  refine Wa (.qy yF (H.vec.isSome kS (by omega)) rfl) rfl (Wn 1 rfl (Nx (Sr (Wn 1 rfl (Wr (.jF (v:= .pointer (some ⟨t,0,none⟩)) si rfl bd rfl) rfl (W.cl FJ rfl rfl (xf be) ?_))))))
  rintro _ ig ⟨ax,ii,rfl,ei,ej,X⟩
  have ek:=(show¬b f from gv)
  have gD:¬b f:=fun hF=>((kG x b) _ hF).elim ek (fun hz=>by have:=aw.lt;omega)
  have el:=(show¬b l from gw)
  have gE:¬b l:=fun hF=>((kG x b) _ hF).elim el (fun hz=>by have:=bC.lt;omega)
  have em:=(show¬b d from gx)
  have en:¬b d:=fun hF=>((kG x b) _ hF).elim em (fun hz=>by have:=bd.lt;omega)
  have eo:=(show∀g,rowOf Ai ci=some g->¬b g from gy)
  have aH:=ck.kX X eo
  have gF:∀g,rowOf Ai ci=some g->¬b g:=fun g hg hF=>((kG x b) _ hF).elim (eo g hg) (fun hz=>by have:=(ck.row hg).2;omega)
  have ep:=(show∀g,rowOf Ao co=some g->¬b g from gz)
  have er:=cm.kX X ep
  have gG:∀g,rowOf Ao co=some g->¬b g:=fun g hg hF=>((kG x b) _ hF).elim (ep g hg) (fun hz=>by have:=(cm.row hg).2;omega)
  have ij:=ei.1
  refine Wa (.yK (H.vec.isSome kS (by omega)) rfl) rfl (Wa (.qy Dy (H.vec.isSome kS (by omega)) rfl) rfl (W.kP rfl rfl (Ef.Jf (j:=k2) (o:=33) ({(rj.getD k2 jP)with br:=((ax:Nat):Int)}) kz rfl (by omega) rfl aH kS (lF rj jP (by omega)) (by decide) rfl rfl fun bf es Y=>(Nx (Sr (Wn 1 rfl ?_))))))
  have cp:=((bd.kX X em).ch Y (aH.rl (by have:=a7.lt;omega)))
  have cq:=(ej.ch Y (fun q hqq hF=>(ej.rV aH (by decide) (by decide)) q hqq hF))
  refine W.ef rfl rfl rfl (Ef.D9 VK rfl rfl rfl (Iq 12 cp (show¬b d from en) cq) ?_)
  rintro _ aY ⟨bg,gH,rfl,et,eu,Z⟩
  refine⟨_,rfl,?_⟩
  have cr:=((bB.kM X (fun i hi=>Nat.le_trans F.size (be.old hi))).kI Y (fun q hq=>Nat.le_trans L7.size (aH.row hq).1)).kM Z (fun i hi=>Nat.le_trans F.size (cq.old hi))
  have ew:=((aw.kX X ek).ch Y (aH.rl (by have:=aO.lt;omega)))
  have ex:=((bC.kX X el).ch Y (aH.rl (by have:=ar.lt;omega)))
  have ey:=(er.ch Y (fun q B C=>by have:=(a9.row B).2;have:=(er.row C).1;omega))
  have ez:=(show¬b f from gD)
  have cs:=ew.kX Z ez
  have eA:¬b f:=fun hF=>((kG bf b) _ hF).elim ez (fun hz=>by have:=ew.lt;omega)
  have eB:=(show¬b l from gE)
  have eC:=ex.kX Z eB
  have eD:¬b l:=fun hF=>((kG bf b) _ hF).elim eB (fun hz=>by have:=ex.lt;omega)
  have eE:=(show¬b d from en)
  have eF:=cp.kX Z eE
  have eG:¬b d:=fun hF=>((kG bf b) _ hF).elim eE (fun hz=>by have:=cp.lt;omega)
  have eH:=(show∀g,rowOf Ai ci=some g->¬b g from gF)
  have ct:=es.kX Z eH
  have eI:∀g,rowOf Ai ci=some g->¬b g:=fun g hg hF=>((kG bf b) _ hF).elim (eH g hg) (fun hz=>by have:=(es.row hg).2;omega)
  have eJ:=(show∀g,rowOf Ao co=some g->¬b g from gG)
  have eK:=ey.kX Z eJ
  have eL:∀g,rowOf Ao co=some g->¬b g:=fun g hg hF=>((kG bf b) _ hF).elim (eJ g hg) (fun hz=>by have:=(ey.row hg).2;omega)
  have ik:=et.1;have il:=Ls 12 bg
  refine Wn 1 rfl (Nx (Sq (Sr (Wn 2 rfl (Nx ?_)))))
  by_cases c4:(Ae 12 bg)<0
  ·refine Cy rfl (dT c4) (Sr (Wa (.kK [.slice none 0 0,.slice none 0 0,.int .i64 (0)] FK z61 rfl rfl) rfl (W.sA vZ rfl rfl cs ?_)))
   intro gI cu gJ
   have cu:jL gI f 61 #[.slice none 0 0,.slice none 0 0,.int .i64 (0)]:=cu
   refine Wn 1 rfl (Nx (Rt (E.jH (E.j4 (E.jH (E.jH (E.j4 (E.jH (E.mI rfl (lS rfl cu ql (by rfl)) rfl ?_)))))))))
   exact⟨none,0,none,0,[],[],[],0,false,rfl,jO.nil _ _ _ _ _ _,jO.nil _ _ _ _ _ _,oG.nil _ _,by omega,fun h=>absurd h (by decide),(cr.tb gJ L0 aq)⟩
  refine Cn rfl (dF c4) (Sn (Sq (Sr ?_)))
  have hX:((rj.set k2 ({(rj.getD k2 jP)with br:=((ax:Nat):Int)})).getD k2 jP)={(rj.getD k2 jP)with br:=((ax:Nat):Int)}:=GI (by omega)
  have ZH:=hns k2 (Nat.le_refl _)
  have onz:jO aY aY.heap.size 179 JL 2 ((rj.set k2 ({(rj.getD k2 jP)with br:=((ax:Nat):Int)})).getD k2 jP).sA ((rj.set k2 ({(rj.getD k2 jP)with br:=((ax:Nat):Int)})).getD k2 jP).sN ((rj.set k2 ({(rj.getD k2 jP)with br:=((ax:Nat):Int)})).getD k2 jP).sC []:=by rw[hX];show jO _ _ _ _ _ (rj.getD k2 jP).sA (rj.getD k2 jP).sN (rj.getD k2 jP).sC [];rw[ZH.1,ZH.2.1,ZH.2.2];exact jO.nil _ _ _ _ _ _
  have hnX:uJ (rj.set k2 ({(rj.getD k2 jP)with br:=((ax:Nat):Int)})) (k2+1):=CF (Rs hns)
  refine Wn 2 rfl (Nx (WC.block ?_))
  refine WC.loop (ι:=Nat×(List pY)×(List Dk.Uu)×(List (BitVec 8)×Bool)) (fun⟨i3,rk,sg,s3⟩=>[(2,.pointer (some ⟨f,0,none⟩)),(4,.pointer (some ⟨l,0,none⟩)),(5,.pointer (some ⟨d,0,none⟩)),(6,.func (.func 77) #[] #[.pointer (some ⟨d,0,none⟩)]),(7,.int .i64 (Ae 64 ad)),(8,.int .i64 (Ae 64 ae)),(13,ptr Ai (k2*36+33)),(66,.int .i64 ((k:Nat):Int)),(67,.int .i64 ((k2:Nat):Int)),(85,.int .i64 (Ae 12 bg)),(86,.int .i64 ((i3:Nat):Int))]) (fun⟨i3,rk,sg,s3⟩ D=>(uJ rk (k2+1))/\(xs=[]->s3.2=true)/\(rk.length=k)/\((rk.getD k2 jP).sN=i3)/\(i3<=12)/\Le w D/\aY.heap.size<=D.heap.size/\jL D f 61 #[.slice none 0 0,.slice none 0 0,.int .i64 (0)]/\jL D l 61 #[.slice Ai k ci,.slice Ao j co,.int .i64 ((aX:Nat):Int)]/\jO D L.heap.size 111 xy 36 Ai k ci rk/\jO D z.heap.size 77 xC 2 Ao j co ro/\oG D z.heap.size ro os/\jL D d 170 #[.pointer (some ⟨t,0,none⟩)]/\jO D aY.heap.size 179 JL 2 ((rk.getD k2 jP).sA) ((rk.getD k2 jP).sN) ((rk.getD k2 jP).sC) sg/\uK D aM.heap.size t b s3) (fun⟨i3,rk,sg,s3⟩=>(Ae 12 bg).toNat-i3) (0,(rj.set k2 ({(rj.getD k2 jP)with br:=((ax:Nat):Int)})),[],gH) ?_ ?_ ?_
  ·exact .of rfl
  ·exact⟨hnX,(fun h=>et.2.1.1 (ei.2.1.1 (ee h))),(by rw[List.length_set];exact hjl),(by rw[hX];exact ZH.2.1),(by decide),cr,Nat.le_refl _,cs,eC,ct,eK,(((eg.MK X be (by decide) (by decide) (by decide) (by decide)).U8 Y aH (by decide) (by decide)).MK Z cq (by decide) (by decide) (by decide) (by decide)),eF,onz,eu⟩
  rintro⟨i3,rk,sg,s3⟩ D ⟨eM,hnz,hkl,hsn,im,eN,eO,eP,eQ,eR,eS,eT,cv,gK,bD⟩
  have io:L.heap.size<=D.heap.size:=Nat.le_trans gC (by have:=X.size;have:=Y.size;have:=Z.size;omega)
  have ip:z.heap.size<=D.heap.size:=Nat.le_trans eh (by have:=X.size;have:=Y.size;have:=Z.size;omega)
  have iq:z.heap.size<=D.heap.size:=Nat.le_trans eh (by have:=X.size;have:=Y.size;have:=Z.size;omega)
  have gL:aY.heap.size<=D.heap.size:=by omega
  refine Sr (Wn 1 rfl (Nx (Sq ?_)))
  by_cases c5:((i3:Nat):Int)<(Ae 12 bg)
  ·refine Cy rfl (dT c5) (Sn (Sq (WC.block (WC.xO (fun aI w'=>Le w w'/\jL w' d 170 #[.pointer (some ⟨t,0,none⟩)]/\jO w' L.heap.size 111 xy 36 Ai k ci rk) [0,1,2,3,4,5,7,6,8,9,10,11,12,13,14] mixed (by kernel_rfl) fun aI aa=>?_))))
   have eU:=eN.trans aa
   have cw:=(cv.le aa)
   have cx:=(eR.le aa)
   refine⟨⟨eU,cw,cx⟩,?_⟩
   refine GR.any rfl rfl (.move rfl) rfl rfl rfl (GR.any rfl rfl (.move rfl) rfl rfl rfl (GR.any rfl rfl (.yK (H.vec.isSome kS (by omega)) rfl) rfl rfl rfl (GR.any rfl rfl (.qy Bd (H.vec.isSome kS (by omega)) rfl) rfl rfl rfl (GR.rd rfl rfl (fun w' hs=> .AP (j:=k2) (o:=34) (v:= .slice ((rk.getD k2 jP).sA) ((rk.getD k2 jP).sN) ((rk.getD k2 jP).sC)) Mg rfl hs.2.2.vec kS (lF rk jP (by omega)) rfl) rfl rfl rfl (GR.rd rfl rfl (fun w' hs=> .jF (v:= .pointer (some ⟨t,0,none⟩)) si rfl hs.2.1 rfl) rfl rfl rfl ?_)))))
   refine GR.rd rfl rfl (fun w' hs=> .jF (v:= .pointer (some ⟨t,0,none⟩)) si rfl hs.2.1 rfl) rfl rfl rfl ?_
   have cy:=(bD.le aa)
   refine GR.ef rfl rfl rfl rfl rfl (Ef.call Qf rfl rfl (Fg cy) ?_)
   rintro _ ir ⟨aZ,iu,rfl,iw,gM,cz,ai⟩
   refine⟨_,rfl,?_⟩
   have eV:=eU.kM ai (fun i hi=>Nat.le_trans F.size (cy.old hi))
   have eW:=(eP.le aa)
   have eX:=(eQ.le aa)
   have eY:=(eS.le aa)
   have cA:=(gK.le aa)
   have eZ:=(show¬b f from eA)
   have gN:¬b f:=fun hF=>((kG aI b) _ hF).elim eZ (fun hz=>by have:=eW.lt;omega)
   have e0:=(show¬b l from eD)
   have gO:¬b l:=fun hF=>((kG aI b) _ hF).elim e0 (fun hz=>by have:=eX.lt;omega)
   have fa:=(show¬b d from eG)
   have fb:=cw.kX ai fa
   have gP:¬b d:=fun hF=>((kG aI b) _ hF).elim fa (fun hz=>by have:=cw.lt;omega)
   have fc:=(show∀g,rowOf Ai ci=some g->¬b g from eI)
   have fd:=cx.kX ai fc
   have gQ:∀g,rowOf Ai ci=some g->¬b g:=fun g hg hF=>((kG aI b) _ hF).elim (fc g hg) (fun hz=>by have:=(cx.row hg).2;omega)
   have fe:=(show∀g,rowOf Ao co=some g->¬b g from eL)
   have gR:∀g,rowOf Ao co=some g->¬b g:=fun g hg hF=>((kG aI b) _ hF).elim (fe g hg) (fun hz=>by have:=(eY.row hg).2;omega)
   have ff:=(show∀g,rowOf ((rk.getD k2 jP).sA) ((rk.getD k2 jP).sC)=some g->¬b g from(fun g hg hF=>by have:=eu.lt hF;have:=(cA.row hg).1;omega))
   have gS:∀g,rowOf ((rk.getD k2 jP).sA) ((rk.getD k2 jP).sC)=some g->¬b g:=fun g hg hF=>((kG aI b) _ hF).elim (ff g hg) (fun hz=>by have:=(cA.row hg).2;omega)
   refine⟨fun _=>⟨eV,fb,fd⟩,?_⟩
   refine GR.ef rfl rfl rfl rfl rfl (Ef.call Qf rfl rfl (Fg cz) ?_)
   rintro _ gT ⟨a0,gU,rfl,iy,gV,cB,aj⟩
   refine⟨_,rfl,?_⟩
   have fg:=eV.kM aj (fun i hi=>Nat.le_trans F.size (cz.old hi))
   have fh:=fb.kX aj (show¬b d from gP)
   have cC:=fd.kX aj (show∀g,rowOf Ai ci=some g->¬b g from gQ)
   have fi:=(eY.kX ai fe).kX aj (show∀g,rowOf Ao co=some g->¬b g from gR)
   have fj:=(cA.kX ai ff).kX aj (show∀g,rowOf ((rk.getD k2 jP).sA) ((rk.getD k2 jP).sC)=some g->¬b g from gS)
   refine⟨fun _=>⟨fg,fh,cC⟩,?_⟩
   refine GR.any rfl rfl (.kK (JL (⟨aZ,a0⟩:Dk.Uu)) Y7 aaE rfl rfl) rfl rfl rfl (GR.ef rfl rfl rfl rfl rfl (Ef.jX (len:=1) [_] underlying107 Qa rfl (by simp[Value.cells,EP.len]) rfl (by decide) (by decide) ?_))
   intro fk fl gW bE ab
   have fm:=fg.trans ab
   have bE:jL fl fk 179 (([(⟨aZ,a0⟩:Dk.Uu)]).map JL).flatten.toArray:=bE
   have iz:jO fl gT.heap.size 179 JL 2 (some ⟨fk,0,none⟩) 1 1 ([(⟨aZ,a0⟩:Dk.Uu)]):=bE.pQ gW EP rfl rfl (by decide)
   have fo:=(fh.le ab)
   have fp:=(cC.le ab)
   refine⟨fun _=>⟨fm,fo,fp⟩,?_⟩
   have ay:=(fj.le ab)
   refine GR.ef rfl rfl rfl rfl rfl (Ef.xw (a:=(⟨aZ,a0⟩:Dk.Uu)) underlying107 Qa underlying107 EP rfl ay rfl bE (by omega) (by unfold maxLen;omega) (by have:=gL;have:=aa.size;have:=ai.size;have:=aj.size;have:=ab.size;omega) ?_)
   intro az aA iA fq ao iB
   refine noT (by kernel_rfl) (GR.any rfl rfl (.yK (H.vec.isSome kS (by omega)) rfl) rfl rfl rfl (GR.any rfl rfl (.qy Bd (H.vec.isSome kS (by omega)) rfl) rfl rfl rfl ?_))
   have a1:=(fp.ch ao (Apart.symm (fun q B C=>by have:=(ct.row B).2;have:=(ay.row C).1;omega)))
   refine GR.kP rfl rfl rfl rfl (Ef.Jf (j:=k2) (o:=34) ({(rk.getD k2 jP)with sA:=az,sN:=((rk.getD k2 jP).sN+1),sC:=aA}) UF rfl (by omega) rfl a1 kS (lF rk jP (by omega)) (by decide) rfl rfl fun gX gY ap=>(noT (by kernel_rfl) (GR.nil (E.jZ (E.jG (WC.region ?_))))))
   have gZ:=(fq.ch ap (fun q B C=>by have:=(ct.row B).2;have:=(fq.row C).1;omega))
   have hY:((rk.set k2 ({(rk.getD k2 jP)with sA:=az,sN:=((rk.getD k2 jP).sN+1),sC:=aA})).getD k2 jP)={(rk.getD k2 jP)with sA:=az,sN:=((rk.getD k2 jP).sN+1),sC:=aA}:=GI (by omega)
   have onY:jO gX aY.heap.size 179 JL 2 ((rk.set k2 ({(rk.getD k2 jP)with sA:=az,sN:=((rk.getD k2 jP).sN+1),sC:=aA})).getD k2 jP).sA ((rk.set k2 ({(rk.getD k2 jP)with sA:=az,sN:=((rk.getD k2 jP).sN+1),sC:=aA})).getD k2 jP).sN ((rk.set k2 ({(rk.getD k2 jP)with sA:=az,sN:=((rk.getD k2 jP).sN+1),sC:=aA})).getD k2 jP).sC (sg++[(⟨aZ,a0⟩:Dk.Uu)]):=by rw[hY];exact gZ
   have hnY:uJ (rk.set k2 ({(rk.getD k2 jP)with sA:=az,sN:=((rk.getD k2 jP).sN+1),sC:=aA})) (k2+1):=CF eM
   refine Wa (.add rfl rfl (by omega)) rfl (Wn 1 rfl (W.nil ?_))
   have g0:=(((((eW.kX ai eZ).kX aj (show¬b f from gN)).le ab).ch ao (ay.rl (by have:=cs.lt;omega))).ch ap (a1.rl (by have:=aO.lt;omega)))
   have g1:=(((((eX.kX ai e0).kX aj (show¬b l from gO)).le ab).ch ao (ay.rl (by have:=eC.lt;omega))).ch ap (a1.rl (by have:=ar.lt;omega)))
   have g2:=(((fi.le ab).ch ao (Apart.symm (fun q B C=>by have:=(eK.row B).2;have:=(ay.row C).1;omega))).ch ap (fun q B C=>by have:=(a9.row B).2;have:=(fi.row C).1;omega))
   have g3:=((((((eT.le aa).MK ai cy (by decide) (by decide) (by decide) (by decide)).MK aj cz (by decide) (by decide) (by decide) (by decide)).le ab).U8 ao ay (by decide) (by decide)).U8 ap a1 (by decide) (by decide))
   have g4:=((fo.ch ao (ay.rl (by have:=eF.lt;omega))).ch ap (a1.rl (by have:=a7.lt;omega)))
   have g5:=(((cB.le ab).ch ao (fun q hqq hF=>(cB.rV fj (by decide) (by decide)) q hqq hF)).ch ap (fun q hqq hF=>(cB.rV cC (by decide) (by decide)) q hqq hF))
   refine E.again (i3+1,(rk.set k2 ({(rk.getD k2 jP)with sA:=az,sN:=((rk.getD k2 jP).sN+1),sC:=aA})),(sg++[(⟨aZ,a0⟩:Dk.Uu)]),gU) (.of rfl) ?_ ?_
   ·exact⟨hnY,(fun h=>gV.1 (gM.1 (hnz h))),(by rw[List.length_set];exact hkl),(by rw[hY];show(rk.getD k2 jP).sN+1=i3+1;rw[hsn]),(by omega),((fm.kI ao (fun q hq=>Nat.le_trans cr.size (ay.row hq).1)).kI ap (fun q hq=>Nat.le_trans L7.size (a1.row hq).1)),by have:=eO;have:=aa.size;have:=ai.size;have:=aj.size;have:=ab.size;have:=ao.size;have:=ap.size;omega,g0,g1,gY,g2,g3,g4,onY,g5⟩
   first|omega|(simp only[];omega)
  refine Cn rfl (dF c5) (WC.exit (E.jJ (E.jJ (E.ko (E.jG (WC.region (Wn 1 rfl (Wr (.jF (v:= .pointer (some ⟨t,0,none⟩)) si rfl cv rfl) rfl (W.cl Qf rfl rfl (Fg bD) ?_)))))))))
  rintro _ iC ⟨fr,g6,rfl,iD,g7,fs,aB⟩
  have aJ:=eR.kX aB (show∀g,rowOf Ai ci=some g->¬b g from eI)
  have ft:=eS.kX aB (show∀g,rowOf Ao co=some g->¬b g from eL)
  refine Wa (.yK (H.vec.isSome kS (by omega)) rfl) rfl (Wa (.qy Mi (H.vec.isSome kS (by omega)) rfl) rfl (W.kP rfl rfl (Ef.Jf (j:=k2) (o:=35) ({(rk.getD k2 jP)with sec:=fr}) Hw rfl (by omega) rfl aJ kS (lF rk jP (by omega)) (by decide) rfl rfl fun iE g8 aC=>?_)))
  have g9:=(eN.kM aB (fun i hi=>Nat.le_trans F.size (bD.old hi))).kI aC (fun q hq=>Nat.le_trans L7.size (aJ.row hq).1)
  refine W.nil (E.jZ (E.jG (WC.region (Wa (.add rfl rfl (by omega)) rfl (Wn 1 rfl (W.nil ?_))))))
  have hc:=((eP.kX aB (show¬b f from eA)).ch aC (aJ.rl (by have:=aO.lt;omega)))
  have hd:=((eQ.kX aB (show¬b l from eD)).ch aC (aJ.rl (by have:=ar.lt;omega)))
  have he:=(ft.ch aC (fun q B C=>by have:=(a9.row B).2;have:=(ft.row C).1;omega))
  have hf:=((eT.MK aB bD (by decide) (by decide) (by decide) (by decide)).U8 aC aJ (by decide) (by decide))
  have hh:=((cv.kX aB (show¬b d from eG)).ch aC (aJ.rl (by have:=a7.lt;omega)))
  have hm:=(fs.ch aC (fun q hqq hF=>(fs.rV aJ (by decide) (by decide)) q hqq hF))
  refine E.again (k2+1,(rk.set k2 ({(rk.getD k2 jP)with sec:=fr})),g6) (.of rfl) ?_ ?_
  ·exact⟨by omega,CF eM,(fun h=>g7.1 (hnz h)),(by rw[List.length_set];exact hkl),g9,by have:=gB;have:=aB.size;have:=aC.size;have:=cS;have:=dD;have:=eO;have:=cL.size;have:=a2.size;have:=ak.size;have:=a3.size;have:=a5.size;have:=a6.size;have:=aG.size;have:=U.size;have:=V.size;have:=X.size;have:=Y.size;have:=Z.size;omega,hc,hd,g8,he,hf,hh,hm⟩
  first|omega|(simp only[];omega)
 refine Cn rfl (dF c3) (WC.exit (E.jJ (E.jJ (E.ko (E.jG (Sq (Sr (Wn 2 rfl ?_))))))))
 by_cases fu:(Ae 64 ad)<0
 ·refine Dt fu rfl rfl (Wn 18 rfl (Nx (WC.jS rfl (Sr (Wa (.kK [.slice none 0 0,.slice none 0 0,.int .i64 (0)] FK z61 rfl rfl) rfl (W.sA vZ rfl rfl aw ?_))))))
  intro ho cD hp
  have cD:jL ho f 61 #[.slice none 0 0,.slice none 0 0,.int .i64 (0)]:=cD
  refine Wn 1 rfl (Nx (Rt (E.jH (E.mI rfl (lS rfl cD ql (by rfl)) rfl ?_))))
  exact⟨none,0,none,0,[],[],[],0,false,rfl,jO.nil _ _ _ _ _ _,jO.nil _ _ _ _ _ _,oG.nil _ _,by omega,fun h=>absurd h (by decide),(bB.tb hp L0 aq)⟩
 refine Df fu rfl rfl (Wn 3 rfl ?_)
 by_cases fv:(Ae 64 ae)<0
 ·refine Dt fv rfl rfl (Wn 14 rfl (Nx (WC.jS rfl (Sr (Wa (.kK [.slice none 0 0,.slice none 0 0,.int .i64 (0)] FK z61 rfl rfl) rfl (W.sA vZ rfl rfl aw ?_))))))
  intro hr cE ht
  have cE:jL hr f 61 #[.slice none 0 0,.slice none 0 0,.int .i64 (0)]:=cE
  refine Wn 1 rfl (Nx (Rt (E.jH (E.mI rfl (lS rfl cE ql (by rfl)) rfl ?_))))
  exact⟨none,0,none,0,[],[],[],0,false,rfl,jO.nil _ _ _ _ _ _,jO.nil _ _ _ _ _ _,oG.nil _ _,by omega,fun h=>absurd h (by decide),(bB.tb ht L0 aq)⟩
 refine Df fv rfl rfl (Wg (.jF (v:= .pointer (some ⟨t,0,none⟩)) si rfl bd rfl) rfl (W.mY rfl rfl rfl rfl rfl rfl (Ef.call aa7 rfl rfl (Zj be) ?_)))
 rintro _ iF ⟨rfl,ac⟩
 refine⟨_,rfl,?_⟩
 have fw:=bB.trans ac
 refine Wn 2 rfl ?_
 by_cases fx:(!s2.2)=true
 ·refine Wa (.dec (.move rfl) (congrArg not fx)) rfl (Wg (.jF (v:= .pointer (some ⟨t,0,none⟩)) si rfl (bd.le ac) rfl) rfl (W.mY rfl rfl rfl rfl rfl rfl (Ef.call aa8 rfl rfl (Ug (be.le ac)) ?_)))
  rintro _ hu ⟨rfl,aD⟩
  refine⟨_,rfl,?_⟩
  have fy:=fw.trans aD
  refine Wn 2 rfl ?_
  by_cases fz:0<((s2.1.length:Nat):Int)
  ·refine Dt fz rfl rfl (Wn 4 rfl (Nx (WC.jS rfl (Sr (Wa (.kK [.slice none 0 0,.slice none 0 0,.int .i64 (0)] FK z61 rfl rfl) rfl (W.sA vZ rfl rfl (aw.le (ac.trans aD)) ?_))))))
   intro hv cF hw
   have cF:jL hv f 61 #[.slice none 0 0,.slice none 0 0,.int .i64 (0)]:=cF
   refine Wn 1 rfl (Nx (Rt (E.jH (E.mI rfl (lS rfl cF ql (by rfl)) rfl ?_))))
   exact⟨none,0,none,0,[],[],[],0,false,rfl,jO.nil _ _ _ _ _ _,jO.nil _ _ _ _ _ _,oG.nil _ _,by omega,fun h=>absurd h (by decide),(fy.tb hw L0 aq)⟩
  refine Df fz rfl rfl ?_
  have fA:=(bC.le (ac.trans aD))
  refine Wg (.jK ql (by rfl) rfl fA) rfl ?_
  have cG:=(ck.le (ac.trans aD))
  have cH:=(cm.le (ac.trans aD))
  have fB:=(eg.le (ac.trans aD))
  refine W.mY rfl rfl rfl rfl rfl rfl (Ef.call Tw rfl rfl (xg (ci:=ci) (co:=co) (note:=((aX:Nat):Int)) hu cG.vec cH.vec fB.weak) ?_)
  rintro _ iG ⟨rfl,aK⟩
  refine⟨_,rfl,?_⟩
  have fC:=fy.trans aK
  refine Wn 2 rfl (Nx ?_)
  by_cases c6:(FN rj os ((aX:Nat):Int))=true
  ·refine Cn rfl (congrArg not c6) (Sn (Sr (Wr (.jK ql (by rfl) rfl (fA.le aK)) rfl ?_)))
   have fD:=(aw.le (ac.trans (aD.trans aK)))
   refine W.sA vZ rfl rfl fD ?_
   intro hy cI bF
   have cI:jL hy f 61 #[.slice Ai k ci,.slice Ao j co,.int .i64 ((aX:Nat):Int)]:=cI
   refine Wn 1 rfl (Nx (Rt ?_))
   have fE:=((fB.le aK).rE bF fD (by decide) (by decide))
   have fF:=((cG.le aK).cb bF (cG.rl (by have:=aO.lt;omega)))
   have fG:=((cH.le aK).cb bF (cH.rl (by have:=bX.lt;omega)))
   refine E.mI rfl (lS rfl cI ql (by rfl)) rfl ?_
   have hil:=(fF).1;have hol:=(fG).1;subst hil hol
   exact⟨_,_,_,_,_,_,_,_,true,rfl,(fF.mono L7.size),(fG.mono bm.size),(fE.mono bm.size),by omega,fun _=>⟨by assumption,(fun hx=>by have:=ee hx;simp_all),(fun uP m0 tl hb=>by have e:=hbm uP m0 tl hb;have:=hb.m1;have:=(fE).1;omega)⟩,(fC.tb bF L0 aq)⟩
  refine Cy rfl (congrArg not (Bool.eq_false_iff.2 c6)) (Sr (Wa (.kK [.slice none 0 0,.slice none 0 0,.int .i64 (0)] FK z61 rfl rfl) rfl (W.sA vZ rfl rfl (aw.le (ac.trans (aD.trans aK))) ?_)))
  intro hA cJ hC
  have cJ:jL hA f 61 #[.slice none 0 0,.slice none 0 0,.int .i64 (0)]:=cJ
  refine Wn 1 rfl (Nx (Rt (E.jH (E.mI rfl (lS rfl cJ ql (by rfl)) rfl ?_))))
  exact⟨none,0,none,0,[],[],[],0,false,rfl,jO.nil _ _ _ _ _ _,jO.nil _ _ _ _ _ _,oG.nil _ _,by omega,fun h=>absurd h (by decide),(fC.tb hC L0 aq)⟩
 refine Wa (.dec (.move rfl) (congrArg not (Bool.eq_false_iff.2 fx))) rfl (Wn 9 rfl (Nx (WC.jS rfl (Sr (Wa (.kK [.slice none 0 0,.slice none 0 0,.int .i64 (0)] FK z61 rfl rfl) rfl (W.sA vZ rfl rfl (aw.le ac) ?_))))))
 intro hD cK hE
 have cK:jL hD f 61 #[.slice none 0 0,.slice none 0 0,.int .i64 (0)]:=cK
 refine Wn 1 rfl (Nx (Rt (E.jH (E.mI rfl (lS rfl cK ql (by rfl)) rfl ?_))))
 exact⟨none,0,none,0,[],[],[],0,false,rfl,jO.nil _ _ _ _ _ _,jO.nil _ _ _ _ _ _,oG.nil _ _,by omega,fun h=>absurd h (by decide),(fw.tb hE L0 aq)⟩
end Go.Proofs.YtcaehidaejhdfaaGreat

namespace Go.Proofs.YtcaehidaejhdfaaGreat
open Tryz
open Go Go.Sx Go.wI Go.Num Go.Ac Go.rZ Go.Lsp Go.Fv Go.Dk
set_option maxRecDepth 20000
structure Um (c:IC):Prop where
  op:0<=c.op/\c.op<=1
  pts:oV c.p0/\oV c.p1/\oV c.p2/\oV c.p3/\oV c.p4/\oV c.p5/\oV c.p6/\oV c.p7/\oV c.p8/\oV c.p9
theorem Gy.p {c:IC}(h:Gy c):Um c:=⟨h.op,h.pts⟩
def FO (am:Int):Int:=if am<1\/am>1125899906842624 then 1 else if am<400 then 10 else 0
theorem Ru {am:Int}(h:400<=am/\am<=1125899906842624):FO am=0:=by unfold FO;rw[if_neg (by omega),if_neg (by omega)]
theorem Rv {am:Int}(h:¬(400<=am/\am<=1125899906842624)):FO am≠0:=by
  unfold FO
  repeat' split
  all_goals omega
def yj (ch:IC)(h0 h1 rt:Int):Bool:=decide (400<=ch.am/\ch.am<=1125899906842624)&&decide (u7 rt 0<=if ch.op=0 then h0 else h1)
structure JZ (cs:List Ke)(os:List nC)(fee d:Int):Prop where
  eq:d= -fee+(cs.map (·.am)).sum-(os.map (·.am)).sum
  fee:0<=fee/\fee<=1099511627776
  ci:cs.length<=8
  co:os.length<=8
  lo: -17592186044416<=d
  hi:d<=17592186044416
  ins:∀i,i<cs.length->1<=(cs.getD i lH).am/\(cs.getD i lH).am<=1099511627776
  outs:∀i,i<os.length->0<=(os.getD i oO).am/\(os.getD i oO).am<=1099511627776
theorem Rw {P:Nat->Prop}{k:Nat}(h:∀i,i<k->P i)(hk:P k):∀i,i<k+1->P i:=fun i hi=>by
  rcases Nat.lt_or_ge i k with q|q
  · exact h i q
  · have e:i=k:=by omega
    subst e;exact hk
theorem wG {α:Type}{f:α->Int}{l:List α}{z:α}{k:Nat}(h:k<l.length):((l.take (k+1)).map f).sum=((l.take k).map f).sum+f (l.getD k z):=by
  have e:l.take (k+1)=l.take k++[l.getD k z]:=by
    rw[List.take_add_one]
    simp[List.getD,h]
  rw[e]
  simp
set_option maxHeartbeats 4000000 in
theorem J2 (c:IC) (hc:Um c) (w:World):Calls prog 30 #[.agg (tX c).toArray] w fun r w'=>r= .returned (.int .i64 (FO c.am))/\Le w w':=by
 have hop:=hc.op;have hpt:=hc.pts
 refine enter func30 rfl rfl (Sr (W.ef rfl rfl rfl (Ef.mH rfl fun L N Z (b:jL N L 47 (tX c).toArray) O=>?_)))
 have d:=(Le.refl w).trans O
 refine Wn 1 rfl (Nx (Sq (Sr (Wa (.jE qA rfl) rfl (Wr (.jF (v:= .int .i64 c.am) j5 rfl b rfl) rfl (Wn 1 rfl ?_))))))
 by_cases m:c.am<1
 ·refine Dt m rfl rfl (Wn 22 rfl (Nx (WC.jS rfl (Sr (Wn 1 rfl (Nx (Rt (E.jH (E.jI rfl rfl ?_)))))))))
  exact⟨congrArg (fun i=>Ending.returned (Value.int .i64 i)) (by unfold FO;first|rw[if_pos (by omega)]|rw[if_neg (by omega),if_pos (by omega)]|rw[if_neg (by omega),if_neg (by omega)]),d⟩
 refine Df m rfl rfl (Wg (Any.rd (.jE qA rfl) _) rfl (Wg (.jF (v:= .int .i64 c.am) j5 rfl b rfl) rfl (Wn 2 rfl ?_)))
 by_cases n:1125899906842624<c.am
 ·refine Dt n rfl rfl (Wn 17 rfl (Nx (WC.jS rfl (Sr (Wn 1 rfl (Nx (Rt (E.jH (E.jI rfl rfl ?_)))))))))
  exact⟨congrArg (fun i=>Ending.returned (Value.int .i64 i)) (by unfold FO;first|rw[if_pos (by omega)]|rw[if_neg (by omega),if_pos (by omega)]|rw[if_neg (by omega),if_neg (by omega)]),d⟩
 refine Df n rfl rfl (Wg (Any.rd (.jE EL rfl) _) rfl (Wg (Any.rd (.jE Cs rfl) _) rfl (Wg (.jF (v:= .int .i64 0) j5 rfl b rfl) rfl (Wg (Any.rd (.dec (.lss rfl rfl) (show _=false from by first|decide|rfl)) _) rfl ?_))))
 refine Wn 2 rfl (Wg (Any.rd (.jE EL rfl) _) rfl (Wg (Any.rd (.jE Cs rfl) _) rfl (Wg (.jF (v:= .int .i64 0) j5 rfl b rfl) rfl (Wg (Any.rd (.dec (.geq rfl rfl) (show _=false from by first|decide|rfl)) _) rfl ?_))))
 refine Wn 2 rfl (Wg (Any.rd (.jE vF rfl) _) rfl (Wg (.jF (v:= .int .i64 c.op) j5 rfl b rfl) rfl (Wg (Any.rd (.Tg rfl rfl (by omega)) _) rfl (Wg (Any.rd (.dec (.neq rfl rfl) (show _=false from by first|decide|rfl)) _) rfl ?_))))
 refine Wn 1 rfl (Nx (WC.kF rfl (Sn (Sq (Sr (Wa (.jE pV rfl) rfl (Wr (.mV [.int .i64 100,.int .i64 200,.int .i64 5,.int .i64 16,.int .i64 1,.int .i64 1125899906842624,.int .i64 100,.int .i64 200,.int .i64 6,.int .i64 16,.int .i64 1,.int .i64 (1125899906842624)] VB rfl (by decide) rfl b rfl) rfl (Wn 1 rfl (Nx (WC.block (WC.rounds 3 (qK.step ?_))))))))))))
 refine Sr (Wa (.dec (.lss rfl rfl) (show _=true from by first|decide|rfl)) rfl ?_)
 refine Nx (Sq (WC.jS rfl (Sn (Sq (WC.block (Sr (Wn 1 rfl (Wa (.vC 0 [.int .i64 100,.int .i64 200,.int .i64 5,.int .i64 16,.int .i64 1,.int .i64 (1125899906842624)] underlying45 rD FH rfl rfl rfl (by omega) rfl) rfl (W.ef rfl rfl rfl (Ef.jR z44 fun o P Q (R:jL P o 44 #[.int .i64 0,.int .i64 0,.int .i64 0,.int .i64 0,.int .i64 0,.int .i64 (0)]) s=>(Wn 1 rfl (W.sA rD rfl rfl R ?_))))))))))))
 intro t e u
 have e:jL t o 44 #[.int .i64 100,.int .i64 200,.int .i64 5,.int .i64 16,.int .i64 1,.int .i64 (1125899906842624)]:=e
 refine Nx (Sr (Wr (.jK FH (by rfl) rfl e) rfl ?_))
 refine W.cl Yk rfl rfl (Gz 100 200 5 16 1 1125899906842624 (by decide) t) ?_
 rintro _ S ⟨rfl,x⟩
 refine Wn 3 rfl (Wg (Any.rd (.jE xY rfl) _) rfl (Wg (Any.rd (.mP 0 underlying42 Bb rfl rfl rfl (by omega)) _) rfl ?_))
 have f:=(((b.le s).cn u (by have:=b.lt;omega)).le x)
 refine Wg (.mV [.int .u64 ((c.p0:Nat):Int),.int .u64 ((c.p1:Nat):Int),.int .u64 ((c.p2:Nat):Int),.int .u64 ((c.p3:Nat):Int),.int .u64 ((c.p4:Nat):Int)] PX rfl (by decide) rfl f rfl) rfl (W.mY rfl rfl rfl rfl rfl rfl (Ef.call Yl rfl rfl (EZ c.p0 c.p1 c.p2 c.p3 c.p4 ⟨hpt.1,hpt.2.1,hpt.2.2.1,hpt.2.2.2.1,hpt.2.2.2.2.1⟩ S) ?_))
 rintro _ aa ⟨rfl,j⟩
 refine⟨_,rfl,?_⟩
 have y:=(((d.trans s).tb u d Q).trans x).trans j
 refine Wn 2 rfl (Nx (WC.kF rfl (WC.skip (E.jZ (E.jG (WC.region (Wa (.as (.add rfl rfl (by decide)) rfl) rfl (Wn 1 rfl (W.nil (E.round (qK.step (Sr ?_))))))))))))
 refine Wa (.dec (.lss rfl rfl) (show _=true from by first|decide|rfl)) rfl ?_
 refine Nx (Sq (WC.jS rfl (Sn (Sq (WC.block (Sr (Wn 1 rfl (Wa (.vC 1 [.int .i64 100,.int .i64 200,.int .i64 6,.int .i64 16,.int .i64 1,.int .i64 (1125899906842624)] underlying45 rD FH rfl rfl rfl (by omega) rfl) rfl (W.ef rfl rfl rfl (Ef.jR z44 fun z T U (V:jL T z 44 #[.int .i64 0,.int .i64 0,.int .i64 0,.int .i64 0,.int .i64 0,.int .i64 (0)]) A=>(Wn 1 rfl (W.sA rD rfl rfl V ?_))))))))))))
 intro B k C
 have k:jL B z 44 #[.int .i64 100,.int .i64 200,.int .i64 6,.int .i64 16,.int .i64 1,.int .i64 (1125899906842624)]:=k
 refine Nx (Sr (Wr (.jK FH (by rfl) rfl k) rfl ?_))
 refine W.cl Yk rfl rfl (Gz 100 200 6 16 1 1125899906842624 (by decide) B) ?_
 rintro _ X ⟨rfl,D⟩
 refine Wn 3 rfl (Wg (Any.rd (.jE xY rfl) _) rfl (Wg (Any.rd (.mP 1 underlying42 Bb rfl rfl rfl (by omega)) _) rfl ?_))
 have F:=(((f.le (j.trans A)).cn C (by have:=f.lt;have:=j.size;omega)).le D)
 refine Wg (.mV [.int .u64 ((c.p5:Nat):Int),.int .u64 ((c.p6:Nat):Int),.int .u64 ((c.p7:Nat):Int),.int .u64 ((c.p8:Nat):Int),.int .u64 ((c.p9:Nat):Int)] PX rfl (by decide) rfl F rfl) rfl (W.mY rfl rfl rfl rfl rfl rfl (Ef.call Yl rfl rfl (EZ c.p5 c.p6 c.p7 c.p8 c.p9 ⟨hpt.2.2.2.2.2.1,hpt.2.2.2.2.2.2.1,hpt.2.2.2.2.2.2.2.1,hpt.2.2.2.2.2.2.2.2.1,hpt.2.2.2.2.2.2.2.2.2⟩ X) ?_))
 rintro _ Y ⟨rfl,H⟩
 refine⟨_,rfl,?_⟩
 refine Wn 2 rfl (Nx (WC.kF rfl (WC.skip (E.jZ (E.jG (WC.region (Wa (.as (.add rfl rfl (by decide)) rfl) rfl (Wn 1 rfl (W.nil (E.round (qK.step (Sr ?_))))))))))))
 refine Wa (.dec (.lss rfl rfl) (show _=false from by first|decide|rfl)) rfl ?_
 refine Nx (Sq (WC.kF rfl (WC.exit (E.jJ (E.jJ (E.ko (E.jG (Sq (Sr (Wa (.jE pV rfl) rfl (Wa (.mP 0 underlying45 rD rfl rfl rfl (by omega)) rfl (Wa (.mg wX rfl) rfl ?_))))))))))))
 have l:=(F.le H)
 refine Wr (.jF (v:= .int .i64 200) j5 rfl l rfl) rfl (Wa (.jE pV rfl) rfl (Wa (.mP 1 underlying45 rD rfl rfl rfl (by omega)) rfl (Wa (.mg wX rfl) rfl (Wr (.jF (v:= .int .i64 200) j5 rfl l rfl) rfl (W.cl VI rfl rfl (Ia 200 200 Y) ?_)))))
 rintro _ ab ⟨rfl,I⟩
 have J:=((((y.trans A).tb C y U).trans D).trans H).trans I
 refine Wn 5 rfl (Nx (Sr (Wn 4 rfl (Wg (Any.rd (.jE qA rfl) _) rfl (Wg (.jF (v:= .int .i64 c.am) j5 rfl (l.le I) rfl) rfl (Wn 2 rfl (Nx ?_)))))))
 by_cases K:c.am<400
 ·refine Cy rfl (dT K) (Sr (Wn 1 rfl (Nx (Rt (E.jH (E.jI rfl rfl ?_))))))
  exact⟨congrArg (fun i=>Ending.returned (Value.int .i64 i)) (by unfold FO;first|rw[if_pos (by omega)]|rw[if_neg (by omega),if_pos (by omega)]|rw[if_neg (by omega),if_neg (by omega)]),J⟩
 refine Cn rfl (dF K) (Sn (Sr (Wn 1 rfl (Nx (Rt (E.jI rfl rfl ?_))))))
 exact⟨congrArg (fun i=>Ending.returned (Value.int .i64 i)) (by unfold FO;first|rw[if_pos (by omega)]|rw[if_neg (by omega),if_pos (by omega)]|rw[if_neg (by omega),if_neg (by omega)]),J⟩

theorem BF (no h0 h1 rt:Int)(to:Int)(w:World):Calls prog 70 #[.agg #[.int .i64 no,.int .i64 h0,.int .i64 h1,.slice none 0 0,.int .i64 (rt)],.int .i64 (to)] w fun r w'=>r= .returned (.tuple #[.int .i64 0,.int .i64 0])/\Le w w':=by
 refine enter func70 rfl rfl (Sr (W.ef rfl rfl rfl (Ef.mH rfl fun b c f (d:jL c b 55 #[.int .i64 no,.int .i64 h0,.int .i64 h1,.slice none 0 0,.int .i64 (rt)]) e=>(Wn 2 rfl (Nx (Sr (Wn 2 rfl (Nx (Sq (Sr (Wa (.jE tu rfl) rfl (Wr (.jF (v:= .slice none 0 0) EG rfl d rfl) rfl ?_))))))))))))
 refine Wr (.len underlying53 rfl) rfl (Wn 1 rfl (Nx (WC.block (WC.rounds 1 (qK.step (Sr (Wa (.dec (.lss rfl rfl) (show _=false from by first|decide|rfl)) rfl ?_)))))))
 refine Nx (Sq (WC.kF rfl (WC.exit (E.jJ (E.jJ (E.ko (E.jG (Sr (Wn 4 rfl (Nx (Rt (E.mI rfl rfl rfl ?_))))))))))))
 exact⟨rfl,((Le.refl w).trans e)⟩

theorem J3 (no h0 h1 rt:Int)(hb:0<=h0/\0<=h1/\h0<=1125899906842624/\h1<=1125899906842624)(w:World):Calls prog 71 #[.agg #[.int .i64 no,.int .i64 h0,.int .i64 h1,.slice none 0 0,.int .i64 (rt)]] w fun r w'=>r= .returned (.int .i64 (h0+h1))/\Le w w':=by
 refine enter func71 rfl rfl (Sr (W.ef rfl rfl rfl (Ef.mH rfl fun c d f (b:jL d c 55 #[.int .i64 no,.int .i64 h0,.int .i64 h1,.slice none 0 0,.int .i64 (rt)]) e=>(Wn 1 rfl (Nx (Sr (Wa (.jE lT rfl) rfl (Wa (.j3 0 underlying52 kz rfl rfl rfl (by omega)) rfl ?_))))))))
 refine Wr (.jF (v:= .int .i64 h0) j5 rfl b rfl) rfl (Wa (.jE lT rfl) rfl (Wa (.j3 1 underlying52 kz rfl rfl rfl (by omega)) rfl (Wr (.jF (v:= .int .i64 h1) j5 rfl b rfl) rfl (Wa (.add rfl rfl (by omega)) rfl (Wn 1 rfl (Nx (Sq (Sr ?_))))))))
 refine Wa (.jE tu rfl) rfl (Wr (.jF (v:= .slice none 0 0) EG rfl b rfl) rfl (Wr (.len underlying53 rfl) rfl (Wn 1 rfl (Nx (WC.block (WC.rounds 1 (qK.step ?_)))))))
 refine Sr (Wa (.dec (.lss rfl rfl) (show _=false from by first|decide|rfl)) rfl ?_)
 refine Nx (Sq (WC.kF rfl (WC.exit (E.jJ (E.jJ (E.ko (E.jG (Sr (Wn 2 rfl (Nx (Rt (E.jI rfl rfl ?_))))))))))))
 exact⟨rfl,((Le.refl w).trans e)⟩

theorem GK (ch:IC)(no h0 h1 rt:Int)(hrt:0<=rt/\rt<=1000)(w:World):Calls prog 72 #[.agg (tX ch).toArray,.agg #[.int .i64 no,.int .i64 h0,.int .i64 h1,.slice none 0 0,.int .i64 (rt)]] w fun r w'=>r= .returned (.int .i64 (u7 rt 0))/\Le w w':=by
 have hmul:=MB hrt (show 0<=16 by decide)
 refine enter func72 rfl rfl (Sr (W.ef rfl rfl rfl (Ef.mH rfl fun j k l m d=>(W.ef rfl rfl rfl (Ef.mH rfl fun e b n (c:jL b e 55 #[.int .i64 no,.int .i64 h0,.int .i64 h1,.slice none 0 0,.int .i64 (rt)]) f=>(Wn 1 rfl (Nx (Sr ?_))))))))
 refine Wa (.jE H5 rfl) rfl (Wr (.jF (v:= .int .i64 rt) j5 rfl c rfl) rfl (Wa (.jE tu rfl) rfl (Wr (.jF (v:= .slice none 0 0) EG rfl c rfl) rfl (Wr (.len underlying53 rfl) rfl (W.cl Yz rfl rfl (TZ rt 0 (by omega) (by omega) b) ?_)))))
 rintro _ o ⟨rfl,i⟩
 refine Wa (.add rfl rfl (by omega)) rfl (Wn 1 rfl (Nx (Rt (E.jI rfl rfl ?_))))
 exact⟨rfl,((((Le.refl w).trans d).trans f).trans i)⟩

set_option maxHeartbeats 4000000 in
theorem MM (ch:IC) (no h0 h1 rt:Int) (hcp:Um ch) (hs0:(0<=no/\no<=1048576)/\(0<=h0/\h0<=1125899906842624)/\(0<=h1/\h1<=1125899906842624)/\(0<=rt/\rt<=1000)/\h0+h1=ch.am) (w:World):Calls prog 31 #[.agg (tX ch).toArray,.agg #[.int .i64 no,.int .i64 h0,.int .i64 h1,.slice none 0 0,.int .i64 (rt)]] w fun r w'=>r= .returned (.bool (yj ch h0 h1 rt))/\Le w w':=by
 have hop:=hcp.op
 refine enter func31 rfl rfl (Sr (W.ef rfl rfl rfl (Ef.mH rfl fun aP aQ bi (aR:jL aQ aP 47 (tX ch).toArray) aS=>(W.ef rfl rfl rfl (Ef.mH rfl fun aT ae bj (aU:jL ae aT 55 #[.int .i64 no,.int .i64 h0,.int .i64 h1,.slice none 0 0,.int .i64 (rt)]) af=>(Wn 1 rfl (Nx (Sq (Sr ?_)))))))))
 have J:=(aR.le af)
 refine Wr (.jK pU (by rfl) rfl J) rfl ?_
 refine W.cl Yc rfl rfl (J2 ch hcp ae) ?_
 rintro _ aV ⟨rfl,i⟩
 have L4:=(((Le.refl w).trans aS).trans af).trans i
 refine Wn 1 rfl ?_
 by_cases ah:(FO ch.am)≠0
 ·refine Dt ah rfl rfl (Wn 30 rfl (Nx (WC.jS rfl (Sr (Wn 1 rfl (Nx (Rt (E.jH (E.jI rfl rfl ?_)))))))))
  exact⟨rB (by unfold yj;rw[dF (fun h=>absurd (Ru h) (by assumption))];rfl),L4⟩
 refine Df ah rfl rfl (Wg (Any.rd (.jE Qs rfl) _) rfl ?_)
 have f5:=(aU.le i)
 refine Wg (.jF (v:= .int .i64 no) j5 rfl f5 rfl) rfl (W.mY rfl rfl rfl rfl rfl rfl (Ef.jX (len:=1) [_] underlying67 Mf rfl (by simp[Value.cells]) rfl (by decide) (by decide) ?_))
 intro ai K aW L j
 have L:jL K ai 3 (([no]).map iv).flatten.toArray:=L
 have aX:jO K aV.heap.size 3 iv 1 (some ⟨ai,0,none⟩) 1 1 ([no]):=L.pQ aW kr rfl rfl (by decide)
 refine W.mY rfl rfl rfl rfl rfl rfl (Ef.call VJ rfl rfl (by have k:=Bp (c:=1) 0 1048576 K aX.vec;rw[MC (n:=no) (lo:=0) (hi:=1048576) (by omega)]at k;exact k) ?_)
 rintro _ aY ⟨rfl,l⟩
 refine⟨_,rfl,?_⟩
 refine Wn 3 rfl (Wg (Any.rd (.jE lT rfl) _) rfl (Wg (Any.rd (.j3 0 underlying52 kz rfl rfl rfl (by omega)) _) rfl ?_))
 have N:=(f5.le (j.trans l))
 refine Wg (.jF (v:= .int .i64 h0) j5 rfl N rfl) rfl (Wg (Any.rd (.jE lT rfl) _) rfl (Wg (Any.rd (.j3 1 underlying52 kz rfl rfl rfl (by omega)) _) rfl (Wg (.jF (v:= .int .i64 h1) j5 rfl N rfl) rfl (W.mY rfl rfl rfl rfl rfl rfl (Ef.jX (len:=2) [_,_] underlying67 Mf rfl (by simp[Value.cells]) rfl (by decide) (by decide) ?_)))))
 intro aj O aZ P m
 have P:jL O aj 3 (([h0,h1]).map iv).flatten.toArray:=P
 have a0:jO O aY.heap.size 3 iv 1 (some ⟨aj,0,none⟩) 2 2 ([h0,h1]):=P.pQ aZ kr rfl rfl (by decide)
 refine W.mY rfl rfl rfl rfl rfl rfl (Ef.call VJ rfl rfl (by have k:=Ih (c:=2) 0 1125899906842624 O a0.vec;rw[MC (n:=h0) (lo:=0) (hi:=1125899906842624) (by omega),MC (n:=h1) (lo:=0) (hi:=1125899906842624) (by omega)]at k;exact k) ?_)
 rintro _ a1 ⟨rfl,o⟩
 refine⟨_,rfl,?_⟩
 refine Wn 3 rfl (Wg (Any.rd (.jE H5 rfl) _) rfl ?_)
 have ak:=(N.le (m.trans o))
 refine Wg (.jF (v:= .int .i64 rt) j5 rfl ak rfl) rfl (W.mY rfl rfl rfl rfl rfl rfl (Ef.jX (len:=1) [_] underlying67 Mf rfl (by simp[Value.cells]) rfl (by decide) (by decide) ?_))
 intro al Q a2 R s
 have R:jL Q al 3 (([rt]).map iv).flatten.toArray:=R
 have a3:jO Q a1.heap.size 3 iv 1 (some ⟨al,0,none⟩) 1 1 ([rt]):=R.pQ a2 kr rfl rfl (by decide)
 refine W.mY rfl rfl rfl rfl rfl rfl (Ef.call VJ rfl rfl (by have k:=Bp (c:=1) 0 1000 Q a3.vec;rw[MC (n:=rt) (lo:=0) (hi:=1000) (by omega)]at k;exact k) ?_)
 rintro _ bk ⟨rfl,t⟩
 refine⟨_,rfl,?_⟩
 have u:=(((((L4.trans j).trans l).trans m).trans o).trans s).trans t
 refine Wn 3 rfl (Wg (Any.rd (.jE tu rfl) _) rfl ?_)
 have d:=(ak.le (s.trans t))
 refine Wg (.jF (v:= .slice none 0 0) EG rfl d rfl) rfl (Wg (.len underlying53 rfl) rfl (Wg (Any.rd (.dec (.gtr rfl rfl) (show _=false from by first|decide|rfl)) _) rfl ?_))
 refine Wn 1 rfl (Nx (WC.kF rfl (Sn (Sq (Sr (Wa (.jE tu rfl) rfl (Wr (.jF (v:= .slice none 0 0) EG rfl d rfl) rfl (Wr (.len underlying53 rfl) rfl (Wn 1 rfl (Nx (WC.block (WC.rounds 1 ?_))))))))))))
 refine qK.step (Sr (Wa (.dec (.lss rfl rfl) (show _=false from by first|decide|rfl)) rfl ?_))
 refine Nx (Sq (WC.kF rfl (WC.exit (E.jJ (E.jJ (E.ko (E.jG (Sq (Sr (Wa (.jE pV rfl) rfl ?_))))))))))
 by_cases bl:ch.op=0
 ·have x:=(J.le (i.trans (j.trans (l.trans (m.trans (o.trans (s.trans t)))))))
  refine Wr (.mV [.int .i64 100,.int .i64 200,.int .i64 5,.int .i64 16,.int .i64 1,.int .i64 1125899906842624,.int .i64 100,.int .i64 200,.int .i64 6,.int .i64 16,.int .i64 1,.int .i64 (1125899906842624)] VB rfl (by decide) rfl x rfl) rfl (Wn 1 rfl (Nx (WC.block (WC.rounds 3 (qK.step (Sr (Wa (.dec (.lss rfl rfl) (show _=true from by first|decide|rfl)) rfl ?_)))))))
  refine Nx (Sq (WC.jS rfl (Sn (Sq (WC.block (Sr (Wn 1 rfl (Wa (.vC 0 [.int .i64 100,.int .i64 200,.int .i64 5,.int .i64 16,.int .i64 1,.int .i64 (1125899906842624)] underlying45 rD FH rfl rfl rfl (by omega) rfl) rfl (W.ef rfl rfl rfl (Ef.jR z44 fun an a4 a5 (a6:jL a4 an 44 #[.int .i64 0,.int .i64 0,.int .i64 0,.int .i64 0,.int .i64 0,.int .i64 (0)]) y=>(Wn 1 rfl (W.sA rD rfl rfl a6 ?_))))))))))))
  intro ao S z
  have S:jL ao an 44 #[.int .i64 100,.int .i64 200,.int .i64 5,.int .i64 16,.int .i64 1,.int .i64 (1125899906842624)]:=S
  refine Nx (Sr ?_)
  have T:=((d.le y).cn z (by have:=d.lt;omega))
  refine Wr (.jK nU (by rfl) rfl T) rfl ?_
  refine Wn 1 rfl (W.cl Tv rfl rfl (BF no h0 h1 rt 0 ao) ?_)
  rintro _ bm ⟨rfl,e⟩
  have ap:=((u.trans y).tb z u a5).trans e
  refine Wn 5 rfl (Nx (Sr (Wn 1 rfl (Wa (.jE xW rfl) rfl ?_))))
  have aq:=(S.le e)
  refine Wr (.jF (v:= .int .i64 16) j5 rfl aq rfl) rfl (Wa (.dec (.gtr rfl rfl) (show _=false from by first|decide|rfl)) rfl ?_)
  refine Wn 2 rfl (Wg (Any.rd (.jE xX rfl) _) rfl (Wg (.jF (v:= .int .i64 1125899906842624) j5 rfl aq rfl) rfl (Wg (Any.rd (.dec (.gtr rfl rfl) (show _=false from by first|decide|rfl)) _) rfl ?_)))
  refine Wn 1 rfl (Nx (WC.kF rfl (WC.skip (E.jZ (E.jG (WC.region (Wa (.as (.add rfl rfl (by decide)) rfl) rfl (Wn 1 rfl (W.nil (E.round (qK.step (Sr ?_))))))))))))
  refine Wa (.dec (.lss rfl rfl) (show _=true from by first|decide|rfl)) rfl ?_
  refine Nx (Sq (WC.jS rfl (Sn (Sq (WC.block (Sr (Wn 1 rfl (Wa (.vC 1 [.int .i64 100,.int .i64 200,.int .i64 6,.int .i64 16,.int .i64 1,.int .i64 (1125899906842624)] underlying45 rD FH rfl rfl rfl (by omega) rfl) rfl (W.ef rfl rfl rfl (Ef.jR z44 fun ar a7 a8 (a9:jL a7 ar 44 #[.int .i64 0,.int .i64 0,.int .i64 0,.int .i64 0,.int .i64 0,.int .i64 (0)]) U=>(Wn 1 rfl (W.sA rD rfl rfl a9 ?_))))))))))))
  intro au V X
  have V:jL au ar 44 #[.int .i64 100,.int .i64 200,.int .i64 6,.int .i64 16,.int .i64 1,.int .i64 (1125899906842624)]:=V
  refine Nx (Sr ?_)
  have av:=((T.le (e.trans U)).cn X (by have:=T.lt;have:=e.size;omega))
  refine Wr (.jK nU (by rfl) rfl av) rfl ?_
  refine Wn 1 rfl (W.cl Tv rfl rfl (BF no h0 h1 rt 1 au) ?_)
  rintro _ bn ⟨rfl,A⟩
  refine Wn 5 rfl (Nx (Sr (Wn 1 rfl (Wa (.jE xW rfl) rfl ?_))))
  have aw:=(V.le A)
  refine Wr (.jF (v:= .int .i64 16) j5 rfl aw rfl) rfl (Wa (.dec (.gtr rfl rfl) (show _=false from by first|decide|rfl)) rfl ?_)
  refine Wn 2 rfl (Wg (Any.rd (.jE xX rfl) _) rfl (Wg (.jF (v:= .int .i64 1125899906842624) j5 rfl aw rfl) rfl (Wg (Any.rd (.dec (.gtr rfl rfl) (show _=false from by first|decide|rfl)) _) rfl ?_)))
  refine Wn 1 rfl (Nx (WC.kF rfl (WC.skip (E.jZ (E.jG (WC.region (Wa (.as (.add rfl rfl (by decide)) rfl) rfl (Wn 1 rfl (W.nil (E.round (qK.step (Sr ?_))))))))))))
  refine Wa (.dec (.lss rfl rfl) (show _=false from by first|decide|rfl)) rfl ?_
  refine Nx (Sq (WC.kF rfl (WC.exit (E.jJ (E.jJ (E.ko (E.jG (Sq (WC.draw [0,2,3,1,4,5,6,7,8,9,10,11,12,13,14,15,16] mixed (by kernel_rfl) fun Y b=>?_)))))))))
  have ax:=(av.le (A.trans b))
  refine Gd rfl (.jK nU (by rfl) rfl ax) ?_
  refine Ga rfl (.jE qA rfl) ?_
  have ay:=(((((x.le y).cn z (by have:=x.lt;omega)).le (e.trans U)).cn X (by have:=x.lt;have:=y.size;have:=z.size;have:=e.size;omega)).le (A.trans b))
  refine Gd rfl (.jF (v:= .int .i64 ch.am) j5 rfl ay rfl) (G.ef rfl rfl rfl rfl rfl (Ef.call Ym rfl rfl (J3 no h0 h1 rt (by omega) Y) ?_))
  rintro _ ba ⟨rfl,B⟩
  refine⟨_,rfl,?_⟩
  refine⟨fun _=>B,?_⟩
  refine Ga rfl (.dec (.eql rfl rfl) (dT (by omega))) (Gn 1 rfl (oJ rfl (.jE vF rfl) ?_))
  have az:=(ay.le B)
  refine uw rfl (.jF (v:= .int .i64 ch.op) j5 rfl az rfl) (oJ rfl (.jE lT rfl) (oJ rfl (.j3 0 underlying52 kz rfl rfl (by omega) (by omega)) ?_))
  have aA:=(ax.le B)
  refine uw rfl (.jF (v:= .int .i64 h0) j5 rfl aA rfl) (uw rfl (.jK pU (by rfl) rfl az) ?_)
  refine uw rfl (.jK nU (by rfl) rfl aA) ?_
  refine G.mY rfl rfl rfl rfl rfl rfl rfl rfl (Ef.call Yn rfl rfl (GK ch no h0 h1 rt (by omega) ba) ?_)
  rintro _ bo ⟨rfl,aB⟩
  refine⟨_,rfl,?_⟩
  refine⟨fun _=>aB,?_⟩
  refine Gn 3 rfl (G.nil (E.jG (Rt (E.jI rfl rfl ?_))))
  exact⟨rB (by unfold yj;have hf:=(Decidable.not_not.1 (fun h=>(Rv h) (by omega)):400<=ch.am/\ch.am<=1125899906842624);rw[dT hf,Bool.true_and];first|rw[if_pos (by assumption)]|rw[if_neg (by assumption)]),((((((ap.trans U).tb X ap a8).trans A).trans b).trans B).trans aB)⟩
 have C:=(J.le (i.trans (j.trans (l.trans (m.trans (o.trans (s.trans t)))))))
 refine Wr (.mV [.int .i64 100,.int .i64 200,.int .i64 5,.int .i64 16,.int .i64 1,.int .i64 1125899906842624,.int .i64 100,.int .i64 200,.int .i64 6,.int .i64 16,.int .i64 1,.int .i64 (1125899906842624)] VB rfl (by decide) rfl C rfl) rfl (Wn 1 rfl (Nx (WC.block (WC.rounds 3 (qK.step (Sr (Wa (.dec (.lss rfl rfl) (show _=true from by first|decide|rfl)) rfl ?_)))))))
 refine Nx (Sq (WC.jS rfl (Sn (Sq (WC.block (Sr (Wn 1 rfl (Wa (.vC 0 [.int .i64 100,.int .i64 200,.int .i64 5,.int .i64 16,.int .i64 1,.int .i64 (1125899906842624)] underlying45 rD FH rfl rfl rfl (by omega) rfl) rfl (W.ef rfl rfl rfl (Ef.jR z44 fun aC bb bc (bd:jL bb aC 44 #[.int .i64 0,.int .i64 0,.int .i64 0,.int .i64 0,.int .i64 0,.int .i64 (0)]) D=>(Wn 1 rfl (W.sA rD rfl rfl bd ?_))))))))))))
 intro aD Z F
 have Z:jL aD aC 44 #[.int .i64 100,.int .i64 200,.int .i64 5,.int .i64 16,.int .i64 1,.int .i64 (1125899906842624)]:=Z
 refine Nx (Sr ?_)
 have aa:=((d.le D).cn F (by have:=d.lt;omega))
 refine Wr (.jK nU (by rfl) rfl aa) rfl ?_
 refine Wn 1 rfl (W.cl Tv rfl rfl (BF no h0 h1 rt 0 aD) ?_)
 rintro _ bp ⟨rfl,f⟩
 have aE:=((u.trans D).tb F u bc).trans f
 refine Wn 5 rfl (Nx (Sr (Wn 1 rfl (Wa (.jE xW rfl) rfl ?_))))
 have aF:=(Z.le f)
 refine Wr (.jF (v:= .int .i64 16) j5 rfl aF rfl) rfl (Wa (.dec (.gtr rfl rfl) (show _=false from by first|decide|rfl)) rfl ?_)
 refine Wn 2 rfl (Wg (Any.rd (.jE xX rfl) _) rfl (Wg (.jF (v:= .int .i64 1125899906842624) j5 rfl aF rfl) rfl (Wg (Any.rd (.dec (.gtr rfl rfl) (show _=false from by first|decide|rfl)) _) rfl ?_)))
 refine Wn 1 rfl (Nx (WC.kF rfl (WC.skip (E.jZ (E.jG (WC.region (Wa (.as (.add rfl rfl (by decide)) rfl) rfl (Wn 1 rfl (W.nil (E.round (qK.step (Sr ?_))))))))))))
 refine Wa (.dec (.lss rfl rfl) (show _=true from by first|decide|rfl)) rfl ?_
 refine Nx (Sq (WC.jS rfl (Sn (Sq (WC.block (Sr (Wn 1 rfl (Wa (.vC 1 [.int .i64 100,.int .i64 200,.int .i64 6,.int .i64 16,.int .i64 1,.int .i64 (1125899906842624)] underlying45 rD FH rfl rfl rfl (by omega) rfl) rfl (W.ef rfl rfl rfl (Ef.jR z44 fun aG be bf (bg:jL be aG 44 #[.int .i64 0,.int .i64 0,.int .i64 0,.int .i64 0,.int .i64 0,.int .i64 (0)]) ab=>(Wn 1 rfl (W.sA rD rfl rfl bg ?_))))))))))))
 intro aH ac ad
 have ac:jL aH aG 44 #[.int .i64 100,.int .i64 200,.int .i64 6,.int .i64 16,.int .i64 1,.int .i64 (1125899906842624)]:=ac
 refine Nx (Sr ?_)
 have aI:=((aa.le (f.trans ab)).cn ad (by have:=aa.lt;have:=f.size;omega))
 refine Wr (.jK nU (by rfl) rfl aI) rfl ?_
 refine Wn 1 rfl (W.cl Tv rfl rfl (BF no h0 h1 rt 1 aH) ?_)
 rintro _ bq ⟨rfl,H⟩
 refine Wn 5 rfl (Nx (Sr (Wn 1 rfl (Wa (.jE xW rfl) rfl ?_))))
 have aJ:=(ac.le H)
 refine Wr (.jF (v:= .int .i64 16) j5 rfl aJ rfl) rfl (Wa (.dec (.gtr rfl rfl) (show _=false from by first|decide|rfl)) rfl ?_)
 refine Wn 2 rfl (Wg (Any.rd (.jE xX rfl) _) rfl (Wg (.jF (v:= .int .i64 1125899906842624) j5 rfl aJ rfl) rfl (Wg (Any.rd (.dec (.gtr rfl rfl) (show _=false from by first|decide|rfl)) _) rfl ?_)))
 refine Wn 1 rfl (Nx (WC.kF rfl (WC.skip (E.jZ (E.jG (WC.region (Wa (.as (.add rfl rfl (by decide)) rfl) rfl (Wn 1 rfl (W.nil (E.round (qK.step (Sr ?_))))))))))))
 refine Wa (.dec (.lss rfl rfl) (show _=false from by first|decide|rfl)) rfl ?_
 refine Nx (Sq (WC.kF rfl (WC.exit (E.jJ (E.jJ (E.ko (E.jG (Sq (WC.draw [0,2,3,1,4,5,6,7,8,9,10,11,12,13,14,15,16] mixed (by kernel_rfl) fun Y b=>?_)))))))))
 have aK:=(aI.le (H.trans b))
 refine Gd rfl (.jK nU (by rfl) rfl aK) ?_
 refine Ga rfl (.jE qA rfl) ?_
 have aL:=(((((C.le D).cn F (by have:=C.lt;omega)).le (f.trans ab)).cn ad (by have:=C.lt;have:=D.size;have:=F.size;have:=f.size;omega)).le (H.trans b))
 refine Gd rfl (.jF (v:= .int .i64 ch.am) j5 rfl aL rfl) (G.ef rfl rfl rfl rfl rfl (Ef.call Ym rfl rfl (J3 no h0 h1 rt (by omega) Y) ?_))
 rintro _ bh ⟨rfl,I⟩
 refine⟨_,rfl,?_⟩
 refine⟨fun _=>I,?_⟩
 refine Ga rfl (.dec (.eql rfl rfl) (dT (by omega))) (Gn 1 rfl (oJ rfl (.jE vF rfl) ?_))
 have aM:=(aL.le I)
 refine uw rfl (.jF (v:= .int .i64 ch.op) j5 rfl aM rfl) (oJ rfl (.jE lT rfl) (oJ rfl (.j3 1 underlying52 kz rfl rfl (by omega) (by omega)) ?_))
 have aN:=(aK.le I)
 refine uw rfl (.jF (v:= .int .i64 h1) j5 rfl aN rfl) (uw rfl (.jK pU (by rfl) rfl aM) ?_)
 refine uw rfl (.jK nU (by rfl) rfl aN) ?_
 refine G.mY rfl rfl rfl rfl rfl rfl rfl rfl (Ef.call Yn rfl rfl (GK ch no h0 h1 rt (by omega) bh) ?_)
 rintro _ bs ⟨rfl,aO⟩
 refine⟨_,rfl,?_⟩
 refine⟨fun _=>aO,?_⟩
 refine Gn 3 rfl (G.nil (E.jG (Rt (E.jI rfl rfl ?_))))
 exact⟨rB (by unfold yj;have hf:=(Decidable.not_not.1 (fun h=>(Rv h) (by omega)):400<=ch.am/\ch.am<=1125899906842624);rw[dT hf,Bool.true_and];first|rw[if_pos (by assumption)]|rw[if_neg (by assumption)]),((((((aE.trans ab).tb ad aE bf).trans H).trans b).trans I).trans aO)⟩

theorem J4 (w:World):Calls prog 74 #[.slice none 0 0] w fun r w'=>r= .returned (.slice none 0 0)/\Le w w':=by
 refine enter func74 rfl rfl (WC.sr (W.run 1 rfl (W.nx (WC.seq (WC.sr (W.run 1 rfl (Wa (.dec (.isNil underlying53 rfl) rfl) rfl (W.nx (WC.jS rfl (WC.sr (W.run 1 rfl (W.nx (WC.ret (E.jH (E.jI rfl rfl ?_)))))))))))))))
 exact⟨rfl,(Le.refl w)⟩

theorem Rx (no h0 h1 rt:Int)(d0 d1:Int)(hb:0<=h0/\h0<=1125899906842624/\0<=h1/\h1<=1125899906842624/\ -1125899906842624<=d0/\d0<=1125899906842624/\ -1125899906842624<=d1/\d1<=1125899906842624)(w:World):Calls prog 33 #[.agg #[.int .i64 no,.int .i64 h0,.int .i64 h1,.slice none 0 0,.int .i64 (rt)],.agg #[.int .i64 d0,.int .i64 (d1)]] w fun r w'=>r= .returned (.agg #[.int .i64 no,.int .i64 (h0+d0),.int .i64 (h1+d1),.slice none 0 0,.int .i64 rt])/\Le w w':=by
 refine enter func33 rfl rfl ?_
 have d:=Le.refl w
 refine Sr (W.ef rfl rfl rfl (Ef.mH rfl fun e B j (b:jL B e 55 #[.int .i64 no,.int .i64 h0,.int .i64 h1,.slice none 0 0,.int .i64 (rt)]) C=>(W.ef rfl rfl rfl (Ef.mH rfl fun D F Q (H:jL F D 52 #[.int .i64 d0,.int .i64 (d1)]) c=>?_))))
 have s:=(d.trans C).trans c
 refine W.ef rfl rfl rfl (Ef.jR z55 fun t I J (K:jL I t 55 #[.int .i64 0,.int .i64 0,.int .i64 0,.slice none 0 0,.int .i64 (0)]) k=>(Nx (Sr (Wa (.jE lT rfl) rfl (Wa (.j3 0 underlying52 kz rfl rfl rfl (by omega)) rfl ?_)))))
 have u:=(b.le (c.trans k))
 refine Wr (.jF (v:= .int .i64 h0) j5 rfl u rfl) rfl (Wa (.j3 0 underlying52 kz rfl rfl rfl (by omega)) rfl ?_)
 have x:=(H.le k)
 refine Wr (.jF (v:= .int .i64 d0) j5 rfl x rfl) rfl (Wa (.add rfl rfl (by omega)) rfl (Wa (.jE lT rfl) rfl (Wa (.j3 0 underlying52 kz rfl rfl rfl (by omega)) rfl (W.kP rfl rfl (Ef.store kz rfl rfl u (by first|decide|(simp;done)) rfl ?_)))))
 intro L f l
 have f:jL L e 55 #[.int .i64 no,.int .i64 (h0+d0),.int .i64 h1,.slice none 0 0,.int .i64 (rt)]:=f
 refine Nx (Sr (Wa (.jE lT rfl) rfl (Wa (.j3 1 underlying52 kz rfl rfl rfl (by omega)) rfl (Wr (.jF (v:= .int .i64 h1) j5 rfl f rfl) rfl (Wa (.j3 1 underlying52 kz rfl rfl rfl (by omega)) rfl (Wr (.jF (v:= .int .i64 d1) j5 rfl (x.cn l (by have:=b.lt;omega)) rfl) rfl ?_))))))
 refine Wa (.add rfl rfl (by omega)) rfl (Wa (.jE lT rfl) rfl (Wa (.j3 1 underlying52 kz rfl rfl rfl (by omega)) rfl (W.kP rfl rfl (Ef.store kz rfl rfl f (by first|decide|(simp;done)) rfl ?_))))
 intro y i z
 have i:jL y e 55 #[.int .i64 no,.int .i64 (h0+d0),.int .i64 (h1+d1),.slice none 0 0,.int .i64 (rt)]:=i
 refine Nx (Sr (Wa (.jE tu rfl) rfl (Wr (.jF (v:= .slice none 0 0) EG rfl i rfl) rfl (W.cl aa2 rfl rfl (J4 y) ?_))))
 rintro _ R ⟨rfl,m⟩
 refine Wa (.jE tu rfl) rfl (W.kP rfl rfl (Ef.store VD rfl rfl (i.le m) (by first|decide|(simp;done)) rfl ?_))
 intro N n A
 have n:jL N e 55 #[.int .i64 no,.int .i64 (h0+d0),.int .i64 (h1+d1),.slice none 0 0,.int .i64 (rt)]:=n
 refine Nx (Sr (Wr (.jK nU (by rfl) rfl n) rfl ?_))
 refine W.sA xS rfl rfl ((((K.cn l (by have:=b.lt;have:=c.size;omega)).cn z (by have:=b.lt;have:=c.size;omega)).le m).cn A (by have:=b.lt;have:=c.size;omega)) ?_
 intro O o P
 have o:jL O t 55 #[.int .i64 no,.int .i64 (h0+d0),.int .i64 (h1+d1),.slice none 0 0,.int .i64 (rt)]:=o
 refine Nx (Rt (E.jI rfl (lS rfl o nU (by rfl)) ?_))
 exact⟨rfl,((((((s.trans k).tb l d j).tb z d j).trans m).tb A d j).tb P s J)⟩

theorem Ir (n lo:Int)(w:World):Calls prog 113 #[.int .i64 n,.int .i64 (lo)] w fun r w'=>r= .returned (.bool (l8 n lo 1099511627776))/\Le w w':=by
 refine enter func113 rfl rfl ?_
 have c:=Le.refl w
 refine Sr (Wn 1 rfl (Nx (Sr (Wn 3 rfl ?_))))
 by_cases b:lo<=n
 ·refine Dt b rfl rfl (Wn 4 rfl (Nx (Rt (E.jI rfl rfl ?_))))
  exact⟨(by first|rfl|(simp[l8,b];done)|(simp[l8,b];omega)|(simp[l8,b];split<;>first|(exfalso;omega)|(simp;done)|(simp;omega))),c⟩
 refine Df b rfl rfl (Wn 4 rfl (Nx (Rt (E.jI rfl rfl ?_))))
 exact⟨(by first|rfl|(simp[l8,b];done)|(simp[l8,b];omega)|(simp[l8,b];split<;>first|(exfalso;omega)|(simp;done)|(simp;omega))),c⟩

set_option maxHeartbeats 2000000 in
theorem GL {xD xB:Option Addr} {tY iC0 sP oC0:Nat} {cs0:List Ke} {zi:List uO} {os0:List nC} (rW:Int) (w:World) (hI0:Vec w JQ 34 xD tY cs0) (Fw:Vec w xC 2 xB sP zi) (Lu:oF w 0 zi os0):Calls prog 73 #[.agg #[.slice xD tY iC0,.slice xB sP oC0,.int .i64 (rW)]] w fun r w'=>∃d ok,r= .returned (.tuple #[.int .i64 d,.bool ok])/\(ok=true->JZ cs0 os0 rW d)/\(-17592186044416<=d/\d<=17592186044416)/\Le w w':=by
 have ax:=hI0.1;have ay:=Fw.1;have az:=Lu.1
 refine enter func73 rfl rfl (Sr (W.ef rfl rfl rfl (Ef.mH rfl fun x L aA (f:jL L x 33 #[.slice xD tY iC0,.slice xB sP oC0,.int .i64 (rW)]) ak=>?_)))
 have A:=(Le.refl w).trans ak
 refine Wn 2 rfl (Nx (Sr (Wn 1 rfl (Nx (Sq (Sr (Wa (.jE vD rfl) rfl (Wr (.jF (v:= .slice xD tY iC0) FF rfl f rfl) rfl (Wr (.len underlying30 rfl) rfl (Wn 1 rfl ?_))))))))))
 by_cases N:8<((tY:Nat):Int)
 ·refine Dt N rfl rfl (Wn 12 rfl (Nx (WC.jS rfl (Sr (Wn 2 rfl (Nx (Rt (E.jH (E.mI rfl rfl rfl ?_)))))))))
  exact⟨0,false,rfl,fun h=>absurd h (by decide),by omega,A⟩
 refine Df N rfl rfl (Wg (Any.rd (.jE tq rfl) _) rfl (Wg (.jF (v:= .slice xB sP oC0) sW rfl f rfl) rfl (Wg (.len underlying31 rfl) rfl (Wn 2 rfl ?_))))
 by_cases O:8<((sP:Nat):Int)
 ·refine Dt O rfl rfl (Wn 6 rfl (Nx (WC.jS rfl (Sr (Wn 2 rfl (Nx (Rt (E.jH (E.mI rfl rfl rfl ?_)))))))))
  exact⟨0,false,rfl,fun h=>absurd h (by decide),by omega,A⟩
 refine Df O rfl rfl (Wn 1 rfl (Wg (Any.rd (.jE vE rfl) _) rfl (Wg (.jF (v:= .int .i64 rW) j5 rfl f rfl) rfl (W.mY rfl rfl rfl rfl rfl rfl (Ef.call Qg rfl rfl (Ir rW 0 L) ?_)))))
 rintro _ al ⟨rfl,P⟩
 refine⟨_,rfl,?_⟩
 have Q:=A.trans P
 refine Wn 2 rfl (Nx ?_)
 by_cases R:(l8 rW 0 1099511627776)=true
 ·refine Cn rfl (congrArg not R) (Sn (Sr ?_))
  have hfe:0<=rW/\rW<=1099511627776:=(by have h:l8 rW 0 1099511627776=true:=(by assumption);unfold l8 at h;exact of_decide_eq_true h)
  refine Wa (.jE vE rfl) rfl ?_
  have B:=(f.le P)
  refine Wr (.jF (v:= .int .i64 rW) j5 rfl B rfl) rfl (Wa (.Te underlying3 rfl (by omega)) rfl (Wn 1 rfl (Nx (Sq (Sr (Wa (.jE vD rfl) rfl (Wr (.jF (v:= .slice xD tY iC0) FF rfl B rfl) rfl (Wr (.len underlying30 rfl) rfl ?_))))))))
  refine Wn 1 rfl (Nx (WC.block (WC.loop (ι:=Nat×Int) (fun⟨k,t⟩=>[(1,.pointer (some ⟨x,0,none⟩)),(2,.int .i64 t),(4,.func (.func 113) #[] #[]),(30,.slice xD tY iC0),(31,.int .i64 ((tY:Nat):Int)),(32,.int .i64 ((k:Nat):Int))]) (fun⟨k,t⟩ e=>(k<=tY)/\(t= -rW+((cs0.take k).map (·.am)).sum)/\(-1099511627776<=t/\t<=k*1099511627776)/\(∀i,i<k->1<=(cs0.getD i lH).am/\(cs0.getD i lH).am<=1099511627776)/\Le w e/\al.heap.size<=e.heap.size/\jL e x 33 #[.slice xD tY iC0,.slice xB sP oC0,.int .i64 (rW)]) (fun⟨k,t⟩=>tY-k) (0,(-rW)) ?_ ?_ ?_)))
  ·exact .of rfl
  ·exact⟨Nat.zero_le _,(by simp),(by omega),(fun i h=>absurd h (Nat.not_lt_zero i)),Q,Nat.le_refl _,B⟩
  rintro⟨k,t⟩ e ⟨hk,ht,htb,hcA,l,an,C⟩
  refine Sr (Wn 1 rfl (Nx (Sq ?_)))
  by_cases S:((k:Nat):Int)<((tY:Nat):Int)
  ·refine Cy rfl (dT S) (Sn (Sq (WC.block (Sr (Wa (.lL k underlying30 Hz rfl rfl (hI0.isSome nK (by omega)) rfl (by omega)) rfl (Wr (.tH VE rfl (hI0.le l) nK (lF cs0 lH (by omega))) rfl (W.ef rfl rfl rfl (Ef.jR z72 ?_))))))))
   intro T ao ap D F
   have D:jL ao T 72 (JQ lH).toArray:=D
   refine W.kP rfl rfl (Ef.storeAll Hz (by rfl) rfl rfl D (by simp only[List.size_toArray,nK.len]) (nK.one (cs0.getD k lH)) ?_)
   intro U m H
   have m:jL U T 72 (JQ (cs0.getD k lH)).toArray:=m
   refine Nx (Sq (Sr (Wn 1 rfl (Wa (.jE H6 rfl) rfl (Wr (.jF (v:= .int .i64 ((cs0.getD k lH).am)) j5 rfl m rfl) rfl (W.cl Qg rfl rfl (Ir ((cs0.getD k lH).am) 1 U) ?_))))))
   rintro _ aB ⟨rfl,n⟩
   have V:=((l.trans F).tb H l ap).trans n
   refine Wn 1 rfl (Nx ?_)
   by_cases X:(l8 ((cs0.getD k lH).am) 1 1099511627776)=true
   ·refine Cn rfl (congrArg not X) (Sn (WC.region ?_))
    have hce:1<=(cs0.getD k lH).am/\(cs0.getD k lH).am<=1099511627776:=(by have h:l8 ((cs0.getD k lH).am) 1 1099511627776=true:=(by assumption);unfold l8 at h;exact of_decide_eq_true h)
    refine Wn 1 rfl (Wa (.jE H6 rfl) rfl (Wr (.jF (v:= .int .i64 ((cs0.getD k lH).am)) j5 rfl (m.le n) rfl) rfl (Wa (.add rfl rfl (by omega)) rfl (Wn 1 rfl (W.nil (E.jZ (E.jG (WC.region (Wa (.add rfl rfl (by omega)) rfl ?_)))))))))
    refine Wn 1 rfl (W.nil ?_)
    have f8:=(((C.le F).cn H (by have:=C.lt;omega)).le n)
    refine E.again (k+1,(t+(cs0.getD k lH).am)) (.of rfl) ?_ ?_
    ·exact⟨by omega,(by rw[wG (z:=lH) (by omega),ht];omega),(by omega),(Rw hcA hce),V,by have:=an;have:=F.size;have:=H.size;have:=n.size;omega,f8⟩
    first|omega|(simp only[];omega)
   refine Cy rfl (congrArg not (Bool.eq_false_iff.2 X)) (Sr (Wn 2 rfl (Nx (Rt (E.jH (E.j4 (E.jH (E.jH (E.j4 (E.jH (E.mI rfl rfl rfl ?_)))))))))))
   exact⟨0,false,rfl,fun h=>absurd h (by decide),by omega,V⟩
  refine Cn rfl (dF S) (WC.exit (E.jJ (E.jJ (E.ko (E.jG (Sq (Sr (Wa (.jE tq rfl) rfl (Wr (.jF (v:= .slice xB sP oC0) sW rfl C rfl) rfl (Wr (.len underlying31 rfl) rfl (Wn 1 rfl (Nx (WC.block ?_)))))))))))))
  refine WC.loop (ι:=Nat×Int) (fun⟨j,b⟩=>[(2,.int .i64 b),(4,.func (.func 113) #[] #[]),(47,.slice xB sP oC0),(48,.int .i64 ((sP:Nat):Int)),(49,.int .i64 ((j:Nat):Int))]) (fun⟨j,b⟩ I=>(j<=sP)/\(b=t-((os0.take j).map (·.am)).sum)/\(-1099511627776-j*1099511627776<=b/\b<=8796093022208)/\(∀i,i<j->0<=(os0.getD i oO).am/\(os0.getD i oO).am<=1099511627776)/\Le w I/\e.heap.size<=I.heap.size) (fun⟨j,b⟩=>sP-j) (0,t) ?_ ?_ ?_
  ·exact .of rfl
  ·exact⟨Nat.zero_le _,(by simp),(by omega),(fun i h=>absurd h (Nat.not_lt_zero i)),l,Nat.le_refl _⟩
  rintro⟨j,b⟩ I ⟨hj,Y,aC,hoA,o,aq⟩
  refine Sr (Wn 1 rfl (Nx (Sq ?_)))
  by_cases Z:((j:Nat):Int)<((sP:Nat):Int)
  ·refine Cy rfl (dT Z) (Sn (Sq (WC.block (Sr ?_))))
   have y:=Lu.2 j (by omega)
   have ya:=y.am;have yf:=y.few
   obtain⟨ry,aa,ab⟩:=y.rows
   have yk:=aa.1;have yl:=ab.1
   refine Wa (.lL j underlying31 Cq rfl rfl (Fw.isSome kV (by omega)) rfl (by omega)) rfl (Wr (.tH Tk rfl (Fw.le o) kV (lF zi kQ (by omega))) rfl (W.ef rfl rfl rfl (Ef.jR z77 fun ac ar au (av:jL ar ac 77 #[.int .i64 0,.slice none 0 0]) ad=>(W.kP rfl rfl (Ef.storeAll Cq (by rfl) rfl rfl av (by rfl) (kV.one (zi.getD j kQ)) ?_)))))
   intro ae s af
   have s:jL ae ac 77 (xC (zi.getD j kQ)).toArray:=s
   refine Nx (Sq (Sr (Wn 1 rfl (Wa (.jE Ct rfl) rfl (Wr (.jF (v:= .int .i64 ((zi.getD j kQ).am)) j5 rfl s rfl) rfl (W.cl Qg rfl rfl (Ir ((zi.getD j kQ).am) 0 ae) ?_))))))
   rintro _ aw ⟨rfl,J⟩
   have u:=((o.trans ad).tb af o au).trans J
   refine Wn 1 rfl ?_
   by_cases ah:(l8 ((zi.getD j kQ).am) 0 1099511627776)=true
   ·refine Wa (.dec (.move rfl) (congrArg not ah)) rfl (Wg (Any.rd (.jE zy rfl) _) rfl ?_)
    have ai:=(s.le J)
    refine Wg (.mV [.slice ((zi.getD j kQ).bA) ((zi.getD j kQ).bN) ((zi.getD j kQ).bC)] sM rfl (by decide) rfl ai rfl) rfl (W.mY rfl rfl rfl rfl rfl rfl (Ef.call Gm rfl rfl (uk (c:=((zi.getD j kQ).bC)) aw (aa.le u) (ab.le u) (by omega)) ?_))
    rintro _ aD ⟨rfl,K⟩
    refine⟨_,rfl,?_⟩
    have aj:=u.trans K
    refine Wn 2 rfl (Nx ?_)
    by_cases c4:(sj ((os0.getD j oO).bs))=true
    ·refine Cn rfl (congrArg not c4) (Sn (WC.region ?_))
     have hoe:0<=(zi.getD j kQ).am/\(zi.getD j kQ).am<=1099511627776:=(by have h:l8 ((zi.getD j kQ).am) 0 1099511627776=true:=(by assumption);unfold l8 at h;exact of_decide_eq_true h)
     refine Wn 1 rfl (Wa (.jE Ct rfl) rfl (Wr (.jF (v:= .int .i64 ((zi.getD j kQ).am)) j5 rfl (ai.le K) rfl) rfl (Wa (.sub rfl rfl (by omega)) rfl (Wn 1 rfl (W.nil (E.jZ (E.jG (WC.region (Wa (.add rfl rfl (by omega)) rfl ?_)))))))))
     refine Wn 1 rfl (W.nil (E.again (j+1,(b-(zi.getD j kQ).am)) (.of rfl) ?_ ?_))
     ·exact⟨by omega,(by rw[wG (z:=oO) (by omega),Y,ya];omega),(by omega),(Rw hoA (by rw[<-ya];exact hoe)),aj,by have:=aq;have:=ad.size;have:=af.size;have:=J.size;have:=K.size;omega⟩
     first|omega|(simp only[];omega)
    refine Cy rfl (congrArg not (Bool.eq_false_iff.2 c4)) (Sr (Wn 2 rfl (Nx (Rt (E.jH (E.j4 (E.jH (E.jH (E.j4 (E.jH (E.mI rfl rfl rfl ?_)))))))))))
    exact⟨0,false,rfl,fun h=>absurd h (by decide),by omega,aj⟩
   refine Wa (.dec (.move rfl) (congrArg not (Bool.eq_false_iff.2 ah))) rfl (Wn 5 rfl (Nx (WC.jS rfl (Sr (Wn 2 rfl (Nx (Rt (E.jH (E.j4 (E.jH (E.jH (E.j4 (E.jH (E.mI rfl rfl rfl ?_))))))))))))))
   exact⟨0,false,rfl,fun h=>absurd h (by decide),by omega,u⟩
  refine Cn rfl (dF Z) (WC.exit (E.jJ (E.jJ (E.ko (E.jG (Sr (Wn 3 rfl (Nx (Rt (E.mI rfl rfl rfl ?_))))))))))
  have hcl:cs0.length<=8/\os0.length<=8:=(by omega)
  rw[List.take_of_length_le (by omega)]at ht Y
  exact⟨_,true,rfl,fun _=>⟨by omega,hfe,hcl.1,hcl.2,by omega,by omega,fun i hi=>hcA i (by omega),fun i hi=>hoA i (by omega)⟩,by omega,o⟩
 refine Cy rfl (congrArg not (Bool.eq_false_iff.2 R)) (Sr (Wn 2 rfl (Nx (Rt (E.jH (E.mI rfl rfl rfl ?_))))))
 exact⟨0,false,rfl,fun h=>absurd h (by decide),by omega,Q⟩

set_option maxHeartbeats 2000000 in
theorem Lv {xD xB:Option Addr} {tY iC0 sP oC0:Nat} {cs0:List Ke} {zi:List uO} {os0:List nC} {BZ BG:Option Addr} {xE iC1 yL oC1:Nat} {cs1:List Ke} {OG:List uO} {os1:List nC} (rW ve:Int) (w:World) (hI0:Vec w JQ 34 xD tY cs0) (Fw:Vec w xC 2 xB sP zi) (Lu:oF w 0 zi os0) (hI1:Vec w JQ 34 BZ xE cs1) (OH:Vec w xC 2 BG yL OG) (OQ:oF w 0 OG os1):Calls prog 32 #[.agg #[.slice xD tY iC0,.slice xB sP oC0,.int .i64 rW,.slice BZ xE iC1,.slice BG yL oC1,.int .i64 (ve)]] w fun r w'=>∃d0 d1 ok,r= .returned (.tuple #[.agg #[.int .i64 d0,.int .i64 d1],.bool ok])/\(ok=true->JZ cs0 os0 rW d0/\JZ cs1 os1 ve d1)/\Le w w':=by
 have ar:=hI0.1;have au:=Fw.1;have av:=Lu.1
 have aw:=hI1.1;have ax:=OH.1;have ay:=OQ.1
 refine enter func32 rfl rfl (Sr (W.ef rfl rfl rfl (Ef.mH rfl fun O P az (Q:jL P O 34 #[.slice xD tY iC0,.slice xB sP oC0,.int .i64 rW,.slice BZ xE iC1,.slice BG yL oC1,.int .i64 (ve)]) R=>?_)))
 have b:=(Le.refl w).trans R
 refine W.ef rfl rfl rfl (Ef.jR z52 fun c S d (v:jL S c 52 #[.int .i64 0,.int .i64 (0)]) x=>?_)
 have y:=b.trans x
 refine Wn 1 rfl (Nx (Sq (Sr (Wr (.jK Ti (by rfl) rfl (Q.le x)) rfl ?_))))
 refine Wn 1 rfl (Nx (WC.block (WC.rounds 3 (qK.step (Sr (Wa (.dec (.lss rfl rfl) (show _=true from by first|decide|rfl)) rfl ?_))))))
 refine Nx (Sq (WC.jS rfl (Sn (Sq (WC.block (Sr (Wn 1 rfl (Wa (.vC 0 [.slice xD tY iC0,.slice xB sP oC0,.int .i64 (rW)] underlying34 qW Nw rfl rfl rfl (by omega) rfl) rfl (W.ef rfl rfl rfl (Ef.jR z33 fun z T U (V:jL T z 33 #[.slice none 0 0,.slice none 0 0,.int .i64 (0)]) A=>(Wn 1 rfl (W.sA qW rfl rfl V ?_))))))))))))
 intro B l C
 have l:jL B z 33 #[.slice xD tY iC0,.slice xB sP oC0,.int .i64 (rW)]:=l
 have j:=(y.trans A).tb C y U
 refine Nx (Sr (Wn 1 rfl (Wr (.jK Nw (by rfl) rfl l) rfl ?_)))
 refine W.cl Yo rfl rfl (GL (iC0:=iC0) (oC0:=oC0) rW B (hI0.le j) (Fw.le j) (Lu.le j)) ?_
 rintro _ aA ⟨m,X,rfl,Y,aB,D⟩
 refine Wn 3 rfl (Wa (.j3 0 underlying52 kz rfl rfl rfl (by omega)) rfl ?_)
 have Z:=(((v.le A).cn C (by have:=v.lt;omega)).le D)
 refine W.kP rfl rfl (Ef.store kz rfl rfl Z (by first|decide|(simp;done)) rfl ?_)
 intro aa e ab
 have e:jL aa c 52 #[.int .i64 m,.int .i64 (0)]:=e
 have n:=(j.trans D).tb ab b d
 refine Wn 1 rfl (Nx (Sr (Wn 2 rfl (Nx ?_))))
 by_cases f:X=true
 ·refine Cn rfl (congrArg not f) (WC.skip (E.jZ (E.jG (WC.region (Wa (.as (.add rfl rfl (by decide)) rfl) rfl (Wn 1 rfl (W.nil (E.round (qK.step ?_)))))))))
  refine Sr (Wa (.dec (.lss rfl rfl) (show _=true from by first|decide|rfl)) rfl ?_)
  refine Nx (Sq (WC.jS rfl (Sn (Sq (WC.block (Sr (Wn 1 rfl (Wa (.vC 1 [.slice BZ xE iC1,.slice BG yL oC1,.int .i64 (ve)] underlying34 qW Nw rfl rfl rfl (by omega) rfl) rfl (W.ef rfl rfl rfl (Ef.jR z33 fun F ac ad (ae:jL ac F 33 #[.slice none 0 0,.slice none 0 0,.int .i64 (0)]) H=>(Wn 1 rfl (W.sA qW rfl rfl ae ?_))))))))))))
  intro I o J
  have o:jL I F 33 #[.slice BZ xE iC1,.slice BG yL oC1,.int .i64 (ve)]:=o
  have k:=(n.trans H).tb J n ad
  refine Nx (Sr (Wn 1 rfl (Wr (.jK Nw (by rfl) rfl o) rfl ?_)))
  refine W.cl Yo rfl rfl (GL (iC0:=iC1) (oC0:=oC1) ve I (hI1.le k) (OH.le k) (OQ.le k)) ?_
  rintro _ aC ⟨K,af,rfl,ah,aD,L⟩
  refine Wn 3 rfl (Wa (.j3 1 underlying52 kz rfl rfl rfl (by omega)) rfl ?_)
  have ai:=(((e.le H).cn J (by have:=e.lt;omega)).le L)
  refine W.kP rfl rfl (Ef.store kz rfl rfl ai (by first|decide|(simp;done)) rfl ?_)
  intro aj i ak
  have i:jL aj c 52 #[.int .i64 m,.int .i64 (K)]:=i
  have N:=(k.trans L).tb ak b d
  refine Wn 1 rfl (Nx (Sr (Wn 2 rfl (Nx ?_))))
  by_cases f:af=true
  ·refine Cn rfl (congrArg not f) (WC.skip (E.jZ (E.jG (WC.region (Wa (.as (.add rfl rfl (by decide)) rfl) rfl (Wn 1 rfl (W.nil (E.round (qK.step ?_)))))))))
   refine Sr (Wa (.dec (.lss rfl rfl) (show _=false from by first|decide|rfl)) rfl ?_)
   refine Nx (Sq (WC.kF rfl (WC.exit (E.jJ (E.jJ (E.ko (E.jG (Sr (Wr (.jK vY (by rfl) rfl i) rfl ?_)))))))))
   refine W.sA FI rfl rfl i ?_
   intro al s am
   have s:jL al c 52 #[.int .i64 m,.int .i64 (K)]:=s
   refine Wn 1 rfl (Nx (Rt (E.mI rfl (lS rfl s vY (by rfl)) rfl ?_)))
   exact⟨_,_,true,rfl,fun _=>⟨Y (by assumption),ah (by assumption)⟩,(N.tb am b d)⟩
  refine Cy rfl (congrArg not (Bool.eq_false_iff.2 f)) (Sr (Wa (.mZ (cells:=#[.int .i64 0,.int .i64 0]) underlying52 kz z52 rfl rfl) rfl (W.sA FI rfl rfl i ?_)))
  intro an t ao
  have t:jL an c 52 #[.int .i64 0,.int .i64 (0)]:=t
  refine Wn 1 rfl (Nx (Rt (E.j4 (E.jH (E.jH (E.j4 (E.jH (E.mI rfl (lS rfl t vY (by rfl)) rfl ?_))))))))
  exact⟨0,0,false,rfl,fun h=>absurd h (by decide),(N.tb ao b d)⟩
 refine Cy rfl (congrArg not (Bool.eq_false_iff.2 f)) (Sr (Wa (.mZ (cells:=#[.int .i64 0,.int .i64 0]) underlying52 kz z52 rfl rfl) rfl (W.sA FI rfl rfl e ?_)))
 intro ap u aq
 have u:jL ap c 52 #[.int .i64 0,.int .i64 (0)]:=u
 refine Wn 1 rfl (Nx (Rt (E.j4 (E.jH (E.jH (E.j4 (E.jH (E.mI rfl (lS rfl u vY (by rfl)) rfl ?_))))))))
 exact⟨0,0,false,rfl,fun h=>absurd h (by decide),(n.tb aq b d)⟩
end Go.Proofs.YtcaehidaejhdfaaGreat

namespace Go.Proofs.YtcaehidaejhdfaaGreat
open Tryz
open Go Go.Sx Go.wI Go.Num Go.Ac Go.rZ Go.Lsp Go.Fv Go.Dk
set_option maxRecDepth 20000
theorem BH:oz tX 57:=⟨fun x=>by simp[tX],fun x v hv=>by
  rcases List.mem_append.1 hv with hv|hv
  · rw[(List.mem_replicate.1 hv).2];rfl
  · simp only[List.mem_cons,List.not_mem_nil,or_false]at hv
    rcases hv with rfl|rfl|rfl|rfl|rfl|rfl|rfl|rfl|rfl|rfl|rfl|rfl|rfl|rfl|rfl|rfl|rfl|rfl|rfl|rfl|rfl|rfl|rfl|rfl|rfl<;>rfl,by decide⟩
theorem MN {α:Type}{z:α}{l m:List α}{i:Nat}(h:i<l.length):(l++m).getD i z=l.getD i z:=by
  rw[List.getD_eq_getElem?_getD,List.getD_eq_getElem?_getD,List.getElem?_append_left h]
theorem MO {α:Type}{z:α}{l m:List α}{i:Nat}(h:l.length<=i):(l++m).getD i z=m.getD (i-l.length) z:=by
  rw[List.getD_eq_getElem?_getD,List.getD_eq_getElem?_getD,List.getElem?_append_right h]
structure yn where
  op:Cw
  c:IC
def yT (x:yn):List Value:=BX x.op++(tX x.c).drop 33
theorem BI:oz yT 57:=⟨fun x=>by simp[yT,qo.len,tX],fun x v hv=>by
  rcases List.mem_append.1 hv with hv|hv
  · exact qo.one _ v hv
  · exact BH.one x.c v (List.mem_of_mem_drop hv),by decide⟩
abbrev CX:={l:List Value//l.length=57/\∀v∈l,v.oneCell'=true}
abbrev SX:={l:List Value//l.length=5/\∀v∈l,v.oneCell'=true}
abbrev TX:={l:List Value//l.length=3/\∀v∈l,v.oneCell'=true}
def WO (x:CX):List Value:=x.1
def WQ (x:SX):List Value:=x.1
def ZI (x:TX):List Value:=x.1
theorem Iu:oz WO 57:=⟨fun x=>x.2.1,fun x=>x.2.2,by decide⟩
theorem Iw:oz WQ 5:=⟨fun x=>x.2.1,fun x=>x.2.2,by decide⟩
theorem Iy:oz ZI 3:=⟨fun x=>x.2.1,fun x=>x.2.2,by decide⟩
theorem oF.app {w:World}{r1 r2:List uO}{o1 o2:List nC}(h:oF w 0 r1 o1)(k:oF w 0 r2 o2):oF w 0 (r1++r2) (o1++o2):=by
  refine⟨by rw[List.length_append,List.length_append,h.1,k.1],fun i hi=>?_⟩
  rw[List.length_append]at hi
  by_cases e:i<o1.length
  · have e1:=h.2 i e
    rw[MN (by rw[h.1];exact e),MN e]
    exact e1
  · have e1:=k.2 (i-o1.length) (by omega)
    rw[MO (by rw[h.1];omega),MO (by omega),h.1]
    exact e1
theorem Un {w:World}{b1 b2:Nat}{am:Int}{A K:Option Addr}{c ck p q:Nat}(hb:jO w b1 114 yI 4 A 1 c [(⟨K,2,ck,0,0,0⟩:yH)])(hk:jO w b2 39 uN 1 K 2 ck [p,q])(hp:p<18446744073709551616)(hq:q<18446744073709551616):oF w 0 [(⟨am,A,1,c⟩:uO)] [(⟨am,[⟨[p,q],0,0,0⟩]⟩:nC)]:=by
  refine⟨rfl,fun i hi=>?_⟩
  have:i=0:=by simpa using hi
  subst this
  refine⟨rfl,(show(1:Nat)<=9223372036854775807 by decide),_,hb.vec,rfl,fun j hj=>?_⟩
  have:j=0:=by simpa using hj
  subst this
  exact⟨rfl,rfl,rfl,(show(0:Nat)<18446744073709551616 by decide),hk.vec,fun k hk=>by simp at hk;rcases hk with rfl|rfl<;>assumption⟩
theorem Ws {xs:List (BitVec 8)}{ins:List pY}{os:List nC}{note:Int}(hx:FN ins os note=true)(h1:1<=os.length)(e:∃tl,xs=JX ins os.length++tl):∃tl,JY xs ins os.length tl:=by
  obtain⟨tl,he⟩:=e
  obtain⟨k1,k2,_⟩:=BD hx
  exact⟨tl,he,k1.1,k1.2.1,h1,k1.2.2.1,fun k hk=>⟨(DI k2 hk).1,(DI k2 hk).2.1⟩⟩
structure Wt (ch:IC)(no h0 h1 rt:Int)(cs0 cs1:List Ke)(os0 os1:List nC)(rW ve:Int)(nx:List Value)(st:List Value)(d0 d1:Int):Prop where
  c0:JZ cs0 os0 rW d0
  c1:JZ cs1 os1 ve d1
  n0:0<=h0+d0
  n1:0<=h1+d1
  st:st=[.int .i64 no,.int .i64 (h0+d0),.int .i64 (h1+d1),.slice none 0 0,.int .i64 rt]
  nx:∃op,nx=yT ⟨op,{ch with am:=ch.am+(d0+d1)}⟩
set_option maxHeartbeats 4000000 in
theorem Uo (ch:IC) (no h0 h1 rt rW ve:Int) {xD xB:Option Addr} {tY iC0 sP oC0:Nat} {cs0:List Ke} {zi:List uO} {os0:List nC} {BZ BG:Option Addr} {xE iC1 yL oC1:Nat} {cs1:List Ke} {OG:List uO} {os1:List nC} (w:World) (hI0:Vec w JQ 34 xD tY cs0) (Fw:Vec w xC 2 xB sP zi) (Lu:oF w 0 zi os0) (hI1:Vec w JQ 34 BZ xE cs1) (OH:Vec w xC 2 BG yL OG) (OQ:oF w 0 OG os1) (hch:Gy ch) (hs:(0<=no/\no<=1048576)/\(0<=h0/\h0<=8589934592)/\(0<=h1/\h1<=8589934592)/\(0<=rt/\rt<=1000)/\h0+h1=ch.am) (hr:yj ch h0 h1 rt=true):Calls prog 7 #[.agg (tX ch).toArray,.agg #[.int .i64 no,.int .i64 h0,.int .i64 h1,.slice none 0 0,.int .i64 (rt)],.agg #[.slice xD tY iC0,.slice xB sP oC0,.int .i64 rW,.slice BZ xE iC1,.slice BG yL oC1,.int .i64 (ve)]] w fun r w'=>∃(nx:CX) (st:SX) (tx:TX) (e:Int),r= .returned (.tuple #[.agg (WO nx).toArray,.agg (WQ st).toArray,.agg (ZI tx).toArray,.int .i64 e])/\(e=0->∃d0 d1,Wt ch no h0 h1 rt cs0 cs1 os0 os1 rW ve nx.1 st.1 d0 d1)/\Le w w':=by
 have iY:=hI0.1;have iZ:=Fw.1;have i0:=Lu.1
 have i1:=hI1.1;have i2:=OH.1;have i3:=OQ.1
 have ham:=hch.am;have hop:=hch.op
 refine enter func7 rfl rfl (Sr (W.ef rfl rfl rfl (Ef.mH rfl fun cA gc i4 (gd:jL gc cA 47 (tX ch).toArray) gf=>(W.ef rfl rfl rfl (Ef.mH rfl fun gg gh i5 (gi:jL gh gg 55 #[.int .i64 no,.int .i64 h0,.int .i64 h1,.slice none 0 0,.int .i64 (rt)]) dJ=>(W.ef rfl rfl rfl ?_))))))
 refine Ef.mH rfl fun cB gj i6 (gk:jL gj cB 34 #[.slice xD tY iC0,.slice xB sP oC0,.int .i64 rW,.slice BZ xE iC1,.slice BG yL oC1,.int .i64 (ve)]) cC=>?_
 have L3:=(((Le.refl w).trans gf).trans dJ).trans cC
 refine W.ef rfl rfl rfl (Ef.jR z47 fun Q gl aT (n:jL gl Q 47 #[.int .u8 0,.int .u8 0,.int .u8 0,.int .u8 0,.int .u8 0,.int .u8 0,.int .u8 0,.int .u8 0,.int .u8 0,.int .u8 0,.int .u8 0,.int .u8 0,.int .u8 0,.int .u8 0,.int .u8 0,.int .u8 0,.int .u8 0,.int .u8 0,.int .u8 0,.int .u8 0,.int .u8 0,.int .u8 0,.int .u8 0,.int .u8 0,.int .u8 0,.int .u8 0,.int .u8 0,.int .u8 0,.int .u8 0,.int .u8 0,.int .u8 0,.int .u8 0,.int .i64 0,.int .i64 0,.int .u64 0,.int .u64 0,.int .u64 0,.int .u64 0,.int .u64 0,.int .u64 0,.int .u64 0,.int .u64 0,.int .u64 0,.int .u64 0,.int .i64 0,.int .i64 0,.int .i64 0,.int .i64 0,.int .i64 0,.int .i64 0,.int .i64 0,.int .i64 0,.int .i64 0,.int .i64 0,.int .i64 0,.int .i64 0,.int .i64 (0)]) bP=>?_)
 have L4:=L3.trans bP
 refine W.ef rfl rfl rfl (Ef.jR z55 fun R gm aU (F:jL gm R 55 #[.int .i64 0,.int .i64 0,.int .i64 0,.slice none 0 0,.int .i64 (0)]) A=>?_)
 have L5:=L4.trans A
 refine W.ef rfl rfl rfl (Ef.jR z61 fun S dK aV (aW:jL dK S 61 #[.slice none 0 0,.slice none 0 0,.int .i64 (0)]) T=>(Wn 1 rfl (Nx (Sq (Sr ?_)))))
 have f7:=(gd.le (dJ.trans (cC.trans (bP.trans (A.trans T)))))
 refine Wr (.jK pU (by rfl) rfl f7) rfl ?_
 refine W.cl Yc rfl rfl (J2 ch hch.p dK) ?_
 rintro _ gn ⟨rfl,z⟩
 refine Wn 1 rfl (Nx (Sr (Wn 2 rfl (Nx (Cn rfl (dF (fun h=>h (Ru hch.am))) (Sn (Sq (Sr ?_))))))))
 have f9:=(f7.le z)
 refine Wr (.jK pU (by rfl) rfl f9) rfl ?_
 have cD:=(gi.le (cC.trans (bP.trans (A.trans (T.trans z)))))
 refine Wr (.jK nU (by rfl) rfl cD) rfl ?_
 refine W.cl Yd rfl rfl (MM ch no h0 h1 rt hch.p (by omega) gn) ?_
 rintro _ gp ⟨rfl,u⟩
 have a4:=((L5.trans T).trans z).trans u
 refine Wn 1 rfl (Nx (Cn rfl (congrArg not (hr)) (Sn (Sr ?_))))
 have bQ:=(gk.le (bP.trans (A.trans (T.trans (z.trans u)))))
 refine Wr (.jK Ti (by rfl) rfl bQ) rfl ?_
 refine W.cl aaN rfl rfl (Lv (iC0:=iC0) (oC0:=oC0) (iC1:=iC1) (oC1:=oC1) rW ve gp (hI0.le a4) (Fw.le a4) (Lu.le a4) (hI1.le a4) (OH.le a4) (OQ.le a4)) ?_
 rintro _ i7 ⟨I,C,gq,rfl,gr,t⟩
 have dL:=a4.trans t
 refine Wn 1 rfl (Wa (.extract (v:= .agg #[.int .i64 I,.int .i64 (C)]) rfl rfl) rfl (Wn 1 rfl (W.ef rfl rfl rfl (Ef.jR z52 fun bR gs gu (gv:jL gs bR 52 #[.int .i64 0,.int .i64 (0)]) N=>(W.sA FI rfl rfl gv ?_)))))
 intro dM bp O
 have bp:jL dM bR 52 #[.int .i64 I,.int .i64 (C)]:=bp
 have dN:=(dL.trans N).tb O dL gu
 refine Wn 1 rfl (Nx (Sq (Sr (Wn 2 rfl (Nx ?_)))))
 by_cases c2:gq=true
 ·refine Cn rfl (congrArg not c2) ?_
  obtain⟨bq,bs⟩:=gr (by assumption)
  have e0:=bq.lo;have e1:=bq.hi;have e2:=bs.lo;have e3:=bs.hi;have e4:=bq.ci;have e5:=bq.co;have e6:=bs.ci;have e7:=bs.co
  refine Sn (Sr (Wr (.jK nU (by rfl) rfl ((cD.le (u.trans (t.trans N))).cn O (by have:=cD.lt;have:=u.size;have:=t.size;omega))) rfl ?_))
  refine Wr (.jK vY (by rfl) rfl bp) rfl ?_
  refine W.cl aaO rfl rfl (Rx no h0 h1 rt I C (by omega) dM) ?_
  rintro _ i8 ⟨rfl,V⟩
  have dO:=dN.trans V
  refine W.ef rfl rfl rfl (Ef.jR z55 fun aO gw gx (gy:jL gw aO 55 #[.int .i64 0,.int .i64 0,.int .i64 0,.slice none 0 0,.int .i64 (0)]) aJ=>(W.sA xS rfl rfl gy ?_))
  intro dP a5 aK
  have a5:jL dP aO 55 #[.int .i64 no,.int .i64 (h0+I),.int .i64 (h1+C),.slice none 0 0,.int .i64 (rt)]:=a5
  have dQ:=(dO.trans aJ).tb aK dO gx
  refine Nx (Sq (Sr (Wa (.jE lT rfl) rfl (Wa (.j3 0 underlying52 kz rfl rfl rfl (by omega)) rfl (Wr (.jF (v:= .int .i64 (h0+I)) j5 rfl a5 rfl) rfl (Wa (.jE lT rfl) rfl (Wa (.j3 1 underlying52 kz rfl rfl rfl (by omega)) rfl ?_)))))))
  refine Wr (.jF (v:= .int .i64 (h1+C)) j5 rfl a5 rfl) rfl (Wr (.min2 rfl rfl) rfl (Wn 1 rfl (Nx ?_)))
  by_cases c3:(min (h0+I) (h1+C))<0
  ·refine Cy rfl (dT c3) (Sq ?_)
   refine WC.xO (fun gz w'=>Le w w'/\jL w' Q 47 #[.int .u8 0,.int .u8 0,.int .u8 0,.int .u8 0,.int .u8 0,.int .u8 0,.int .u8 0,.int .u8 0,.int .u8 0,.int .u8 0,.int .u8 0,.int .u8 0,.int .u8 0,.int .u8 0,.int .u8 0,.int .u8 0,.int .u8 0,.int .u8 0,.int .u8 0,.int .u8 0,.int .u8 0,.int .u8 0,.int .u8 0,.int .u8 0,.int .u8 0,.int .u8 0,.int .u8 0,.int .u8 0,.int .u8 0,.int .u8 0,.int .u8 0,.int .u8 0,.int .i64 0,.int .i64 0,.int .u64 0,.int .u64 0,.int .u64 0,.int .u64 0,.int .u64 0,.int .u64 0,.int .u64 0,.int .u64 0,.int .u64 0,.int .u64 0,.int .i64 0,.int .i64 0,.int .i64 0,.int .i64 0,.int .i64 0,.int .i64 0,.int .i64 0,.int .i64 0,.int .i64 0,.int .i64 0,.int .i64 0,.int .i64 0,.int .i64 (0)]/\jL w' R 55 #[.int .i64 0,.int .i64 0,.int .i64 0,.slice none 0 0,.int .i64 (0)]/\jL w' S 61 #[.slice none 0 0,.slice none 0 0,.int .i64 (0)]) [0,1,2,3,4,5,6] mixed (by kernel_rfl) ?_
   intro gz bS
   have dR:=dQ.trans bS
   have dS:=(((((n.le (A.trans (T.trans (z.trans (u.trans (t.trans N)))))).cn O (by have:=n.lt;have:=A.size;have:=T.size;have:=z.size;have:=u.size;have:=t.size;omega)).le (V.trans aJ)).cn aK (by have:=n.lt;have:=A.size;have:=T.size;have:=z.size;have:=u.size;have:=t.size;have:=N.size;have:=O.size;have:=V.size;omega)).le bS)
   have dU:=(((((F.le (T.trans (z.trans (u.trans (t.trans N))))).cn O (by have:=F.lt;have:=T.size;have:=z.size;have:=u.size;have:=t.size;omega)).le (V.trans aJ)).cn aK (by have:=F.lt;have:=T.size;have:=z.size;have:=u.size;have:=t.size;have:=N.size;have:=O.size;have:=V.size;omega)).le bS)
   have dV:=(((((aW.le (z.trans (u.trans (t.trans N)))).cn O (by have:=aW.lt;have:=z.size;have:=u.size;have:=t.size;omega)).le (V.trans aJ)).cn aK (by have:=aW.lt;have:=z.size;have:=u.size;have:=t.size;have:=N.size;have:=O.size;have:=V.size;omega)).le bS)
   refine⟨⟨dR,dS,dU,dV⟩,?_⟩
   refine GR.rd rfl rfl (fun w' hs=> .jK pU (by rfl) rfl hs.2.1) rfl rfl rfl ?_
   refine GR.rd rfl rfl (fun w' hs=> .jK nU (by rfl) rfl hs.2.2.1) rfl rfl rfl ?_
   refine GR.rd rfl rfl (fun w' hs=> .jK ql (by rfl) rfl hs.2.2.2) rfl rfl rfl ?_
   refine GR.kP rfl rfl rfl rfl (Ef.storeAll yQ (by rfl) rfl rfl dS (by rfl) (by simp[Value.oneCell']) ?_)
   intro gA bT cE
   have bT:jL gA Q 47 #[.int .u8 0,.int .u8 0,.int .u8 0,.int .u8 0,.int .u8 0,.int .u8 0,.int .u8 0,.int .u8 0,.int .u8 0,.int .u8 0,.int .u8 0,.int .u8 0,.int .u8 0,.int .u8 0,.int .u8 0,.int .u8 0,.int .u8 0,.int .u8 0,.int .u8 0,.int .u8 0,.int .u8 0,.int .u8 0,.int .u8 0,.int .u8 0,.int .u8 0,.int .u8 0,.int .u8 0,.int .u8 0,.int .u8 0,.int .u8 0,.int .u8 0,.int .u8 0,.int .i64 0,.int .i64 0,.int .u64 0,.int .u64 0,.int .u64 0,.int .u64 0,.int .u64 0,.int .u64 0,.int .u64 0,.int .u64 0,.int .u64 0,.int .u64 0,.int .i64 0,.int .i64 0,.int .i64 0,.int .i64 0,.int .i64 0,.int .i64 0,.int .i64 0,.int .i64 0,.int .i64 0,.int .i64 0,.int .i64 0,.int .i64 0,.int .i64 (0)]:=bT
   have dW:=dR.tb cE L3 aT
   have dX:=(dU.cn cE (by have:=n.lt;omega))
   have dY:=(dV.cn cE (by have:=n.lt;have:=A.size;omega))
   refine⟨fun _=>⟨dW,bT,dX,dY⟩,?_⟩
   refine GR.kP rfl rfl rfl rfl (Ef.storeAll xS (by rfl) rfl rfl dX (by rfl) (by simp[Value.oneCell']) ?_)
   intro gB bU cF
   have bU:jL gB R 55 #[.int .i64 0,.int .i64 0,.int .i64 0,.slice none 0 0,.int .i64 (0)]:=bU
   have dZ:=dW.tb cF L4 aU
   have d2:=(bT.cn cF (by have:=n.lt;omega))
   have d3:=(dY.cn cF (by have:=F.lt;omega))
   refine⟨fun _=>⟨dZ,d2,bU,d3⟩,?_⟩
   refine GR.kP rfl rfl rfl rfl (Ef.storeAll vZ (by rfl) rfl rfl d3 (by rfl) (by simp[Value.oneCell']) ?_)
   intro gC cG cH
   have cG:jL gC S 61 #[.slice none 0 0,.slice none 0 0,.int .i64 (0)]:=cG
   have gD:=dZ.tb cH L5 aV
   refine noT (by kernel_rfl) (GR.any rfl rfl (.assign rfl) rfl rfl rfl (GR.nil (E.jG (Rt (E.jH (E.CW rfl (lS rfl (d2.cn cH (by have:=n.lt;have:=A.size;omega)) pU (by rfl)) (lS rfl (bU.cn cH (by have:=F.lt;omega)) nU (by rfl)) (lS rfl cG ql (by rfl)) rfl ?_))))))
   exact⟨⟨[.int .u8 0,.int .u8 0,.int .u8 0,.int .u8 0,.int .u8 0,.int .u8 0,.int .u8 0,.int .u8 0,.int .u8 0,.int .u8 0,.int .u8 0,.int .u8 0,.int .u8 0,.int .u8 0,.int .u8 0,.int .u8 0,.int .u8 0,.int .u8 0,.int .u8 0,.int .u8 0,.int .u8 0,.int .u8 0,.int .u8 0,.int .u8 0,.int .u8 0,.int .u8 0,.int .u8 0,.int .u8 0,.int .u8 0,.int .u8 0,.int .u8 0,.int .u8 0,.int .i64 0,.int .i64 0,.int .u64 0,.int .u64 0,.int .u64 0,.int .u64 0,.int .u64 0,.int .u64 0,.int .u64 0,.int .u64 0,.int .u64 0,.int .u64 0,.int .i64 0,.int .i64 0,.int .i64 0,.int .i64 0,.int .i64 0,.int .i64 0,.int .i64 0,.int .i64 0,.int .i64 0,.int .i64 0,.int .i64 0,.int .i64 0,.int .i64 (0)],rfl,by simp[Value.oneCell']⟩,⟨[.int .i64 0,.int .i64 0,.int .i64 0,.slice none 0 0,.int .i64 (0)],rfl,by simp[Value.oneCell']⟩,⟨[.slice none 0 0,.slice none 0 0,.int .i64 (0)],rfl,by simp[Value.oneCell']⟩,_,rfl,fun h=>absurd h (by decide),gD⟩
  refine Cn rfl (dF c3) (Sn ?_)
  have cI:=((((f9.le (u.trans (t.trans N))).cn O (by have:=f9.lt;have:=u.size;have:=t.size;omega)).le (V.trans aJ)).cn aK (by have:=f9.lt;have:=u.size;have:=t.size;have:=N.size;have:=O.size;have:=V.size;omega))
  have bV:=((((bQ.le (t.trans N)).cn O (by have:=bQ.lt;have:=t.size;omega)).le (V.trans aJ)).cn aK (by have:=bQ.lt;have:=t.size;have:=N.size;have:=O.size;have:=V.size;omega))
  have a6:=((((n.le (A.trans (T.trans (z.trans (u.trans (t.trans N)))))).cn O (by have:=n.lt;have:=A.size;have:=T.size;have:=z.size;have:=u.size;have:=t.size;omega)).le (V.trans aJ)).cn aK (by have:=n.lt;have:=A.size;have:=T.size;have:=z.size;have:=u.size;have:=t.size;have:=N.size;have:=O.size;have:=V.size;omega))
  have a7:=((((F.le (T.trans (z.trans (u.trans (t.trans N))))).cn O (by have:=F.lt;have:=T.size;have:=z.size;have:=u.size;have:=t.size;omega)).le (V.trans aJ)).cn aK (by have:=F.lt;have:=T.size;have:=z.size;have:=u.size;have:=t.size;have:=N.size;have:=O.size;have:=V.size;omega))
  have a8:=((((aW.le (z.trans (u.trans (t.trans N)))).cn O (by have:=aW.lt;have:=z.size;have:=u.size;have:=t.size;omega)).le (V.trans aJ)).cn aK (by have:=aW.lt;have:=z.size;have:=u.size;have:=t.size;have:=N.size;have:=O.size;have:=V.size;omega))
  have bt:=((bp.le (V.trans aJ)).cn aK (by have:=bp.lt;have:=V.size;omega))
  refine WC.cut (ι:=Unit) (fun u0=>[(3,.pointer (some ⟨cA,0,none⟩)),(5,.pointer (some ⟨cB,0,none⟩)),(6,.pointer (some ⟨Q,0,none⟩)),(7,.pointer (some ⟨R,0,none⟩)),(8,.pointer (some ⟨S,0,none⟩)),(11,.pointer (some ⟨bR,0,none⟩)),(13,.pointer (some ⟨aO,0,none⟩))]) (fun u0 aL=>(u0=u0)/\Le w aL/\dP.heap.size<=aL.heap.size/\jL aL cA 47 (tX ch).toArray/\jL aL cB 34 #[.slice xD tY iC0,.slice xB sP oC0,.int .i64 rW,.slice BZ xE iC1,.slice BG yL oC1,.int .i64 (ve)]/\jL aL Q 47 #[.int .u8 0,.int .u8 0,.int .u8 0,.int .u8 0,.int .u8 0,.int .u8 0,.int .u8 0,.int .u8 0,.int .u8 0,.int .u8 0,.int .u8 0,.int .u8 0,.int .u8 0,.int .u8 0,.int .u8 0,.int .u8 0,.int .u8 0,.int .u8 0,.int .u8 0,.int .u8 0,.int .u8 0,.int .u8 0,.int .u8 0,.int .u8 0,.int .u8 0,.int .u8 0,.int .u8 0,.int .u8 0,.int .u8 0,.int .u8 0,.int .u8 0,.int .u8 0,.int .i64 0,.int .i64 0,.int .u64 0,.int .u64 0,.int .u64 0,.int .u64 0,.int .u64 0,.int .u64 0,.int .u64 0,.int .u64 0,.int .u64 0,.int .u64 0,.int .i64 0,.int .i64 0,.int .i64 0,.int .i64 0,.int .i64 0,.int .i64 0,.int .i64 0,.int .i64 0,.int .i64 0,.int .i64 0,.int .i64 0,.int .i64 0,.int .i64 (0)]/\jL aL R 55 #[.int .i64 0,.int .i64 0,.int .i64 0,.slice none 0 0,.int .i64 (0)]/\jL aL S 61 #[.slice none 0 0,.slice none 0 0,.int .i64 (0)]/\jL aL bR 52 #[.int .i64 I,.int .i64 (C)]/\jL aL aO 55 #[.int .i64 no,.int .i64 (h0+I),.int .i64 (h1+C),.slice none 0 0,.int .i64 (rt)]) ?_ ?_
  ·refine Sr (Wr (.jK vY (by rfl) rfl bt) rfl ?_)
   refine Wn 1 rfl (Nx (WC.block (WC.rounds 3 (qK.step (Sr (Wa (.dec (.lss rfl rfl) (show _=true from by first|decide|rfl)) rfl ?_))))))
   refine Nx (Sq (WC.jS rfl (Sn (Sq (WC.block (Sr (Wn 1 rfl (Wa (.sU (v:= .int .i64 I) 0 underlying52 kz j5 rfl rfl rfl (by decide) rfl) rfl (Wn 2 rfl (Nx (Sq (WC.draw [0,1,2,3,4,5,6,7,8,9,10,11,12,13,14] mixed (by kernel_rfl) fun abG l7=>?_))))))))))))
   have cJ:=dQ.trans l7
   refine Gn 2 rfl ?_
   by_cases aX:I<0
   ·refine Ga rfl (.dec (.move rfl) (dT aX)) (Gn 1 rfl (oJ rfl (.jE lT rfl) (oJ rfl (.j3 0 underlying52 kz rfl rfl (by omega) (by omega)) ?_)))
    have cK:=(a5.le l7)
    refine uw rfl (.jF (v:= .int .i64 (h0+I)) j5 rfl cK rfl) (Gn 1 rfl (oJ rfl (.as (.sub rfl rfl (by decide)) rfl) (oJ rfl (.jE pV rfl) (oJ rfl (.mP 1 underlying45 rD rfl rfl (by omega) (by omega)) (oJ rfl (.mg wX rfl) ?_)))))
    have cL:=(cI.le l7)
    refine uw rfl (.jF (v:= .int .i64 200) j5 rfl cL rfl) (Gn 2 rfl (G.nil (E.jG ?_)))
    by_cases c5:(h0+I)<200
    ·refine Cy rfl (dT c5) (Sq ?_)
     refine WC.xO (fun Zo w'=>Le w w'/\jL w' Q 47 #[.int .u8 0,.int .u8 0,.int .u8 0,.int .u8 0,.int .u8 0,.int .u8 0,.int .u8 0,.int .u8 0,.int .u8 0,.int .u8 0,.int .u8 0,.int .u8 0,.int .u8 0,.int .u8 0,.int .u8 0,.int .u8 0,.int .u8 0,.int .u8 0,.int .u8 0,.int .u8 0,.int .u8 0,.int .u8 0,.int .u8 0,.int .u8 0,.int .u8 0,.int .u8 0,.int .u8 0,.int .u8 0,.int .u8 0,.int .u8 0,.int .u8 0,.int .u8 0,.int .i64 0,.int .i64 0,.int .u64 0,.int .u64 0,.int .u64 0,.int .u64 0,.int .u64 0,.int .u64 0,.int .u64 0,.int .u64 0,.int .u64 0,.int .u64 0,.int .i64 0,.int .i64 0,.int .i64 0,.int .i64 0,.int .i64 0,.int .i64 0,.int .i64 0,.int .i64 0,.int .i64 0,.int .i64 0,.int .i64 0,.int .i64 0,.int .i64 (0)]/\jL w' R 55 #[.int .i64 0,.int .i64 0,.int .i64 0,.slice none 0 0,.int .i64 (0)]/\jL w' S 61 #[.slice none 0 0,.slice none 0 0,.int .i64 (0)]) [0,1,2,3,4,5,6] mixed (by kernel_rfl) ?_
     intro Zo MP
     have d4:=cJ.trans MP
     have d5:=(a6.le (l7.trans MP))
     have d6:=(a7.le (l7.trans MP))
     have d7:=(a8.le (l7.trans MP))
     refine⟨⟨d4,d5,d6,d7⟩,?_⟩
     refine GR.rd rfl rfl (fun w' hs=> .jK pU (by rfl) rfl hs.2.1) rfl rfl rfl ?_
     refine GR.rd rfl rfl (fun w' hs=> .jK nU (by rfl) rfl hs.2.2.1) rfl rfl rfl ?_
     refine GR.rd rfl rfl (fun w' hs=> .jK ql (by rfl) rfl hs.2.2.2) rfl rfl rfl ?_
     refine GR.kP rfl rfl rfl rfl (Ef.storeAll yQ (by rfl) rfl rfl d5 (by rfl) (by simp[Value.oneCell']) ?_)
     intro gE bW cM
     have bW:jL gE Q 47 #[.int .u8 0,.int .u8 0,.int .u8 0,.int .u8 0,.int .u8 0,.int .u8 0,.int .u8 0,.int .u8 0,.int .u8 0,.int .u8 0,.int .u8 0,.int .u8 0,.int .u8 0,.int .u8 0,.int .u8 0,.int .u8 0,.int .u8 0,.int .u8 0,.int .u8 0,.int .u8 0,.int .u8 0,.int .u8 0,.int .u8 0,.int .u8 0,.int .u8 0,.int .u8 0,.int .u8 0,.int .u8 0,.int .u8 0,.int .u8 0,.int .u8 0,.int .u8 0,.int .i64 0,.int .i64 0,.int .u64 0,.int .u64 0,.int .u64 0,.int .u64 0,.int .u64 0,.int .u64 0,.int .u64 0,.int .u64 0,.int .u64 0,.int .u64 0,.int .i64 0,.int .i64 0,.int .i64 0,.int .i64 0,.int .i64 0,.int .i64 0,.int .i64 0,.int .i64 0,.int .i64 0,.int .i64 0,.int .i64 0,.int .i64 0,.int .i64 (0)]:=bW
     have d9:=d4.tb cM L3 aT
     have ea:=(d6.cn cM (by have:=n.lt;omega))
     have eb:=(d7.cn cM (by have:=n.lt;have:=A.size;omega))
     refine⟨fun _=>⟨d9,bW,ea,eb⟩,?_⟩
     refine GR.kP rfl rfl rfl rfl (Ef.storeAll xS (by rfl) rfl rfl ea (by rfl) (by simp[Value.oneCell']) ?_)
     intro gF bX cN
     have bX:jL gF R 55 #[.int .i64 0,.int .i64 0,.int .i64 0,.slice none 0 0,.int .i64 (0)]:=bX
     have ec:=d9.tb cN L4 aU
     have ed:=(bW.cn cN (by have:=n.lt;omega))
     have ee:=(eb.cn cN (by have:=F.lt;omega))
     refine⟨fun _=>⟨ec,ed,bX,ee⟩,?_⟩
     refine GR.kP rfl rfl rfl rfl (Ef.storeAll vZ (by rfl) rfl rfl ee (by rfl) (by simp[Value.oneCell']) ?_)
     intro gG cO cP
     have cO:jL gG S 61 #[.slice none 0 0,.slice none 0 0,.int .i64 (0)]:=cO
     have gH:=ec.tb cP L5 aV
     refine noT (by kernel_rfl) (GR.any rfl rfl (.assign rfl) rfl rfl rfl (GR.nil (E.jG (Rt (E.j4 (E.jH (E.jH (E.j4 (E.jH (E.CW rfl (lS rfl (ed.cn cP (by have:=n.lt;have:=A.size;omega)) pU (by rfl)) (lS rfl (bX.cn cP (by have:=F.lt;omega)) nU (by rfl)) (lS rfl cO ql (by rfl)) rfl ?_))))))))))
     exact⟨⟨[.int .u8 0,.int .u8 0,.int .u8 0,.int .u8 0,.int .u8 0,.int .u8 0,.int .u8 0,.int .u8 0,.int .u8 0,.int .u8 0,.int .u8 0,.int .u8 0,.int .u8 0,.int .u8 0,.int .u8 0,.int .u8 0,.int .u8 0,.int .u8 0,.int .u8 0,.int .u8 0,.int .u8 0,.int .u8 0,.int .u8 0,.int .u8 0,.int .u8 0,.int .u8 0,.int .u8 0,.int .u8 0,.int .u8 0,.int .u8 0,.int .u8 0,.int .u8 0,.int .i64 0,.int .i64 0,.int .u64 0,.int .u64 0,.int .u64 0,.int .u64 0,.int .u64 0,.int .u64 0,.int .u64 0,.int .u64 0,.int .u64 0,.int .u64 0,.int .i64 0,.int .i64 0,.int .i64 0,.int .i64 0,.int .i64 0,.int .i64 0,.int .i64 0,.int .i64 0,.int .i64 0,.int .i64 0,.int .i64 0,.int .i64 0,.int .i64 (0)],rfl,by simp[Value.oneCell']⟩,⟨[.int .i64 0,.int .i64 0,.int .i64 0,.slice none 0 0,.int .i64 (0)],rfl,by simp[Value.oneCell']⟩,⟨[.slice none 0 0,.slice none 0 0,.int .i64 (0)],rfl,by simp[Value.oneCell']⟩,_,rfl,fun h=>absurd h (by decide),gH⟩
    refine Cn rfl (dF c5) (WC.skip (E.jZ (E.jG (WC.region (Wa (.as (.add rfl rfl (by decide)) rfl) rfl (Wn 1 rfl (W.nil (E.round (qK.step ?_)))))))))
    refine Sr (Wa (.dec (.lss rfl rfl) (show _=true from by first|decide|rfl)) rfl ?_)
    refine Nx (Sq (WC.jS rfl (Sn (Sq (WC.block (Sr (Wn 1 rfl (Wa (.sU (v:= .int .i64 C) 1 underlying52 kz j5 rfl rfl rfl (by decide) rfl) rfl (Wn 2 rfl (Nx (Sq (WC.draw [0,1,2,3,4,5,6,7,8,9,10,11,12,13,14] mixed (by kernel_rfl) fun abH rA=>?_))))))))))))
    have cQ:=cJ.trans rA
    refine Gn 2 rfl ?_
    by_cases aX:C<0
    ·refine Ga rfl (.dec (.move rfl) (dT aX)) (Gn 1 rfl (oJ rfl (.jE lT rfl) (oJ rfl (.j3 1 underlying52 kz rfl rfl (by omega) (by omega)) ?_)))
     have eg:=(cK.le rA)
     refine uw rfl (.jF (v:= .int .i64 (h1+C)) j5 rfl eg rfl) (Gn 1 rfl (oJ rfl (.as (.sub rfl rfl (by decide)) rfl) (oJ rfl (.jE pV rfl) (oJ rfl (.mP 0 underlying45 rD rfl rfl (by omega) (by omega)) (oJ rfl (.mg wX rfl) ?_)))))
     have eh:=(cL.le rA)
     refine uw rfl (.jF (v:= .int .i64 200) j5 rfl eh rfl) (Gn 2 rfl (G.nil (E.jG ?_)))
     by_cases c5:(h1+C)<200
     ·refine Cy rfl (dT c5) (Sq ?_)
      refine WC.xO (fun Zp w'=>Le w w'/\jL w' Q 47 #[.int .u8 0,.int .u8 0,.int .u8 0,.int .u8 0,.int .u8 0,.int .u8 0,.int .u8 0,.int .u8 0,.int .u8 0,.int .u8 0,.int .u8 0,.int .u8 0,.int .u8 0,.int .u8 0,.int .u8 0,.int .u8 0,.int .u8 0,.int .u8 0,.int .u8 0,.int .u8 0,.int .u8 0,.int .u8 0,.int .u8 0,.int .u8 0,.int .u8 0,.int .u8 0,.int .u8 0,.int .u8 0,.int .u8 0,.int .u8 0,.int .u8 0,.int .u8 0,.int .i64 0,.int .i64 0,.int .u64 0,.int .u64 0,.int .u64 0,.int .u64 0,.int .u64 0,.int .u64 0,.int .u64 0,.int .u64 0,.int .u64 0,.int .u64 0,.int .i64 0,.int .i64 0,.int .i64 0,.int .i64 0,.int .i64 0,.int .i64 0,.int .i64 0,.int .i64 0,.int .i64 0,.int .i64 0,.int .i64 0,.int .i64 0,.int .i64 (0)]/\jL w' R 55 #[.int .i64 0,.int .i64 0,.int .i64 0,.slice none 0 0,.int .i64 (0)]/\jL w' S 61 #[.slice none 0 0,.slice none 0 0,.int .i64 (0)]) [0,1,2,3,4,5,6] mixed (by kernel_rfl) ?_
      intro Zp MQ
      have ei:=cQ.trans MQ
      have ej:=(a6.le (l7.trans (rA.trans MQ)))
      have ek:=(a7.le (l7.trans (rA.trans MQ)))
      have el:=(a8.le (l7.trans (rA.trans MQ)))
      refine⟨⟨ei,ej,ek,el⟩,?_⟩
      refine GR.rd rfl rfl (fun w' hs=> .jK pU (by rfl) rfl hs.2.1) rfl rfl rfl ?_
      refine GR.rd rfl rfl (fun w' hs=> .jK nU (by rfl) rfl hs.2.2.1) rfl rfl rfl ?_
      refine GR.rd rfl rfl (fun w' hs=> .jK ql (by rfl) rfl hs.2.2.2) rfl rfl rfl ?_
      refine GR.kP rfl rfl rfl rfl (Ef.storeAll yQ (by rfl) rfl rfl ej (by rfl) (by simp[Value.oneCell']) ?_)
      intro gI bY cR
      have bY:jL gI Q 47 #[.int .u8 0,.int .u8 0,.int .u8 0,.int .u8 0,.int .u8 0,.int .u8 0,.int .u8 0,.int .u8 0,.int .u8 0,.int .u8 0,.int .u8 0,.int .u8 0,.int .u8 0,.int .u8 0,.int .u8 0,.int .u8 0,.int .u8 0,.int .u8 0,.int .u8 0,.int .u8 0,.int .u8 0,.int .u8 0,.int .u8 0,.int .u8 0,.int .u8 0,.int .u8 0,.int .u8 0,.int .u8 0,.int .u8 0,.int .u8 0,.int .u8 0,.int .u8 0,.int .i64 0,.int .i64 0,.int .u64 0,.int .u64 0,.int .u64 0,.int .u64 0,.int .u64 0,.int .u64 0,.int .u64 0,.int .u64 0,.int .u64 0,.int .u64 0,.int .i64 0,.int .i64 0,.int .i64 0,.int .i64 0,.int .i64 0,.int .i64 0,.int .i64 0,.int .i64 0,.int .i64 0,.int .i64 0,.int .i64 0,.int .i64 0,.int .i64 (0)]:=bY
      have em:=ei.tb cR L3 aT
      have en:=(ek.cn cR (by have:=n.lt;omega))
      have eo:=(el.cn cR (by have:=n.lt;have:=A.size;omega))
      refine⟨fun _=>⟨em,bY,en,eo⟩,?_⟩
      refine GR.kP rfl rfl rfl rfl (Ef.storeAll xS (by rfl) rfl rfl en (by rfl) (by simp[Value.oneCell']) ?_)
      intro gJ bZ cS
      have bZ:jL gJ R 55 #[.int .i64 0,.int .i64 0,.int .i64 0,.slice none 0 0,.int .i64 (0)]:=bZ
      have ep:=em.tb cS L4 aU
      have er:=(bY.cn cS (by have:=n.lt;omega))
      have es:=(eo.cn cS (by have:=F.lt;omega))
      refine⟨fun _=>⟨ep,er,bZ,es⟩,?_⟩
      refine GR.kP rfl rfl rfl rfl (Ef.storeAll vZ (by rfl) rfl rfl es (by rfl) (by simp[Value.oneCell']) ?_)
      intro gK cT cU
      have cT:jL gK S 61 #[.slice none 0 0,.slice none 0 0,.int .i64 (0)]:=cT
      have gL:=ep.tb cU L5 aV
      refine noT (by kernel_rfl) (GR.any rfl rfl (.assign rfl) rfl rfl rfl (GR.nil (E.jG (Rt (E.j4 (E.jH (E.jH (E.j4 (E.jH (E.CW rfl (lS rfl (er.cn cU (by have:=n.lt;have:=A.size;omega)) pU (by rfl)) (lS rfl (bZ.cn cU (by have:=F.lt;omega)) nU (by rfl)) (lS rfl cT ql (by rfl)) rfl ?_))))))))))
      exact⟨⟨[.int .u8 0,.int .u8 0,.int .u8 0,.int .u8 0,.int .u8 0,.int .u8 0,.int .u8 0,.int .u8 0,.int .u8 0,.int .u8 0,.int .u8 0,.int .u8 0,.int .u8 0,.int .u8 0,.int .u8 0,.int .u8 0,.int .u8 0,.int .u8 0,.int .u8 0,.int .u8 0,.int .u8 0,.int .u8 0,.int .u8 0,.int .u8 0,.int .u8 0,.int .u8 0,.int .u8 0,.int .u8 0,.int .u8 0,.int .u8 0,.int .u8 0,.int .u8 0,.int .i64 0,.int .i64 0,.int .u64 0,.int .u64 0,.int .u64 0,.int .u64 0,.int .u64 0,.int .u64 0,.int .u64 0,.int .u64 0,.int .u64 0,.int .u64 0,.int .i64 0,.int .i64 0,.int .i64 0,.int .i64 0,.int .i64 0,.int .i64 0,.int .i64 0,.int .i64 0,.int .i64 0,.int .i64 0,.int .i64 0,.int .i64 0,.int .i64 (0)],rfl,by simp[Value.oneCell']⟩,⟨[.int .i64 0,.int .i64 0,.int .i64 0,.slice none 0 0,.int .i64 (0)],rfl,by simp[Value.oneCell']⟩,⟨[.slice none 0 0,.slice none 0 0,.int .i64 (0)],rfl,by simp[Value.oneCell']⟩,_,rfl,fun h=>absurd h (by decide),gL⟩
     refine Cn rfl (dF c5) (WC.skip (E.jZ (E.jG (WC.region (Wa (.as (.add rfl rfl (by decide)) rfl) rfl (Wn 1 rfl (W.nil (E.round (qK.step ?_)))))))))
     refine Sr (Wa (.dec (.lss rfl rfl) (show _=false from by first|decide|rfl)) rfl ?_)
     refine Nx (Sq (WC.kF rfl (WC.exit (E.jJ (E.jJ (E.ko (E.meet () (.of rfl) ?_)))))))
     exact⟨rfl,cQ,by have:=l7.size;have:=rA.size;omega,eh,(bV.le (l7.trans rA)),(a6.le (l7.trans rA)),(a7.le (l7.trans rA)),(a8.le (l7.trans rA)),(bt.le (l7.trans rA)),eg⟩
    refine Ga rfl (.dec (.move rfl) (dF aX)) (Gn 12 rfl (G.nil (E.jG (WC.kF rfl (WC.skip (E.jZ (E.jG (WC.region (Wa (.as (.add rfl rfl (by decide)) rfl) rfl (Wn 1 rfl (W.nil (E.round (qK.step ?_)))))))))))))
    refine Sr (Wa (.dec (.lss rfl rfl) (show _=false from by first|decide|rfl)) rfl ?_)
    refine Nx (Sq (WC.kF rfl (WC.exit (E.jJ (E.jJ (E.ko (E.meet () (.of rfl) ?_)))))))
    exact⟨rfl,cQ,by have:=l7.size;have:=rA.size;omega,(cL.le rA),(bV.le (l7.trans rA)),(a6.le (l7.trans rA)),(a7.le (l7.trans rA)),(a8.le (l7.trans rA)),(bt.le (l7.trans rA)),(cK.le rA)⟩
   refine Ga rfl (.dec (.move rfl) (dF aX)) (Gn 12 rfl (G.nil (E.jG (WC.kF rfl (WC.skip (E.jZ (E.jG (WC.region (Wa (.as (.add rfl rfl (by decide)) rfl) rfl (Wn 1 rfl (W.nil (E.round (qK.step ?_)))))))))))))
   refine Sr (Wa (.dec (.lss rfl rfl) (show _=true from by first|decide|rfl)) rfl ?_)
   refine Nx (Sq (WC.jS rfl (Sn (Sq (WC.block (Sr (Wn 1 rfl (Wa (.sU (v:= .int .i64 C) 1 underlying52 kz j5 rfl rfl rfl (by decide) rfl) rfl (Wn 2 rfl (Nx (Sq (WC.draw [0,1,2,3,4,5,6,7,8,9,10,11,12,13,14] mixed (by kernel_rfl) fun abI rC=>?_))))))))))))
   have cV:=cJ.trans rC
   refine Gn 2 rfl ?_
   by_cases aX:C<0
   ·refine Ga rfl (.dec (.move rfl) (dT aX)) (Gn 1 rfl (oJ rfl (.jE lT rfl) (oJ rfl (.j3 1 underlying52 kz rfl rfl (by omega) (by omega)) ?_)))
    have et:=(a5.le (l7.trans rC))
    refine uw rfl (.jF (v:= .int .i64 (h1+C)) j5 rfl et rfl) (Gn 1 rfl (oJ rfl (.as (.sub rfl rfl (by decide)) rfl) (oJ rfl (.jE pV rfl) (oJ rfl (.mP 0 underlying45 rD rfl rfl (by omega) (by omega)) (oJ rfl (.mg wX rfl) ?_)))))
    have eu:=(cI.le (l7.trans rC))
    refine uw rfl (.jF (v:= .int .i64 200) j5 rfl eu rfl) (Gn 2 rfl (G.nil (E.jG ?_)))
    by_cases c5:(h1+C)<200
    ·refine Cy rfl (dT c5) (Sq ?_)
     refine WC.xO (fun Zq w'=>Le w w'/\jL w' Q 47 #[.int .u8 0,.int .u8 0,.int .u8 0,.int .u8 0,.int .u8 0,.int .u8 0,.int .u8 0,.int .u8 0,.int .u8 0,.int .u8 0,.int .u8 0,.int .u8 0,.int .u8 0,.int .u8 0,.int .u8 0,.int .u8 0,.int .u8 0,.int .u8 0,.int .u8 0,.int .u8 0,.int .u8 0,.int .u8 0,.int .u8 0,.int .u8 0,.int .u8 0,.int .u8 0,.int .u8 0,.int .u8 0,.int .u8 0,.int .u8 0,.int .u8 0,.int .u8 0,.int .i64 0,.int .i64 0,.int .u64 0,.int .u64 0,.int .u64 0,.int .u64 0,.int .u64 0,.int .u64 0,.int .u64 0,.int .u64 0,.int .u64 0,.int .u64 0,.int .i64 0,.int .i64 0,.int .i64 0,.int .i64 0,.int .i64 0,.int .i64 0,.int .i64 0,.int .i64 0,.int .i64 0,.int .i64 0,.int .i64 0,.int .i64 0,.int .i64 (0)]/\jL w' R 55 #[.int .i64 0,.int .i64 0,.int .i64 0,.slice none 0 0,.int .i64 (0)]/\jL w' S 61 #[.slice none 0 0,.slice none 0 0,.int .i64 (0)]) [0,1,2,3,4,5,6] mixed (by kernel_rfl) ?_
     intro Zq MR
     have ew:=cV.trans MR
     have ex:=(a6.le (l7.trans (rC.trans MR)))
     have ey:=(a7.le (l7.trans (rC.trans MR)))
     have ez:=(a8.le (l7.trans (rC.trans MR)))
     refine⟨⟨ew,ex,ey,ez⟩,?_⟩
     refine GR.rd rfl rfl (fun w' hs=> .jK pU (by rfl) rfl hs.2.1) rfl rfl rfl ?_
     refine GR.rd rfl rfl (fun w' hs=> .jK nU (by rfl) rfl hs.2.2.1) rfl rfl rfl ?_
     refine GR.rd rfl rfl (fun w' hs=> .jK ql (by rfl) rfl hs.2.2.2) rfl rfl rfl ?_
     refine GR.kP rfl rfl rfl rfl (Ef.storeAll yQ (by rfl) rfl rfl ex (by rfl) (by simp[Value.oneCell']) ?_)
     intro gM b0 cW
     have b0:jL gM Q 47 #[.int .u8 0,.int .u8 0,.int .u8 0,.int .u8 0,.int .u8 0,.int .u8 0,.int .u8 0,.int .u8 0,.int .u8 0,.int .u8 0,.int .u8 0,.int .u8 0,.int .u8 0,.int .u8 0,.int .u8 0,.int .u8 0,.int .u8 0,.int .u8 0,.int .u8 0,.int .u8 0,.int .u8 0,.int .u8 0,.int .u8 0,.int .u8 0,.int .u8 0,.int .u8 0,.int .u8 0,.int .u8 0,.int .u8 0,.int .u8 0,.int .u8 0,.int .u8 0,.int .i64 0,.int .i64 0,.int .u64 0,.int .u64 0,.int .u64 0,.int .u64 0,.int .u64 0,.int .u64 0,.int .u64 0,.int .u64 0,.int .u64 0,.int .u64 0,.int .i64 0,.int .i64 0,.int .i64 0,.int .i64 0,.int .i64 0,.int .i64 0,.int .i64 0,.int .i64 0,.int .i64 0,.int .i64 0,.int .i64 0,.int .i64 0,.int .i64 (0)]:=b0
     have eA:=ew.tb cW L3 aT
     have eB:=(ey.cn cW (by have:=n.lt;omega))
     have eC:=(ez.cn cW (by have:=n.lt;have:=A.size;omega))
     refine⟨fun _=>⟨eA,b0,eB,eC⟩,?_⟩
     refine GR.kP rfl rfl rfl rfl (Ef.storeAll xS (by rfl) rfl rfl eB (by rfl) (by simp[Value.oneCell']) ?_)
     intro gN b1 cX
     have b1:jL gN R 55 #[.int .i64 0,.int .i64 0,.int .i64 0,.slice none 0 0,.int .i64 (0)]:=b1
     have eD:=eA.tb cX L4 aU
     have eE:=(b0.cn cX (by have:=n.lt;omega))
     have eF:=(eC.cn cX (by have:=F.lt;omega))
     refine⟨fun _=>⟨eD,eE,b1,eF⟩,?_⟩
     refine GR.kP rfl rfl rfl rfl (Ef.storeAll vZ (by rfl) rfl rfl eF (by rfl) (by simp[Value.oneCell']) ?_)
     intro gO cY cZ
     have cY:jL gO S 61 #[.slice none 0 0,.slice none 0 0,.int .i64 (0)]:=cY
     have gP:=eD.tb cZ L5 aV
     refine noT (by kernel_rfl) (GR.any rfl rfl (.assign rfl) rfl rfl rfl (GR.nil (E.jG (Rt (E.j4 (E.jH (E.jH (E.j4 (E.jH (E.CW rfl (lS rfl (eE.cn cZ (by have:=n.lt;have:=A.size;omega)) pU (by rfl)) (lS rfl (b1.cn cZ (by have:=F.lt;omega)) nU (by rfl)) (lS rfl cY ql (by rfl)) rfl ?_))))))))))
     exact⟨⟨[.int .u8 0,.int .u8 0,.int .u8 0,.int .u8 0,.int .u8 0,.int .u8 0,.int .u8 0,.int .u8 0,.int .u8 0,.int .u8 0,.int .u8 0,.int .u8 0,.int .u8 0,.int .u8 0,.int .u8 0,.int .u8 0,.int .u8 0,.int .u8 0,.int .u8 0,.int .u8 0,.int .u8 0,.int .u8 0,.int .u8 0,.int .u8 0,.int .u8 0,.int .u8 0,.int .u8 0,.int .u8 0,.int .u8 0,.int .u8 0,.int .u8 0,.int .u8 0,.int .i64 0,.int .i64 0,.int .u64 0,.int .u64 0,.int .u64 0,.int .u64 0,.int .u64 0,.int .u64 0,.int .u64 0,.int .u64 0,.int .u64 0,.int .u64 0,.int .i64 0,.int .i64 0,.int .i64 0,.int .i64 0,.int .i64 0,.int .i64 0,.int .i64 0,.int .i64 0,.int .i64 0,.int .i64 0,.int .i64 0,.int .i64 0,.int .i64 (0)],rfl,by simp[Value.oneCell']⟩,⟨[.int .i64 0,.int .i64 0,.int .i64 0,.slice none 0 0,.int .i64 (0)],rfl,by simp[Value.oneCell']⟩,⟨[.slice none 0 0,.slice none 0 0,.int .i64 (0)],rfl,by simp[Value.oneCell']⟩,_,rfl,fun h=>absurd h (by decide),gP⟩
    refine Cn rfl (dF c5) (WC.skip (E.jZ (E.jG (WC.region (Wa (.as (.add rfl rfl (by decide)) rfl) rfl (Wn 1 rfl (W.nil (E.round (qK.step ?_)))))))))
    refine Sr (Wa (.dec (.lss rfl rfl) (show _=false from by first|decide|rfl)) rfl ?_)
    refine Nx (Sq (WC.kF rfl (WC.exit (E.jJ (E.jJ (E.ko (E.meet () (.of rfl) ?_)))))))
    exact⟨rfl,cV,by have:=l7.size;have:=rC.size;omega,eu,(bV.le (l7.trans rC)),(a6.le (l7.trans rC)),(a7.le (l7.trans rC)),(a8.le (l7.trans rC)),(bt.le (l7.trans rC)),et⟩
   refine Ga rfl (.dec (.move rfl) (dF aX)) (Gn 12 rfl (G.nil (E.jG (WC.kF rfl (WC.skip (E.jZ (E.jG (WC.region (Wa (.as (.add rfl rfl (by decide)) rfl) rfl (Wn 1 rfl (W.nil (E.round (qK.step ?_)))))))))))))
   refine Sr (Wa (.dec (.lss rfl rfl) (show _=false from by first|decide|rfl)) rfl ?_)
   refine Nx (Sq (WC.kF rfl (WC.exit (E.jJ (E.jJ (E.ko (E.meet () (.of rfl) ?_)))))))
   exact⟨rfl,cV,by have:=l7.size;have:=rC.size;omega,(cI.le (l7.trans rC)),(bV.le (l7.trans rC)),(a6.le (l7.trans rC)),(a7.le (l7.trans rC)),(a8.le (l7.trans rC)),(bt.le (l7.trans rC)),(a5.le (l7.trans rC))⟩
  rintro u0 aL ⟨_hu,b2,i9,b3,b4,X,Y,ab,eG,b5⟩
  refine Sr (Wr (.jK pU (by rfl) rfl b3) rfl ?_)
  refine W.ef rfl rfl rfl (Ef.jR z47 fun aM gQ c0 (gR:jL gQ aM 47 #[.int .u8 0,.int .u8 0,.int .u8 0,.int .u8 0,.int .u8 0,.int .u8 0,.int .u8 0,.int .u8 0,.int .u8 0,.int .u8 0,.int .u8 0,.int .u8 0,.int .u8 0,.int .u8 0,.int .u8 0,.int .u8 0,.int .u8 0,.int .u8 0,.int .u8 0,.int .u8 0,.int .u8 0,.int .u8 0,.int .u8 0,.int .u8 0,.int .u8 0,.int .u8 0,.int .u8 0,.int .u8 0,.int .u8 0,.int .u8 0,.int .u8 0,.int .u8 0,.int .i64 0,.int .i64 0,.int .u64 0,.int .u64 0,.int .u64 0,.int .u64 0,.int .u64 0,.int .u64 0,.int .u64 0,.int .u64 0,.int .u64 0,.int .u64 0,.int .i64 0,.int .i64 0,.int .i64 0,.int .i64 0,.int .i64 0,.int .i64 0,.int .i64 0,.int .i64 0,.int .i64 0,.int .i64 0,.int .i64 0,.int .i64 0,.int .i64 (0)]) f=>?_)
  refine W.kP rfl rfl (Ef.storeAll yQ (by rfl) rfl rfl gR (by rfl) (BH.one ch) ?_)
  intro gS b6 l
  have b6:jL gS aM 47 (tX ch).toArray:=b6
  refine Nx (Sr (Wa (.jE qA rfl) rfl (Wr (.jF (v:= .int .i64 ch.am) j5 rfl b6 rfl) rfl (Wa (.j3 0 underlying52 kz rfl rfl rfl (by omega)) rfl ?_))))
  have eH:=((eG.le f).cn l (by have:=eG.lt;omega))
  refine Wr (.jF (v:= .int .i64 I) j5 rfl eH rfl) rfl (Wa (.j3 1 underlying52 kz rfl rfl rfl (by omega)) rfl (Wr (.jF (v:= .int .i64 C) j5 rfl eH rfl) rfl (Wa (.add rfl rfl (by omega)) rfl (Wa (.add rfl rfl (by omega)) rfl (Wa (.jE qA rfl) rfl ?_)))))
  refine W.kP rfl rfl (Ef.store kz rfl rfl b6 (by first|decide|(simp;done)|simp[BH.len]) rfl ?_)
  intro eI c1 m
  have c1:jL eI aM 47 (tX ({ch with am:=(ch.am+(I+C))}:IC)).toArray:=c1
  refine Nx (Sq (Sr ?_))
  obtain⟨cu,Zt⟩:∃c,c=({ch with am:=(ch.am+(I+C))}:IC):=⟨_,rfl⟩
  have bcu:=c1
  rw[<-Zt]at bcu
  have hca:cu.am=ch.am+(I+C):=by rw[Zt]
  have gT:Um cu:=by rw[Zt];exact⟨hch.p.op,hch.p.pts⟩
  have hpe:cu.p0=ch.p0/\cu.p5=ch.p5:=by rw[Zt];exact⟨rfl,rfl⟩
  refine Wr (.jK pU (by rfl) rfl bcu) rfl ?_
  have aC:=(((b5.le f).cn l (by have:=b5.lt;omega)).cn m (by have:=b5.lt;omega))
  refine Wr (.jK nU (by rfl) rfl aC) rfl ?_
  refine W.cl Yd rfl rfl (MM cu no (h0+I) (h1+C) rt gT (by omega) eI) ?_
  rintro _ gU ⟨rfl,b⟩
  have eJ:=(((b2.trans f).tb l b2 c0).tb m b2 c0).trans b
  refine Wn 1 rfl (Nx ?_)
  by_cases c6:(yj cu (h0+I) (h1+C) rt)=true
  ·refine Cn rfl (congrArg not c6) ?_
   have gV:=(bcu.le b)
   have bcf:jL gU aM 47 (yT ⟨kv,cu⟩).toArray:=gV
   refine Sn (Sq (WC.UA [0,1,2,4,5,6] [3,7,8,9,10,11] [12] (fun i=>bif Nat.beq i 8 then[7]else bif Nat.beq i 9 then[8]else bif Nat.beq i 10 then[3,9]else[]) mixed (by kernel_rfl) fun B d=>?_))
   have aN:=eJ.trans d
   refine Ga rfl (.jE EL rfl) ?_
   have eK:=((((b3.le f).cn l (by have:=b3.lt;omega)).cn m (by have:=b3.lt;omega)).le (b.trans d))
   refine Gd rfl (.mV (BX kv) Ny rfl (by decide) rfl eK rfl) (Ga rfl (.kK (xy (⟨kv,0,none,0,0,0⟩:pY)) Mj KM rfl rfl) (Ga rfl (.jE qA rfl) ?_))
   have aD:=(bcf.le d)
   refine Gd rfl (.jF (v:= .int .i64 ((⟨kv,cu⟩:yn).c.am)) j5 rfl aD rfl) (Gd rfl (.jK pU (by rfl) rfl eK) ?_)
   refine G.nil ?_
   refine E.Uz ⟨by rfl,fun iU=>(bif Nat.beq iU 3 then(fun v w'=>∃ac,v= .slice (some ⟨ac,0,none⟩) 1 1/\jO w' B.heap.size 111 xy 36 (some ⟨ac,0,none⟩) 1 1 ([(⟨kv,0,none,0,0,0⟩:pY)]))else(bif Nat.beq iU 7 then(fun v w'=>∃o s x y,v= .agg #[.slice o 1 s]/\jO w' B.heap.size 39 uN 1 x 2 y ([ch.p0,ch.p5])/\jO w' B.heap.size 114 yI 4 o 1 s ([(⟨x,2,y,0,0,0⟩:yH)]))else(bif Nat.beq iU 8 then(fun v w'=>∃o s x y,v= .agg (xC (⟨(⟨kv,cu⟩:yn).c.am,o,1,s⟩:uO)).toArray/\jO w' B.heap.size 39 uN 1 x 2 y ([ch.p0,ch.p5])/\jO w' B.heap.size 114 yI 4 o 1 s ([(⟨x,2,y,0,0,0⟩:yH)]))else(bif Nat.beq iU 9 then(fun v w'=>∃o s x y U,v= .slice (some ⟨U,0,none⟩) 1 1/\jO w' B.heap.size 39 uN 1 x 2 y ([ch.p0,ch.p5])/\jO w' B.heap.size 114 yI 4 o 1 s ([(⟨x,2,y,0,0,0⟩:yH)])/\jO w' B.heap.size 77 xC 2 (some ⟨U,0,none⟩) 1 1 ([(⟨(⟨kv,cu⟩:yn).c.am,o,1,s⟩:uO)]))else(bif Nat.beq iU 10 then(fun v w'=>∃ac o s x y U,v= .agg #[.slice (some ⟨ac,0,none⟩) 1 1,.slice (some ⟨U,0,none⟩) 1 1,.int .i64 (0)]/\jO w' B.heap.size 111 xy 36 (some ⟨ac,0,none⟩) 1 1 ([(⟨kv,0,none,0,0,0⟩:pY)])/\jO w' B.heap.size 39 uN 1 x 2 y ([ch.p0,ch.p5])/\jO w' B.heap.size 114 yI 4 o 1 s ([(⟨x,2,y,0,0,0⟩:yH)])/\jO w' B.heap.size 77 xC 2 (some ⟨U,0,none⟩) 1 1 ([(⟨(⟨kv,cu⟩:yn).c.am,o,1,s⟩:uO)]))else(bif Nat.beq iU 11 then(fun v w'=>∃ah,v= .pointer (some ⟨ah,0,none⟩)/\jL w' ah 61 #[.slice none 0 0,.slice none 0 0,.int .i64 (0)])else(fun _ _=>True))))))),?_,?_,?_⟩
   ·intro iU hi v w1 w2 hv hle
    simp only[List.mem_cons,List.not_mem_nil,or_false]at hi
    rcases hi with rfl|rfl|rfl|rfl|rfl|rfl
    ·obtain⟨ac,hvv,aP⟩:=hv;exact⟨ac,hvv,aP.le hle⟩
    ·obtain⟨o,s,x,y,hvv,ap,aq⟩:=hv;exact⟨o,s,x,y,hvv,ap.le hle,aq.le hle⟩
    ·obtain⟨o,s,x,y,hvv,ap,aq⟩:=hv;exact⟨o,s,x,y,hvv,ap.le hle,aq.le hle⟩
    ·obtain⟨o,s,x,y,U,hvv,ap,aq,aQ⟩:=hv;exact⟨o,s,x,y,U,hvv,ap.le hle,aq.le hle,aQ.le hle⟩
    ·obtain⟨ac,o,s,x,y,U,hvv,aP,ap,aq,aQ⟩:=hv;exact⟨ac,o,s,x,y,U,hvv,aP.le hle,ap.le hle,aq.le hle,aQ.le hle⟩
    obtain⟨ah,hvv,a9⟩:=hv;exact⟨ah,hvv,a9.le hle⟩
   ·intro iU hi
    simp only[List.mem_cons,List.not_mem_nil,or_false]at hi
    rcases hi with rfl|rfl|rfl|rfl|rfl|rfl
    ·refine .inl ⟨rfl,Step.WE rfl rfl ?_⟩
     intro w1 hle
     refine Ef.jX (len:=1) [_] underlying59 Bc rfl (by simp[Value.cells,kS.len]) rfl (by decide) (by decide) ?_
     intro ac w2 hg c4 h2
     have c4:jL w2 ac 111 (([(⟨kv,0,none,0,0,0⟩:pY)]).map xy).flatten.toArray:=c4
     have eL:jO w2 w1.heap.size 111 xy 36 (some ⟨ac,0,none⟩) 1 1 ([(⟨kv,0,none,0,0,0⟩:pY)]):=c4.pQ hg kS rfl rfl (by decide)
     exact⟨h2,⟨_,rfl,(eL.mono hle.size)⟩,fun k hk=>eL.row hk⟩
    ·refine .inl ⟨rfl,Step.WE rfl rfl ?_⟩
     intro w1 hle
     refine Ef.call aaP rfl rfl (Li ch w1) ?_
     rintro _ w2 ⟨o,s,x,y,rfl,gW,gX,h2⟩
     refine⟨_,rfl,?_⟩
     exact⟨h2,⟨_,_,_,_,rfl,(gX.mono hle.size),(gW.mono hle.size)⟩,fun k hk=>hk.elim⟩
    ·refine AJ.Xl (j:=7) rfl rfl rfl rfl fun v7 w1 hle gY=>?_
     obtain⟨o,s,x,y,rfl,ap,aq⟩:=gY
     exact⟨.agg (xC (⟨(⟨kv,cu⟩:yn).c.am,o,1,s⟩:uO)).toArray,.kK (xC (⟨(⟨kv,cu⟩:yn).c.am,o,1,s⟩:uO)) Y3 z77 rfl rfl,⟨_,_,_,_,rfl,ap,aq⟩,fun k hk=>hk.elim⟩
    ·refine .inl ⟨rfl,Step.of1 (j:=8) rfl rfl rfl ?_⟩
     intro v8 w1 hle gZ
     obtain⟨o,s,x,y,rfl,ap,aq⟩:=gZ
     refine Ef.jX (len:=1) [_] underlying31 KL rfl (by simp[Value.cells,kV.len]) rfl (by decide) (by decide) ?_
     intro U w2 hg c7 h2
     have c7:jL w2 U 77 (([(⟨(⟨kv,cu⟩:yn).c.am,o,1,s⟩:uO)]).map xC).flatten.toArray:=c7
     have eM:jO w2 w1.heap.size 77 xC 2 (some ⟨U,0,none⟩) 1 1 ([(⟨(⟨kv,cu⟩:yn).c.am,o,1,s⟩:uO)]):=c7.pQ hg kV rfl rfl (by decide)
     exact⟨h2,⟨_,_,_,_,_,rfl,(ap.le h2),(aq.le h2),(eM.mono hle.size)⟩,fun k hk=>eM.row hk⟩
    ·refine AJ.Ux (j:=3) (k:=9) rfl rfl rfl rfl rfl fun v3 v9 w1 hle g0 g1=>?_
     obtain⟨ac,rfl,aP⟩:=g0
     obtain⟨o,s,x,y,U,rfl,ap,aq,aQ⟩:=g1
     exact⟨.agg #[.slice (some ⟨ac,0,none⟩) 1 1,.slice (some ⟨U,0,none⟩) 1 1,.int .i64 (0)],.kK [.slice (some ⟨ac,0,none⟩) 1 1,.slice (some ⟨U,0,none⟩) 1 1,.int .i64 (0)] FK z61 rfl rfl,⟨_,_,_,_,_,_,rfl,aP,ap,aq,aQ⟩,fun k hk=>hk.elim⟩
    refine .inl ⟨rfl,Step.WE rfl rfl ?_⟩
    intro w1 hle
    refine Ef.jR z61 fun ah w2 hg eN h2=>?_
    exact⟨h2,⟨_,rfl,eN⟩,fun k hk=>(show ah=k from hk)▸⟨hg,eN.lt⟩⟩
   intro OI abP yU yM Ry abw
   obtain⟨ac,g2,ja⟩:=yM 3 (by decide)
   obtain⟨o,s,x,y,g3,eO,eP⟩:=yM 7 (by decide)
   obtain⟨o,s,x,y,g4,eO,eP⟩:=yM 8 (by decide)
   obtain⟨o,s,x,y,U,g5,eO,eP,jb⟩:=yM 9 (by decide)
   obtain⟨ac,o,s,x,y,U,g6,aP,ap,aq,aQ⟩:=yM 10 (by decide)
   obtain⟨ah,eQ,a9⟩:=yM 11 (by decide)
   have bu:B.heap.size<=ah:=(Ry 11 (by decide) ah (by rw[eQ];rfl)).1
   show G _ _ _ _ _ ((106,OI 3)::(110,OI 7)::(111,OI 8)::(112,OI 9)::(113,OI 10)::(17,OI 11)::_) _
   rw[g2,g3,g4,g5,g6,eQ]
   refine G.kP rfl rfl rfl rfl (Ef.storeAll vZ (by rfl) rfl rfl a9 (by rfl) (by simp[Value.oneCell']) ?_)
   intro g7 bv J
   refine noT (by kernel_rfl) ?_
   have bv:jL g7 ah 61 #[.slice (some ⟨ac,0,none⟩) 1 1,.slice (some ⟨U,0,none⟩) 1 1,.int .i64 (0)]:=bv
   have eR:=(aN.trans yU).tb J aN bu
   refine G.nil (E.jG (Sq (Sr (Wr (.jK Ti (by rfl) rfl (((((b4.le f).cn l (by have:=b4.lt;omega)).cn m (by have:=b4.lt;omega)).le (b.trans (d.trans yU))).cn J (by have:=b4.lt;have:=f.size;have:=l.size;have:=m.size;have:=b.size;have:=d.size;omega))) rfl ?_))))
   refine Wn 1 rfl (Nx (WC.block (WC.rounds 3 (qK.step (Sr (Wa (.dec (.lss rfl rfl) (show _=true from by first|decide|rfl)) rfl ?_))))))
   refine Nx (Sq (WC.jS rfl (Sn (Sq (WC.block (Sr (Wa (.vC 0 [.slice xD tY iC0,.slice xB sP oC0,.int .i64 (rW)] underlying34 qW Nw rfl rfl rfl (by omega) rfl) rfl (W.ef rfl rfl rfl (Ef.jR z33 fun b7 g8 g9 (hc:jL g8 b7 33 #[.slice none 0 0,.slice none 0 0,.int .i64 (0)]) ar=>(W.sA qW rfl rfl hc ?_))))))))))
   intro eS b8 au
   have b8:jL eS b7 33 #[.slice xD tY iC0,.slice xB sP oC0,.int .i64 (rW)]:=b8
   refine Nx (Sq (Sr (Wa (.jE vD rfl) rfl (Wr (.jF (v:= .slice xD tY iC0) FF rfl b8 rfl) rfl (Wr (.len underlying30 rfl) rfl (Wn 1 rfl (Nx (WC.block ?_))))))))
   have hd:=(((aP.ch J (fun q hq=>by cases hq;exact jO.lY aP a9 (by decide))).le ar).cb au (aP.rn (by have:=J.size;omega)))
   have he:=(((((((X.le f).cn l (by have:=X.lt;omega)).cn m (by have:=X.lt;omega)).le (b.trans (d.trans yU))).cn J (by have:=X.lt;have:=f.size;have:=l.size;have:=m.size;have:=b.size;have:=d.size;omega)).le ar).cn au (by have:=X.lt;have:=f.size;have:=l.size;have:=m.size;have:=b.size;have:=d.size;have:=yU.size;have:=J.size;omega))
   have hf:=(((((((Y.le f).cn l (by have:=Y.lt;omega)).cn m (by have:=Y.lt;omega)).le (b.trans (d.trans yU))).cn J (by have:=Y.lt;have:=f.size;have:=l.size;have:=m.size;have:=b.size;have:=d.size;omega)).le ar).cn au (by have:=Y.lt;have:=f.size;have:=l.size;have:=m.size;have:=b.size;have:=d.size;have:=yU.size;have:=J.size;omega))
   have hh:=(((((((ab.le f).cn l (by have:=ab.lt;omega)).cn m (by have:=ab.lt;omega)).le (b.trans (d.trans yU))).cn J (by have:=ab.lt;have:=f.size;have:=l.size;have:=m.size;have:=b.size;have:=d.size;omega)).le ar).cn au (by have:=ab.lt;have:=f.size;have:=l.size;have:=m.size;have:=b.size;have:=d.size;have:=yU.size;have:=J.size;omega))
   have hj:=((((aD.le yU).cn J (by have:=aD.lt;omega)).le ar).cn au (by have:=aD.lt;have:=yU.size;have:=J.size;omega))
   have hl:=(((aQ.ch J (fun q hq=>by cases hq;exact jO.lY aQ a9 (by decide))).le ar).cb au (aQ.rn (by have:=J.size;omega)))
   have hm:=(((ap.ch J (fun q hq=>by cases hq;exact jO.lY ap a9 (by decide))).le ar).cb au (ap.rn (by have:=J.size;omega)))
   have hn:=(((aq.ch J (fun q hq=>by cases hq;exact jO.lY aq a9 (by decide))).le ar).cb au (aq.rn (by have:=J.size;omega)))
   refine WC.loop (ι:=Nat×(Option Addr)×Nat×(List pY)) (fun⟨kA,aY,aZ,ba⟩=>[(6,.pointer (some ⟨Q,0,none⟩)),(7,.pointer (some ⟨R,0,none⟩)),(8,.pointer (some ⟨S,0,none⟩)),(13,.pointer (some ⟨aO,0,none⟩)),(16,.pointer (some ⟨aM,0,none⟩)),(17,.pointer (some ⟨ah,0,none⟩)),(19,.pointer (some ⟨b7,0,none⟩)),(114,.agg #[.slice xD tY iC0,.slice xB sP oC0,.int .i64 rW,.slice BZ xE iC1,.slice BG yL oC1,.int .i64 (ve)]),(115,.int .i64 0),(119,.slice xD tY iC0),(120,.int .i64 ((tY:Nat):Int)),(121,.int .i64 ((kA:Nat):Int))]) (fun⟨kA,aY,aZ,ba⟩ ai=>(kA<=tY)/\(uJ ba 0)/\Le w ai/\eS.heap.size<=ai.heap.size/\jL ai Q 47 #[.int .u8 0,.int .u8 0,.int .u8 0,.int .u8 0,.int .u8 0,.int .u8 0,.int .u8 0,.int .u8 0,.int .u8 0,.int .u8 0,.int .u8 0,.int .u8 0,.int .u8 0,.int .u8 0,.int .u8 0,.int .u8 0,.int .u8 0,.int .u8 0,.int .u8 0,.int .u8 0,.int .u8 0,.int .u8 0,.int .u8 0,.int .u8 0,.int .u8 0,.int .u8 0,.int .u8 0,.int .u8 0,.int .u8 0,.int .u8 0,.int .u8 0,.int .u8 0,.int .i64 0,.int .i64 0,.int .u64 0,.int .u64 0,.int .u64 0,.int .u64 0,.int .u64 0,.int .u64 0,.int .u64 0,.int .u64 0,.int .u64 0,.int .u64 0,.int .i64 0,.int .i64 0,.int .i64 0,.int .i64 0,.int .i64 0,.int .i64 0,.int .i64 0,.int .i64 0,.int .i64 0,.int .i64 0,.int .i64 0,.int .i64 0,.int .i64 (0)]/\jL ai R 55 #[.int .i64 0,.int .i64 0,.int .i64 0,.slice none 0 0,.int .i64 (0)]/\jL ai S 61 #[.slice none 0 0,.slice none 0 0,.int .i64 (0)]/\jL ai aO 55 #[.int .i64 no,.int .i64 (h0+I),.int .i64 (h1+C),.slice none 0 0,.int .i64 (rt)]/\jL ai aM 47 (yT (⟨kv,cu⟩:yn)).toArray/\jL ai ah 61 #[.slice aY (1+kA) aZ,.slice (some ⟨U,0,none⟩) 1 1,.int .i64 (0)]/\jO ai B.heap.size 111 xy 36 aY (1+kA) aZ ba/\jO ai B.heap.size 77 xC 2 (some ⟨U,0,none⟩) 1 1 ([(⟨(⟨kv,cu⟩:yn).c.am,o,1,s⟩:uO)])/\jL ai b7 33 #[.slice xD tY iC0,.slice xB sP oC0,.int .i64 (rW)]/\jO ai B.heap.size 39 uN 1 x 2 y ([ch.p0,ch.p5])/\jO ai B.heap.size 114 yI 4 o 1 s ([(⟨x,2,y,0,0,0⟩:yH)])) (fun⟨kA,aY,aZ,ba⟩=>tY-kA) (0,(some ⟨ac,0,none⟩),1,[(⟨kv,0,none,0,0,0⟩:pY)]) ?_ ?_ ?_
   ·exact .of rfl
   ·exact⟨Nat.zero_le _,(xh GJ ⟨rfl,rfl,rfl⟩:uJ ([]++[(⟨kv,0,none,0,0,0⟩:pY)]) 0),((eR.trans ar).tb au eR g9),Nat.le_refl _,he,hf,hh,((((aC.le (b.trans (d.trans yU))).cn J (by have:=aC.lt;have:=b.size;have:=d.size;omega)).le ar).cn au (by have:=aC.lt;have:=b.size;have:=d.size;have:=yU.size;have:=J.size;omega)),hj,((bv.le ar).cn au (by have:=bv.lt;omega)),hd,hl,b8,hm,hn⟩
   rintro⟨kA,aY,aZ,ba⟩ ai ⟨jc,eT,bw,ho,b9,ca,cc,cd,ce,bx,aB,K,bz,av,aw⟩
   have jd:B.heap.size<=ai.heap.size:=by have:=yU.size;have:=J.size;have:=ar.size;have:=au.size;omega
   have je:B.heap.size<=ai.heap.size:=by have:=yU.size;have:=J.size;have:=ar.size;have:=au.size;omega
   have jf:B.heap.size<=ai.heap.size:=by have:=yU.size;have:=J.size;have:=ar.size;have:=au.size;omega
   have bh:B.heap.size<=ai.heap.size:=by have:=yU.size;have:=J.size;have:=ar.size;have:=au.size;omega
   refine Sr (Wn 1 rfl (Nx (Sq ?_)))
   by_cases c8:((kA:Nat):Int)<((tY:Nat):Int)
   ·refine Cy rfl (dT c8) (Sn (Sq (WC.block (Sr (Wa (.lL kA underlying30 Hz rfl rfl (hI0.isSome nK (by omega)) rfl (by omega)) rfl (Wr (.tH VE rfl (hI0.le bw) nK (lF cs0 lH (by omega))) rfl (W.ef rfl rfl rfl (Ef.jR z72 ?_))))))))
    intro eU hp ht da aj
    have da:jL hp eU 72 (JQ lH).toArray:=da
    refine W.kP rfl rfl (Ef.storeAll Hz (by rfl) rfl rfl da (by simp only[List.size_toArray,nK.len]) (nK.one (cs0.getD kA lH)) ?_)
    intro eV db ak
    have db:jL eV eU 72 (JQ (cs0.getD kA lH)).toArray:=db
    refine Nx (WC.region (Wa (.jE qB rfl) rfl ?_))
    have dc:=((bx.le aj).cn ak (by have:=bx.lt;omega))
    refine Wr (.jF (v:= .slice aY (1+kA) aZ) Co rfl dc rfl) rfl (Wa (.jE Qt rfl) rfl (Wr (.mV (BX ((cs0.getD kA lH).op)) Ny rfl (by decide) rfl db rfl) rfl (Wa (.kK (xy (⟨(cs0.getD kA lH).op,0,none,0,0,0⟩:pY)) Mj KM rfl rfl) rfl (W.ef rfl rfl rfl (Ef.jX (len:=1) [_] underlying59 Bc rfl (by simp[Value.cells,kS.len]) rfl (by decide) (by decide) ?_)))))
    intro eW eX hu cf ad
    have cf:jL eX eW 111 (([(⟨(cs0.getD kA lH).op,0,none,0,0,0⟩:pY)]).map xy).flatten.toArray:=cf
    have jg:jO eX eV.heap.size 111 xy 36 (some ⟨eW,0,none⟩) 1 1 ([(⟨(cs0.getD kA lH).op,0,none,0,0,0⟩:pY)]):=cf.pQ hu kS rfl rfl (by decide)
    have aR:=(((aB.le aj).cb ak (aB.rn (by omega))).le ad)
    refine W.ef rfl rfl rfl (Ef.xw (a:=(⟨(cs0.getD kA lH).op,0,none,0,0,0⟩:pY)) underlying59 Bc underlying59 kS rfl aR rfl cf (by omega) (by unfold maxLen;omega) (by have:=bh;have:=aj.size;have:=ak.size;have:=ad.size;omega) ?_)
    intro eY eZ jh fa ax ji
    refine Wa (.jE qB rfl) rfl ?_
    have bA:=((dc.le ad).ch ax (jO.lY aR (dc.le ad) (by decide)))
    refine W.kP rfl rfl (Ef.store PZ rfl rfl bA (by first|decide|(simp;done)) rfl ?_)
    intro hw dd aE
    have dd:jL hw ah 61 #[.slice eY ((1+kA)+1) eZ,.slice (some ⟨U,0,none⟩) 1 1,.int .i64 (0)]:=dd
    refine W.nil (E.jZ (E.jG (WC.region (Wa (.add rfl rfl (by omega)) rfl (Wn 1 rfl (W.nil ?_))))))
    have hy:=(((((b9.le aj).cn ak (by have:=b9.lt;omega)).le ad).ch ax (aR.rl (by have:=X.lt;have:=f.size;have:=l.size;have:=m.size;have:=b.size;have:=d.size;omega))).cn aE (by have:=X.lt;have:=f.size;have:=l.size;have:=m.size;have:=b.size;have:=d.size;omega))
    have hz:=(((((ca.le aj).cn ak (by have:=ca.lt;omega)).le ad).ch ax (aR.rl (by have:=Y.lt;have:=f.size;have:=l.size;have:=m.size;have:=b.size;have:=d.size;omega))).cn aE (by have:=Y.lt;have:=f.size;have:=l.size;have:=m.size;have:=b.size;have:=d.size;omega))
    have hA:=(((((cc.le aj).cn ak (by have:=cc.lt;omega)).le ad).ch ax (aR.rl (by have:=ab.lt;have:=f.size;have:=l.size;have:=m.size;have:=b.size;have:=d.size;omega))).cn aE (by have:=ab.lt;have:=f.size;have:=l.size;have:=m.size;have:=b.size;have:=d.size;omega))
    have hC:=(((((cd.le aj).cn ak (by have:=cd.lt;omega)).le ad).ch ax (aR.rl (by have:=aC.lt;have:=b.size;have:=d.size;omega))).cn aE (by have:=aC.lt;have:=b.size;have:=d.size;omega))
    have hD:=(((((ce.le aj).cn ak (by have:=ce.lt;omega)).le ad).ch ax (aR.rl (by have:=aD.lt;omega))).cn aE (by have:=aD.lt;omega))
    have hE:=(fa.ch aE (fun q hq=>by cases hq;exact jO.lY fa bA (by decide)))
    have hF:=(((((K.le aj).cb ak (K.rn (by omega))).le ad).ch ax (aB.lu K (by decide))).ch aE (fun q hq=>by cases hq;exact jO.lY ((((K.le aj).cb ak (K.rn (by omega))).le ad).ch ax (aB.lu K (by decide))) bA (by decide)))
    have hG:=(((((bz.le aj).cn ak (by have:=bz.lt;omega)).le ad).ch ax (jO.lY aR (((bz.le aj).cn ak (by have:=bz.lt;omega)).le ad) (by decide))).cn aE (by have:=bv.lt;omega))
    have hH:=(((((av.le aj).cb ak (av.rn (by omega))).le ad).ch ax (aB.lu av (by decide))).ch aE (fun q hq=>by cases hq;exact jO.lY ((((av.le aj).cb ak (av.rn (by omega))).le ad).ch ax (aB.lu av (by decide))) bA (by decide)))
    have hI:=(((((aw.le aj).cb ak (aw.rn (by omega))).le ad).ch ax (aB.lu aw (by decide))).ch aE (fun q hq=>by cases hq;exact jO.lY ((((aw.le aj).cb ak (aw.rn (by omega))).le ad).ch ax (aB.lu aw (by decide))) bA (by decide)))
    refine E.again (kA+1,eY,eZ,(ba++[(⟨(cs0.getD kA lH).op,0,none,0,0,0⟩:pY)])) (.of rfl) ?_ ?_
    ·exact⟨by omega,xh eT ⟨rfl,rfl,rfl⟩,(((((bw.trans aj).tb ak bw ht).trans ad).kI ax (fun q hq=>Nat.le_trans aN.size (aR.row hq).1)).tb aE aN bu),by have:=ho;have:=aj.size;have:=ak.size;have:=ad.size;have:=ax.size;have:=aE.size;omega,hy,hz,hA,hC,hD,dd,hE,hF,hG,hH,hI⟩
    first|omega|(simp only[];omega)
   refine Cn rfl (dF c8) (WC.exit (E.jJ (E.jJ (E.ko (E.jG (WC.region (Wa (.jE qC rfl) rfl (Wr (.jF (v:= .slice (some ⟨U,0,none⟩) 1 1) sW rfl bx rfl) rfl (Wa (.jE tq rfl) rfl (Wr (.jF (v:= .slice xB sP oC0) sW rfl bz rfl) rfl ?_))))))))))
   refine W.ef rfl rfl rfl (Ef.Ps underlying31 KL underlying31 kV rfl K rfl (Fw.le bw) (by omega) (by unfold maxLen;omega) (by have:=bh;omega) ?_)
   intro bB bC jj de H cg
   refine Wa (.jE qC rfl) rfl ?_
   have bD:=(bx.ch H (jO.lY K bx (by decide)))
   refine W.kP rfl rfl (Ef.store Nv rfl rfl bD (by first|decide|(simp;done)) rfl ?_)
   intro hJ bE P
   have bE:jL hJ ah 61 #[.slice aY (1+kA) aZ,.slice bB (1+sP) bC,.int .i64 (0)]:=bE
   have fb:=(bw.kI H (fun q hq=>Nat.le_trans aN.size (K.row hq).1)).tb P aN bu
   refine W.nil (E.jZ (E.jG (WC.region (Wa (.as (.add rfl rfl (by decide)) rfl) rfl (Wn 1 rfl (W.nil (E.round (qK.step (Sr ?_)))))))))
   refine Wa (.dec (.lss rfl rfl) (show _=true from by first|decide|rfl)) rfl ?_
   refine Nx (Sq (WC.jS rfl (Sn (Sq (WC.block (Sr (Wa (.vC 1 [.slice BZ xE iC1,.slice BG yL oC1,.int .i64 (ve)] underlying34 qW Nw rfl rfl rfl (by omega) rfl) rfl (W.ef rfl rfl rfl (Ef.jR z33 fun cj hK hL (hM:jL hK cj 33 #[.slice none 0 0,.slice none 0 0,.int .i64 (0)]) ay=>(W.sA qW rfl rfl hM ?_))))))))))
   intro fc ck az
   have ck:jL fc cj 33 #[.slice BZ xE iC1,.slice BG yL oC1,.int .i64 (ve)]:=ck
   refine Nx (Sq (Sr (Wa (.jE vD rfl) rfl (Wr (.jF (v:= .slice BZ xE iC1) FF rfl ck rfl) rfl (Wr (.len underlying30 rfl) rfl (Wn 1 rfl (Nx (WC.block ?_))))))))
   have hN:=((((aB.ch H (K.lu aB (by decide))).ch P (fun q hq=>by cases hq;exact jO.lY (aB.ch H (K.lu aB (by decide))) bD (by decide))).le ay).cb az (aB.rn (by have:=H.size;have:=P.size;omega)))
   have hO:=((((b9.ch H (K.rl (by have:=X.lt;have:=f.size;have:=l.size;have:=m.size;have:=b.size;have:=d.size;omega))).cn P (by have:=X.lt;have:=f.size;have:=l.size;have:=m.size;have:=b.size;have:=d.size;omega)).le ay).cn az (by have:=b9.lt;have:=H.size;have:=P.size;omega))
   have hP:=((((ca.ch H (K.rl (by have:=Y.lt;have:=f.size;have:=l.size;have:=m.size;have:=b.size;have:=d.size;omega))).cn P (by have:=Y.lt;have:=f.size;have:=l.size;have:=m.size;have:=b.size;have:=d.size;omega)).le ay).cn az (by have:=ca.lt;have:=H.size;have:=P.size;omega))
   have hQ:=((((cc.ch H (K.rl (by have:=ab.lt;have:=f.size;have:=l.size;have:=m.size;have:=b.size;have:=d.size;omega))).cn P (by have:=ab.lt;have:=f.size;have:=l.size;have:=m.size;have:=b.size;have:=d.size;omega)).le ay).cn az (by have:=cc.lt;have:=H.size;have:=P.size;omega))
   have hR:=((((ce.ch H (K.rl (by have:=aD.lt;omega))).cn P (by have:=aD.lt;omega)).le ay).cn az (by have:=ce.lt;have:=H.size;have:=P.size;omega))
   have hS:=(((de.ch P (fun q hq=>by cases hq;exact jO.lY de bD (by decide))).le ay).cb az (de.rn (by have:=P.size;omega)))
   have hT:=((((av.ch H (K.lu av (by decide))).ch P (fun q hq=>by cases hq;exact jO.lY (av.ch H (K.lu av (by decide))) bD (by decide))).le ay).cb az (av.rn (by have:=H.size;have:=P.size;omega)))
   have hU:=((((aw.ch H (K.lu aw (by decide))).ch P (fun q hq=>by cases hq;exact jO.lY (aw.ch H (K.lu aw (by decide))) bD (by decide))).le ay).cb az (aw.rn (by have:=H.size;have:=P.size;omega)))
   refine WC.loop (ι:=Nat×(Option Addr)×Nat×(List pY)) (fun⟨kB,bb,a0,bc⟩=>[(6,.pointer (some ⟨Q,0,none⟩)),(7,.pointer (some ⟨R,0,none⟩)),(8,.pointer (some ⟨S,0,none⟩)),(13,.pointer (some ⟨aO,0,none⟩)),(16,.pointer (some ⟨aM,0,none⟩)),(17,.pointer (some ⟨ah,0,none⟩)),(19,.pointer (some ⟨cj,0,none⟩)),(114,.agg #[.slice xD tY iC0,.slice xB sP oC0,.int .i64 rW,.slice BZ xE iC1,.slice BG yL oC1,.int .i64 (ve)]),(115,.int .i64 1),(119,.slice BZ xE iC1),(120,.int .i64 ((xE:Nat):Int)),(121,.int .i64 ((kB:Nat):Int))]) (fun⟨kB,bb,a0,bc⟩ al=>(kB<=xE)/\(uJ bc 0)/\Le w al/\fc.heap.size<=al.heap.size/\jL al Q 47 #[.int .u8 0,.int .u8 0,.int .u8 0,.int .u8 0,.int .u8 0,.int .u8 0,.int .u8 0,.int .u8 0,.int .u8 0,.int .u8 0,.int .u8 0,.int .u8 0,.int .u8 0,.int .u8 0,.int .u8 0,.int .u8 0,.int .u8 0,.int .u8 0,.int .u8 0,.int .u8 0,.int .u8 0,.int .u8 0,.int .u8 0,.int .u8 0,.int .u8 0,.int .u8 0,.int .u8 0,.int .u8 0,.int .u8 0,.int .u8 0,.int .u8 0,.int .u8 0,.int .i64 0,.int .i64 0,.int .u64 0,.int .u64 0,.int .u64 0,.int .u64 0,.int .u64 0,.int .u64 0,.int .u64 0,.int .u64 0,.int .u64 0,.int .u64 0,.int .i64 0,.int .i64 0,.int .i64 0,.int .i64 0,.int .i64 0,.int .i64 0,.int .i64 0,.int .i64 0,.int .i64 0,.int .i64 0,.int .i64 0,.int .i64 0,.int .i64 (0)]/\jL al R 55 #[.int .i64 0,.int .i64 0,.int .i64 0,.slice none 0 0,.int .i64 (0)]/\jL al S 61 #[.slice none 0 0,.slice none 0 0,.int .i64 (0)]/\jL al aO 55 #[.int .i64 no,.int .i64 (h0+I),.int .i64 (h1+C),.slice none 0 0,.int .i64 (rt)]/\jL al aM 47 (yT (⟨kv,cu⟩:yn)).toArray/\jL al ah 61 #[.slice bb (1+kA+kB) a0,.slice bB (1+sP) bC,.int .i64 (0)]/\jO al B.heap.size 111 xy 36 bb (1+kA+kB) a0 bc/\jO al B.heap.size 77 xC 2 bB (1+sP) bC ([(⟨(⟨kv,cu⟩:yn).c.am,o,1,s⟩:uO)]++zi)/\jL al cj 33 #[.slice BZ xE iC1,.slice BG yL oC1,.int .i64 (ve)]/\jO al B.heap.size 39 uN 1 x 2 y ([ch.p0,ch.p5])/\jO al B.heap.size 114 yI 4 o 1 s ([(⟨x,2,y,0,0,0⟩:yH)])) (fun⟨kB,bb,a0,bc⟩=>xE-kB) (0,aY,aZ,ba) ?_ ?_ ?_
   ·exact .of rfl
   ·exact⟨Nat.zero_le _,eT,((fb.trans ay).tb az fb hL),Nat.le_refl _,hO,hP,hQ,((((cd.ch H (K.rl (by have:=aC.lt;have:=b.size;have:=d.size;omega))).cn P (by have:=aC.lt;have:=b.size;have:=d.size;omega)).le ay).cn az (by have:=cd.lt;have:=H.size;have:=P.size;omega)),hR,((bE.le ay).cn az (by have:=bE.lt;omega)),hN,hS,ck,hT,hU⟩
   rintro⟨kB,bb,a0,bc⟩ al ⟨jk,fd,bF,hV,bd,be,bi,cm,bG,bH,aF,ae,bI,a1,a2⟩
   have jl:B.heap.size<=al.heap.size:=Nat.le_trans bh (by have:=H.size;have:=P.size;have:=ay.size;have:=az.size;omega)
   have jm:B.heap.size<=al.heap.size:=Nat.le_trans bh (by have:=H.size;have:=P.size;have:=ay.size;have:=az.size;omega)
   have jn:B.heap.size<=al.heap.size:=Nat.le_trans bh (by have:=H.size;have:=P.size;have:=ay.size;have:=az.size;omega)
   have fe:B.heap.size<=al.heap.size:=Nat.le_trans bh (by have:=H.size;have:=P.size;have:=ay.size;have:=az.size;omega)
   refine Sr (Wn 1 rfl (Nx (Sq ?_)))
   by_cases c8:((kB:Nat):Int)<((xE:Nat):Int)
   ·refine Cy rfl (dT c8) (Sn (Sq (WC.block (Sr (Wa (.lL kB underlying30 Hz rfl rfl (hI1.isSome nK (by omega)) rfl (by omega)) rfl (Wr (.tH VE rfl (hI1.le bF) nK (lF cs1 lH (by omega))) rfl (W.ef rfl rfl rfl (Ef.jR z72 ?_))))))))
    intro ff hX hY dg an
    have dg:jL hX ff 72 (JQ lH).toArray:=dg
    refine W.kP rfl rfl (Ef.storeAll Hz (by rfl) rfl rfl dg (by simp only[List.size_toArray,nK.len]) (nK.one (cs1.getD kB lH)) ?_)
    intro fg dh ao
    have dh:jL fg ff 72 (JQ (cs1.getD kB lH)).toArray:=dh
    refine Nx (WC.region (Wa (.jE qB rfl) rfl ?_))
    have di:=((bH.le an).cn ao (by have:=bH.lt;omega))
    refine Wr (.jF (v:= .slice bb (1+kA+kB) a0) Co rfl di rfl) rfl (Wa (.jE Qt rfl) rfl (Wr (.mV (BX ((cs1.getD kB lH).op)) Ny rfl (by decide) rfl dh rfl) rfl (Wa (.kK (xy (⟨(cs1.getD kB lH).op,0,none,0,0,0⟩:pY)) Mj KM rfl rfl) rfl (W.ef rfl rfl rfl (Ef.jX (len:=1) [_] underlying59 Bc rfl (by simp[Value.cells,kS.len]) rfl (by decide) (by decide) ?_)))))
    intro fh fi hZ cp af
    have cp:jL fi fh 111 (([(⟨(cs1.getD kB lH).op,0,none,0,0,0⟩:pY)]).map xy).flatten.toArray:=cp
    have jo:jO fi fg.heap.size 111 xy 36 (some ⟨fh,0,none⟩) 1 1 ([(⟨(cs1.getD kB lH).op,0,none,0,0,0⟩:pY)]):=cp.pQ hZ kS rfl rfl (by decide)
    have aS:=(((aF.le an).cb ao (aF.rn (by omega))).le af)
    refine W.ef rfl rfl rfl (Ef.xw (a:=(⟨(cs1.getD kB lH).op,0,none,0,0,0⟩:pY)) underlying59 Bc underlying59 kS rfl aS rfl cp (by omega) (by unfold maxLen;omega) (by have:=fe;have:=an.size;have:=ao.size;have:=af.size;omega) ?_)
    intro fj fk jp fl aA jq
    refine Wa (.jE qB rfl) rfl ?_
    have bJ:=((di.le af).ch aA (jO.lY aS (di.le af) (by decide)))
    refine W.kP rfl rfl (Ef.store PZ rfl rfl bJ (by first|decide|(simp;done)) rfl ?_)
    intro h3 dj aG
    have dj:jL h3 ah 61 #[.slice fj ((1+kA+kB)+1) fk,.slice bB (1+sP) bC,.int .i64 (0)]:=dj
    refine W.nil (E.jZ (E.jG (WC.region (Wa (.add rfl rfl (by omega)) rfl (Wn 1 rfl (W.nil ?_))))))
    have h4:=(((((bd.le an).cn ao (by have:=bd.lt;omega)).le af).ch aA (aS.rl (by have:=X.lt;have:=f.size;have:=l.size;have:=m.size;have:=b.size;have:=d.size;omega))).cn aG (by have:=X.lt;have:=f.size;have:=l.size;have:=m.size;have:=b.size;have:=d.size;omega))
    have h5:=(((((be.le an).cn ao (by have:=be.lt;omega)).le af).ch aA (aS.rl (by have:=Y.lt;have:=f.size;have:=l.size;have:=m.size;have:=b.size;have:=d.size;omega))).cn aG (by have:=Y.lt;have:=f.size;have:=l.size;have:=m.size;have:=b.size;have:=d.size;omega))
    have h6:=(((((bi.le an).cn ao (by have:=bi.lt;omega)).le af).ch aA (aS.rl (by have:=ab.lt;have:=f.size;have:=l.size;have:=m.size;have:=b.size;have:=d.size;omega))).cn aG (by have:=ab.lt;have:=f.size;have:=l.size;have:=m.size;have:=b.size;have:=d.size;omega))
    have h7:=(((((cm.le an).cn ao (by have:=cm.lt;omega)).le af).ch aA (aS.rl (by have:=aC.lt;have:=b.size;have:=d.size;omega))).cn aG (by have:=aC.lt;have:=b.size;have:=d.size;omega))
    have h8:=(((((bG.le an).cn ao (by have:=bG.lt;omega)).le af).ch aA (aS.rl (by have:=aD.lt;omega))).cn aG (by have:=aD.lt;omega))
    have h9:=(fl.ch aG (fun q hq=>by cases hq;exact jO.lY fl bJ (by decide)))
    have ia:=(((((ae.le an).cb ao (ae.rn (by omega))).le af).ch aA (aF.lu ae (by decide))).ch aG (fun q hq=>by cases hq;exact jO.lY ((((ae.le an).cb ao (ae.rn (by omega))).le af).ch aA (aF.lu ae (by decide))) bJ (by decide)))
    have ib:=(((((bI.le an).cn ao (by have:=bI.lt;omega)).le af).ch aA (jO.lY aS (((bI.le an).cn ao (by have:=bI.lt;omega)).le af) (by decide))).cn aG (by have:=bE.lt;omega))
    have ic:=(((((a1.le an).cb ao (a1.rn (by omega))).le af).ch aA (aF.lu a1 (by decide))).ch aG (fun q hq=>by cases hq;exact jO.lY ((((a1.le an).cb ao (a1.rn (by omega))).le af).ch aA (aF.lu a1 (by decide))) bJ (by decide)))
    have ie:=(((((a2.le an).cb ao (a2.rn (by omega))).le af).ch aA (aF.lu a2 (by decide))).ch aG (fun q hq=>by cases hq;exact jO.lY ((((a2.le an).cb ao (a2.rn (by omega))).le af).ch aA (aF.lu a2 (by decide))) bJ (by decide)))
    refine E.again (kB+1,fj,fk,(bc++[(⟨(cs1.getD kB lH).op,0,none,0,0,0⟩:pY)])) (.of rfl) ?_ ?_
    ·exact⟨by omega,xh fd ⟨rfl,rfl,rfl⟩,(((((bF.trans an).tb ao bF hY).trans af).kI aA (fun q hq=>Nat.le_trans aN.size (aS.row hq).1)).tb aG aN bu),by have:=hV;have:=an.size;have:=ao.size;have:=af.size;have:=aA.size;have:=aG.size;omega,h4,h5,h6,h7,h8,dj,h9,ia,ib,ic,ie⟩
    first|omega|(simp only[];omega)
   refine Cn rfl (dF c8) (WC.exit (E.jJ (E.jJ (E.ko (E.jG (WC.region (Wa (.jE qC rfl) rfl (Wr (.jF (v:= .slice bB (1+sP) bC) sW rfl bH rfl) rfl (Wa (.jE tq rfl) rfl (Wr (.jF (v:= .slice BG yL oC1) sW rfl bI rfl) rfl ?_))))))))))
   refine W.ef rfl rfl rfl (Ef.Ps underlying31 KL underlying31 kV rfl ae rfl (OH.le bF) (by omega) (by unfold maxLen;omega) (by have:=fe;omega) ?_)
   intro ig fm jr fo D js
   refine Wa (.jE qC rfl) rfl ?_
   have bK:=(bH.ch D (jO.lY ae bH (by decide)))
   refine W.kP rfl rfl (Ef.store Nv rfl rfl bK (by first|decide|(simp;done)) rfl ?_)
   intro dk dl L
   have dl:jL dk ah 61 #[.slice bb (1+kA+kB) a0,.slice ig ((1+sP)+yL) fm,.int .i64 (0)]:=dl
   have dm:=(bF.kI D (fun q hq=>Nat.le_trans aN.size (ae.row hq).1)).tb L aN bu
   refine W.nil (E.jZ (E.jG (WC.region (Wa (.as (.add rfl rfl (by decide)) rfl) rfl (Wn 1 rfl (W.nil (E.round (qK.step (Sr ?_)))))))))
   refine Wa (.dec (.lss rfl rfl) (show _=false from by first|decide|rfl)) rfl ?_
   refine Nx (Sq (WC.kF rfl (WC.exit (E.jJ (E.jJ (E.ko (E.jG (Sr ?_))))))))
   have ii:=((a2.ch D (Apart.step (K.lu aw (by decide)) cg (fun q hq=>by have:=(aw.row hq).2;omega))).ch L (fun q hq=>by cases hq;exact jO.lY (a2.ch D (Apart.step (K.lu aw (by decide)) cg (fun q hq=>by have:=(aw.row hq).2;omega))) bK (by decide)))
   have ij:=((a1.ch D (Apart.step (K.lu av (by decide)) cg (fun q hq=>by have:=(av.row hq).2;omega))).ch L (fun q hq=>by cases hq;exact jO.lY (a1.ch D (Apart.step (K.lu av (by decide)) cg (fun q hq=>by have:=(av.row hq).2;omega))) bK (by decide)))
   have hW:oF dk 0 (([(⟨(⟨kv,cu⟩:yn).c.am,o,1,s⟩:uO)]++zi)++OG) (([(⟨(⟨kv,cu⟩:yn).c.am,[⟨[ch.p0,ch.p5],0,0,0⟩]⟩:nC)]++os0)++os1):=((Un ii ij hch.pts.1.2.2 hch.pts.2.2.2.2.2.1.2.2).app (Lu.le dm)).app (OQ.le dm)
   have hol:1<=(([(⟨(⟨kv,cu⟩:yn).c.am,[⟨[ch.p0,ch.p5],0,0,0⟩]⟩:nC)]++os0)++os1).length:=by simp only[List.length_append,List.length_cons,List.length_nil];omega
   refine Wr (.jK ql (by rfl) rfl dl) rfl ?_
   have ik:=((aF.ch D (ae.lu aF (by decide))).ch L (fun q hq=>by cases hq;exact jO.lY (aF.ch D (ae.lu aF (by decide))) bK (by decide)))
   have il:=(fo.ch L (fun q hq=>by cases hq;exact jO.lY fo bK (by decide)))
   refine W.cl aaR rfl rfl (Lj (ci:=a0) (co:=fm) (note:=0) dk ik.vec il.vec hW (by omega) (fun i _=>(fd i (Nat.zero_le _)).2.1)) ?_
   rintro _ im ⟨jt,ju,jv,rfl,io,jw,fp,Z⟩
   refine W.cl aaQ rfl rfl (OE im io.vec (by omega)) ?_
   rintro _ jx ⟨bL,bj,bM,bk,bN,bO,ip,bl,iq,rfl,fq,fr,ir,jy,iu,aa⟩
   have fs:=(dm.trans Z).trans aa
   refine Wn 1 rfl (Wa (.extract (v:= .agg #[.slice bL bN.length bj,.slice bM bO.length bk,.int .i64 (bl)]) rfl rfl) rfl (Wn 1 rfl (W.ef rfl rfl rfl (Ef.jR z61 fun dn iw iy (ft:jL iw dn 61 #[.slice none 0 0,.slice none 0 0,.int .i64 (0)]) aH=>(W.sA vZ rfl rfl ft ?_)))))
   intro fu cq aI
   have cq:jL fu dn 61 #[.slice bL bN.length bj,.slice bM bO.length bk,.int .i64 (bl)]:=cq
   have fv:=(fs.trans aH).tb aI fs iy
   refine Wn 1 rfl (Nx (Sq (Sr (Wn 2 rfl (Nx ?_)))))
   by_cases c9:iq=true
   ·refine Cn rfl (congrArg not c9) ?_
    have hkt:=iu (by assumption)
    have jz:1<=ip.length:=by
     by_cases hx:FN bc (([(⟨(⟨kv,cu⟩:yn).c.am,[⟨[ch.p0,ch.p5],0,0,0⟩]⟩:nC)]++os0)++os1) 0=true
     ·obtain⟨tl,hb⟩:=Ws hx hol (fp.1 hx)
      exact hkt.2.2 _ _ _ hb
     exact absurd (fp.2 hx) hkt.2.1
    refine Sn (Sr (Wr (.jK ql (by rfl) rfl cq) rfl ?_))
    refine W.cl aaS rfl rfl (OB (ci:=bj) (co:=bk) (note:=bl) fu ((fq.le aH).cb aI (fq.rn (by omega))).vec ((fr.le aH).cb aI (fr.rn (by omega))).vec ((ir.le aH).rE aI ft (by decide) (by decide)).weak (by omega) hkt.1) ?_
    rintro _ jA ⟨jB,jC,a3,jD,rfl,fw,bf⟩
    refine Wa (.lL 0 underlying124 Jz rfl rfl (fw.vec.isSome qo (by omega)) rfl (by omega)) rfl (Wr (.tH Ny rfl fw.vec qo (lF a3 kv (by omega))) rfl (Wa (.jE EL rfl) rfl ?_))
    have iz:=(((((bG.ch D (ae.rl (by have:=aD.lt;omega))).cn L (by have:=aD.lt;omega)).le (Z.trans (aa.trans aH))).cn aI (by have:=bG.lt;have:=D.size;have:=L.size;have:=Z.size;have:=aa.size;omega)).le bf)
    refine W.kP rfl rfl (Ef.uh (yT ({(⟨kv,cu⟩:yn)with op:=a3.getD 0 kv}:yn)) Jz (by rfl) rfl rfl iz (by simp[BI.len,qo.len]) (qo.one (a3.getD 0 kv)) rfl ?_)
    intro iA dp bm
    have dp:jL iA aM 47 (yT ({(⟨kv,cu⟩:yn)with op:=a3.getD 0 kv}:yn)).toArray:=dp
    refine Nx (Sq (WC.xO (fun iB w'=>Le w w'/\jL w' aM 47 (yT ({(⟨kv,cu⟩:yn)with op:=a3.getD 0 kv}:yn)).toArray/\jL w' aO 55 #[.int .i64 no,.int .i64 (h0+I),.int .i64 (h1+C),.slice none 0 0,.int .i64 (rt)]/\jL w' dn 61 #[.slice bL bN.length bj,.slice bM bO.length bk,.int .i64 (bl)]) [0,1,2,3,4,5,6] mixed (by kernel_rfl) fun iB bg=>?_))
    have fx:=((fv.trans bf).tb bm b2 c0).trans bg
    have fy:=(dp.le bg)
    have fz:=(((((((cm.ch D (ae.rl (by have:=aC.lt;have:=b.size;have:=d.size;omega))).cn L (by have:=aC.lt;have:=b.size;have:=d.size;omega)).le (Z.trans (aa.trans aH))).cn aI (by have:=cm.lt;have:=D.size;have:=L.size;have:=Z.size;have:=aa.size;omega)).le bf).cn bm (by have:=b5.lt;omega)).le bg)
    have fA:=(((cq.le bf).cn bm (by have:=bG.lt;have:=D.size;have:=L.size;have:=Z.size;have:=aa.size;omega)).le bg)
    refine⟨⟨fx,fy,fz,fA⟩,?_⟩
    refine GR.rd rfl rfl (fun w' hs=> .jK pU (by rfl) rfl hs.2.1) rfl rfl rfl ?_
    refine GR.rd rfl rfl (fun w' hs=> .jK nU (by rfl) rfl hs.2.2.1) rfl rfl rfl ?_
    refine GR.rd rfl rfl (fun w' hs=> .jK ql (by rfl) rfl hs.2.2.2) rfl rfl rfl ?_
    have iC:=(((((((bd.ch D (ae.rl (by have:=X.lt;have:=f.size;have:=l.size;have:=m.size;have:=b.size;have:=d.size;omega))).cn L (by have:=X.lt;have:=f.size;have:=l.size;have:=m.size;have:=b.size;have:=d.size;omega)).le (Z.trans (aa.trans aH))).cn aI (by have:=bd.lt;have:=D.size;have:=L.size;have:=Z.size;have:=aa.size;omega)).le bf).cn bm (by have:=X.lt;omega)).le bg)
    refine GR.kP rfl rfl rfl rfl (Ef.storeAll yQ (by rfl) rfl rfl iC (by rfl) (BI.one ({(⟨kv,cu⟩:yn)with op:=a3.getD 0 kv}:yn)) ?_)
    intro iD dq bn
    have dq:jL iD Q 47 (yT ({(⟨kv,cu⟩:yn)with op:=a3.getD 0 kv}:yn)).toArray:=dq
    have fB:=fx.tb bn L3 aT
    have fC:=(fy.cn bn (by have:=X.lt;omega))
    have fD:=(fz.cn bn (by have:=n.lt;have:=A.size;have:=T.size;have:=z.size;have:=u.size;have:=t.size;have:=N.size;have:=O.size;have:=V.size;omega))
    have fE:=(fA.cn bn (by have:=bd.lt;have:=D.size;have:=L.size;have:=Z.size;have:=aa.size;omega))
    refine⟨fun _=>⟨fB,fC,fD,fE⟩,?_⟩
    have iE:=((((((((be.ch D (ae.rl (by have:=Y.lt;have:=f.size;have:=l.size;have:=m.size;have:=b.size;have:=d.size;omega))).cn L (by have:=Y.lt;have:=f.size;have:=l.size;have:=m.size;have:=b.size;have:=d.size;omega)).le (Z.trans (aa.trans aH))).cn aI (by have:=be.lt;have:=D.size;have:=L.size;have:=Z.size;have:=aa.size;omega)).le bf).cn bm (by have:=Y.lt;omega)).le bg).cn bn (by have:=n.lt;omega))
    refine GR.kP rfl rfl rfl rfl (Ef.storeAll xS (by rfl) rfl rfl iE (by rfl) (by simp[Value.oneCell']) ?_)
    intro iF dr bo
    have dr:jL iF R 55 #[.int .i64 no,.int .i64 (h0+I),.int .i64 (h1+C),.slice none 0 0,.int .i64 (rt)]:=dr
    have fF:=fB.tb bo L4 aU
    refine⟨fun _=>⟨fF,(fC.cn bo (by have:=Y.lt;omega)),(fD.cn bo (by have:=F.lt;have:=T.size;have:=z.size;have:=u.size;have:=t.size;have:=N.size;have:=O.size;have:=V.size;omega)),(fE.cn bo (by have:=be.lt;have:=D.size;have:=L.size;have:=Z.size;have:=aa.size;omega))⟩,?_⟩
    have iG:=(((((((((bi.ch D (ae.rl (by have:=ab.lt;have:=f.size;have:=l.size;have:=m.size;have:=b.size;have:=d.size;omega))).cn L (by have:=ab.lt;have:=f.size;have:=l.size;have:=m.size;have:=b.size;have:=d.size;omega)).le (Z.trans (aa.trans aH))).cn aI (by have:=bi.lt;have:=D.size;have:=L.size;have:=Z.size;have:=aa.size;omega)).le bf).cn bm (by have:=ab.lt;omega)).le bg).cn bn (by have:=n.lt;have:=A.size;omega)).cn bo (by have:=F.lt;omega))
    refine GR.kP rfl rfl rfl rfl (Ef.storeAll vZ (by rfl) rfl rfl iG (by rfl) (by simp[Value.oneCell']) ?_)
    intro iH ds du
    have ds:jL iH S 61 #[.slice bL bN.length bj,.slice bM bO.length bk,.int .i64 (bl)]:=ds
    have iI:=fF.tb du L5 aV
    refine noT (by kernel_rfl) (GR.any rfl rfl (.assign rfl) rfl rfl rfl (GR.nil (E.jG (Rt (E.CW rfl (lS rfl ((dq.cn bo (by have:=n.lt;omega)).cn du (by have:=n.lt;have:=A.size;omega)) pU (by rfl)) (lS rfl (dr.cn du (by have:=F.lt;omega)) nU (by rfl)) (lS rfl ds ql (by rfl)) rfl ?_)))))
    exact⟨⟨yT ({(⟨kv,cu⟩:yn)with op:=a3.getD 0 kv}:yn),BI.len _,BI.one _⟩,⟨[.int .i64 no,.int .i64 (h0+I),.int .i64 (h1+C),.slice none 0 0,.int .i64 (rt)],rfl,by simp[Value.oneCell']⟩,⟨[.slice bL bN.length bj,.slice bM bO.length bk,.int .i64 (bl)],rfl,by simp[Value.oneCell']⟩,0,rfl,fun _=>⟨I,C,bq,bs,by omega,by omega,rfl,_,by rw[Zt]⟩,iI⟩
   refine Cy rfl (congrArg not (Bool.eq_false_iff.2 c9)) (Sq ?_)
   refine WC.xO (fun iJ w'=>Le w w'/\jL w' Q 47 #[.int .u8 0,.int .u8 0,.int .u8 0,.int .u8 0,.int .u8 0,.int .u8 0,.int .u8 0,.int .u8 0,.int .u8 0,.int .u8 0,.int .u8 0,.int .u8 0,.int .u8 0,.int .u8 0,.int .u8 0,.int .u8 0,.int .u8 0,.int .u8 0,.int .u8 0,.int .u8 0,.int .u8 0,.int .u8 0,.int .u8 0,.int .u8 0,.int .u8 0,.int .u8 0,.int .u8 0,.int .u8 0,.int .u8 0,.int .u8 0,.int .u8 0,.int .u8 0,.int .i64 0,.int .i64 0,.int .u64 0,.int .u64 0,.int .u64 0,.int .u64 0,.int .u64 0,.int .u64 0,.int .u64 0,.int .u64 0,.int .u64 0,.int .u64 0,.int .i64 0,.int .i64 0,.int .i64 0,.int .i64 0,.int .i64 0,.int .i64 0,.int .i64 0,.int .i64 0,.int .i64 0,.int .i64 0,.int .i64 0,.int .i64 0,.int .i64 (0)]/\jL w' R 55 #[.int .i64 0,.int .i64 0,.int .i64 0,.slice none 0 0,.int .i64 (0)]/\jL w' S 61 #[.slice none 0 0,.slice none 0 0,.int .i64 (0)]) [0,1,2,3,4,5,6] mixed (by kernel_rfl) ?_
   intro iJ cr
   have fG:=fv.trans cr
   have fH:=(((((bd.ch D (ae.rl (by have:=X.lt;have:=f.size;have:=l.size;have:=m.size;have:=b.size;have:=d.size;omega))).cn L (by have:=X.lt;have:=f.size;have:=l.size;have:=m.size;have:=b.size;have:=d.size;omega)).le (Z.trans (aa.trans aH))).cn aI (by have:=bd.lt;have:=D.size;have:=L.size;have:=Z.size;have:=aa.size;omega)).le cr)
   have fI:=(((((be.ch D (ae.rl (by have:=Y.lt;have:=f.size;have:=l.size;have:=m.size;have:=b.size;have:=d.size;omega))).cn L (by have:=Y.lt;have:=f.size;have:=l.size;have:=m.size;have:=b.size;have:=d.size;omega)).le (Z.trans (aa.trans aH))).cn aI (by have:=be.lt;have:=D.size;have:=L.size;have:=Z.size;have:=aa.size;omega)).le cr)
   have fJ:=(((((bi.ch D (ae.rl (by have:=ab.lt;have:=f.size;have:=l.size;have:=m.size;have:=b.size;have:=d.size;omega))).cn L (by have:=ab.lt;have:=f.size;have:=l.size;have:=m.size;have:=b.size;have:=d.size;omega)).le (Z.trans (aa.trans aH))).cn aI (by have:=bi.lt;have:=D.size;have:=L.size;have:=Z.size;have:=aa.size;omega)).le cr)
   refine⟨⟨fG,fH,fI,fJ⟩,?_⟩
   refine GR.rd rfl rfl (fun w' hs=> .jK pU (by rfl) rfl hs.2.1) rfl rfl rfl ?_
   refine GR.rd rfl rfl (fun w' hs=> .jK nU (by rfl) rfl hs.2.2.1) rfl rfl rfl ?_
   refine GR.rd rfl rfl (fun w' hs=> .jK ql (by rfl) rfl hs.2.2.2) rfl rfl rfl ?_
   refine GR.kP rfl rfl rfl rfl (Ef.storeAll yQ (by rfl) rfl rfl fH (by rfl) (by simp[Value.oneCell']) ?_)
   intro iK cs dw
   have cs:jL iK Q 47 #[.int .u8 0,.int .u8 0,.int .u8 0,.int .u8 0,.int .u8 0,.int .u8 0,.int .u8 0,.int .u8 0,.int .u8 0,.int .u8 0,.int .u8 0,.int .u8 0,.int .u8 0,.int .u8 0,.int .u8 0,.int .u8 0,.int .u8 0,.int .u8 0,.int .u8 0,.int .u8 0,.int .u8 0,.int .u8 0,.int .u8 0,.int .u8 0,.int .u8 0,.int .u8 0,.int .u8 0,.int .u8 0,.int .u8 0,.int .u8 0,.int .u8 0,.int .u8 0,.int .i64 0,.int .i64 0,.int .u64 0,.int .u64 0,.int .u64 0,.int .u64 0,.int .u64 0,.int .u64 0,.int .u64 0,.int .u64 0,.int .u64 0,.int .u64 0,.int .i64 0,.int .i64 0,.int .i64 0,.int .i64 0,.int .i64 0,.int .i64 0,.int .i64 0,.int .i64 0,.int .i64 0,.int .i64 0,.int .i64 0,.int .i64 0,.int .i64 (0)]:=cs
   have fK:=fG.tb dw L3 aT
   have fL:=(fI.cn dw (by have:=n.lt;omega))
   have fM:=(fJ.cn dw (by have:=n.lt;have:=A.size;omega))
   refine⟨fun _=>⟨fK,cs,fL,fM⟩,?_⟩
   refine GR.kP rfl rfl rfl rfl (Ef.storeAll xS (by rfl) rfl rfl fL (by rfl) (by simp[Value.oneCell']) ?_)
   intro iL ct dx
   have ct:jL iL R 55 #[.int .i64 0,.int .i64 0,.int .i64 0,.slice none 0 0,.int .i64 (0)]:=ct
   have fN:=fK.tb dx L4 aU
   have fO:=(cs.cn dx (by have:=n.lt;omega))
   have fP:=(fM.cn dx (by have:=F.lt;omega))
   refine⟨fun _=>⟨fN,fO,ct,fP⟩,?_⟩
   refine GR.kP rfl rfl rfl rfl (Ef.storeAll vZ (by rfl) rfl rfl fP (by rfl) (by simp[Value.oneCell']) ?_)
   intro iM dy dz
   have dy:jL iM S 61 #[.slice none 0 0,.slice none 0 0,.int .i64 (0)]:=dy
   have iN:=fN.tb dz L5 aV
   refine noT (by kernel_rfl) (GR.any rfl rfl (.assign rfl) rfl rfl rfl (GR.nil (E.jG (Rt (E.jH (E.CW rfl (lS rfl (fO.cn dz (by have:=n.lt;have:=A.size;omega)) pU (by rfl)) (lS rfl (ct.cn dz (by have:=F.lt;omega)) nU (by rfl)) (lS rfl dy ql (by rfl)) rfl ?_))))))
   exact⟨⟨[.int .u8 0,.int .u8 0,.int .u8 0,.int .u8 0,.int .u8 0,.int .u8 0,.int .u8 0,.int .u8 0,.int .u8 0,.int .u8 0,.int .u8 0,.int .u8 0,.int .u8 0,.int .u8 0,.int .u8 0,.int .u8 0,.int .u8 0,.int .u8 0,.int .u8 0,.int .u8 0,.int .u8 0,.int .u8 0,.int .u8 0,.int .u8 0,.int .u8 0,.int .u8 0,.int .u8 0,.int .u8 0,.int .u8 0,.int .u8 0,.int .u8 0,.int .u8 0,.int .i64 0,.int .i64 0,.int .u64 0,.int .u64 0,.int .u64 0,.int .u64 0,.int .u64 0,.int .u64 0,.int .u64 0,.int .u64 0,.int .u64 0,.int .u64 0,.int .i64 0,.int .i64 0,.int .i64 0,.int .i64 0,.int .i64 0,.int .i64 0,.int .i64 0,.int .i64 0,.int .i64 0,.int .i64 0,.int .i64 0,.int .i64 0,.int .i64 (0)],rfl,by simp[Value.oneCell']⟩,⟨[.int .i64 0,.int .i64 0,.int .i64 0,.slice none 0 0,.int .i64 (0)],rfl,by simp[Value.oneCell']⟩,⟨[.slice none 0 0,.slice none 0 0,.int .i64 (0)],rfl,by simp[Value.oneCell']⟩,_,rfl,fun h=>absurd h (by decide),iN⟩
  refine Cy rfl (congrArg not (Bool.eq_false_iff.2 c6)) (Sq ?_)
  refine WC.xO (fun iO w'=>Le w w'/\jL w' Q 47 #[.int .u8 0,.int .u8 0,.int .u8 0,.int .u8 0,.int .u8 0,.int .u8 0,.int .u8 0,.int .u8 0,.int .u8 0,.int .u8 0,.int .u8 0,.int .u8 0,.int .u8 0,.int .u8 0,.int .u8 0,.int .u8 0,.int .u8 0,.int .u8 0,.int .u8 0,.int .u8 0,.int .u8 0,.int .u8 0,.int .u8 0,.int .u8 0,.int .u8 0,.int .u8 0,.int .u8 0,.int .u8 0,.int .u8 0,.int .u8 0,.int .u8 0,.int .u8 0,.int .i64 0,.int .i64 0,.int .u64 0,.int .u64 0,.int .u64 0,.int .u64 0,.int .u64 0,.int .u64 0,.int .u64 0,.int .u64 0,.int .u64 0,.int .u64 0,.int .i64 0,.int .i64 0,.int .i64 0,.int .i64 0,.int .i64 0,.int .i64 0,.int .i64 0,.int .i64 0,.int .i64 0,.int .i64 0,.int .i64 0,.int .i64 0,.int .i64 (0)]/\jL w' R 55 #[.int .i64 0,.int .i64 0,.int .i64 0,.slice none 0 0,.int .i64 (0)]/\jL w' S 61 #[.slice none 0 0,.slice none 0 0,.int .i64 (0)]) [0,1,2,3,4,5,6] mixed (by kernel_rfl) ?_
  intro iO cv
  have fQ:=eJ.trans cv
  have fR:=((((X.le f).cn l (by have:=X.lt;omega)).cn m (by have:=X.lt;omega)).le (b.trans cv))
  have fS:=((((Y.le f).cn l (by have:=Y.lt;omega)).cn m (by have:=Y.lt;omega)).le (b.trans cv))
  have fT:=((((ab.le f).cn l (by have:=ab.lt;omega)).cn m (by have:=ab.lt;omega)).le (b.trans cv))
  refine⟨⟨fQ,fR,fS,fT⟩,?_⟩
  refine GR.rd rfl rfl (fun w' hs=> .jK pU (by rfl) rfl hs.2.1) rfl rfl rfl ?_
  refine GR.rd rfl rfl (fun w' hs=> .jK nU (by rfl) rfl hs.2.2.1) rfl rfl rfl ?_
  refine GR.rd rfl rfl (fun w' hs=> .jK ql (by rfl) rfl hs.2.2.2) rfl rfl rfl ?_
  refine GR.kP rfl rfl rfl rfl (Ef.storeAll yQ (by rfl) rfl rfl fR (by rfl) (by simp[Value.oneCell']) ?_)
  intro iP cw dA
  have cw:jL iP Q 47 #[.int .u8 0,.int .u8 0,.int .u8 0,.int .u8 0,.int .u8 0,.int .u8 0,.int .u8 0,.int .u8 0,.int .u8 0,.int .u8 0,.int .u8 0,.int .u8 0,.int .u8 0,.int .u8 0,.int .u8 0,.int .u8 0,.int .u8 0,.int .u8 0,.int .u8 0,.int .u8 0,.int .u8 0,.int .u8 0,.int .u8 0,.int .u8 0,.int .u8 0,.int .u8 0,.int .u8 0,.int .u8 0,.int .u8 0,.int .u8 0,.int .u8 0,.int .u8 0,.int .i64 0,.int .i64 0,.int .u64 0,.int .u64 0,.int .u64 0,.int .u64 0,.int .u64 0,.int .u64 0,.int .u64 0,.int .u64 0,.int .u64 0,.int .u64 0,.int .i64 0,.int .i64 0,.int .i64 0,.int .i64 0,.int .i64 0,.int .i64 0,.int .i64 0,.int .i64 0,.int .i64 0,.int .i64 0,.int .i64 0,.int .i64 0,.int .i64 (0)]:=cw
  have fU:=fQ.tb dA L3 aT
  have fV:=(fS.cn dA (by have:=n.lt;omega))
  have fW:=(fT.cn dA (by have:=n.lt;have:=A.size;omega))
  refine⟨fun _=>⟨fU,cw,fV,fW⟩,?_⟩
  refine GR.kP rfl rfl rfl rfl (Ef.storeAll xS (by rfl) rfl rfl fV (by rfl) (by simp[Value.oneCell']) ?_)
  intro iQ cx dB
  have cx:jL iQ R 55 #[.int .i64 0,.int .i64 0,.int .i64 0,.slice none 0 0,.int .i64 (0)]:=cx
  have fX:=fU.tb dB L4 aU
  have fY:=(cw.cn dB (by have:=n.lt;omega))
  have fZ:=(fW.cn dB (by have:=F.lt;omega))
  refine⟨fun _=>⟨fX,fY,cx,fZ⟩,?_⟩
  refine GR.kP rfl rfl rfl rfl (Ef.storeAll vZ (by rfl) rfl rfl fZ (by rfl) (by simp[Value.oneCell']) ?_)
  intro iR dC dD
  have dC:jL iR S 61 #[.slice none 0 0,.slice none 0 0,.int .i64 (0)]:=dC
  have iS:=fX.tb dD L5 aV
  refine noT (by kernel_rfl) (GR.any rfl rfl (.assign rfl) rfl rfl rfl (GR.nil (E.jG (Rt (E.jH (E.CW rfl (lS rfl (fY.cn dD (by have:=n.lt;have:=A.size;omega)) pU (by rfl)) (lS rfl (cx.cn dD (by have:=F.lt;omega)) nU (by rfl)) (lS rfl dC ql (by rfl)) rfl ?_))))))
  exact⟨⟨[.int .u8 0,.int .u8 0,.int .u8 0,.int .u8 0,.int .u8 0,.int .u8 0,.int .u8 0,.int .u8 0,.int .u8 0,.int .u8 0,.int .u8 0,.int .u8 0,.int .u8 0,.int .u8 0,.int .u8 0,.int .u8 0,.int .u8 0,.int .u8 0,.int .u8 0,.int .u8 0,.int .u8 0,.int .u8 0,.int .u8 0,.int .u8 0,.int .u8 0,.int .u8 0,.int .u8 0,.int .u8 0,.int .u8 0,.int .u8 0,.int .u8 0,.int .u8 0,.int .i64 0,.int .i64 0,.int .u64 0,.int .u64 0,.int .u64 0,.int .u64 0,.int .u64 0,.int .u64 0,.int .u64 0,.int .u64 0,.int .u64 0,.int .u64 0,.int .i64 0,.int .i64 0,.int .i64 0,.int .i64 0,.int .i64 0,.int .i64 0,.int .i64 0,.int .i64 0,.int .i64 0,.int .i64 0,.int .i64 0,.int .i64 0,.int .i64 (0)],rfl,by simp[Value.oneCell']⟩,⟨[.int .i64 0,.int .i64 0,.int .i64 0,.slice none 0 0,.int .i64 (0)],rfl,by simp[Value.oneCell']⟩,⟨[.slice none 0 0,.slice none 0 0,.int .i64 (0)],rfl,by simp[Value.oneCell']⟩,_,rfl,fun h=>absurd h (by decide),iS⟩
 refine Cy rfl (congrArg not (Bool.eq_false_iff.2 c2)) (Sq ?_)
 refine WC.xO (fun w8 w'=>Le w w'/\jL w' Q 47 #[.int .u8 0,.int .u8 0,.int .u8 0,.int .u8 0,.int .u8 0,.int .u8 0,.int .u8 0,.int .u8 0,.int .u8 0,.int .u8 0,.int .u8 0,.int .u8 0,.int .u8 0,.int .u8 0,.int .u8 0,.int .u8 0,.int .u8 0,.int .u8 0,.int .u8 0,.int .u8 0,.int .u8 0,.int .u8 0,.int .u8 0,.int .u8 0,.int .u8 0,.int .u8 0,.int .u8 0,.int .u8 0,.int .u8 0,.int .u8 0,.int .u8 0,.int .u8 0,.int .i64 0,.int .i64 0,.int .u64 0,.int .u64 0,.int .u64 0,.int .u64 0,.int .u64 0,.int .u64 0,.int .u64 0,.int .u64 0,.int .u64 0,.int .u64 0,.int .i64 0,.int .i64 0,.int .i64 0,.int .i64 0,.int .i64 0,.int .i64 0,.int .i64 0,.int .i64 0,.int .i64 0,.int .i64 0,.int .i64 0,.int .i64 0,.int .i64 (0)]/\jL w' R 55 #[.int .i64 0,.int .i64 0,.int .i64 0,.slice none 0 0,.int .i64 (0)]/\jL w' S 61 #[.slice none 0 0,.slice none 0 0,.int .i64 (0)]) [0,1,2,3,4,5,6] mixed (by kernel_rfl) ?_
 intro w8 d8
 have f0:=dN.trans d8
 have f1:=(((n.le (A.trans (T.trans (z.trans (u.trans (t.trans N)))))).cn O (by have:=n.lt;have:=A.size;have:=T.size;have:=z.size;have:=u.size;have:=t.size;omega)).le d8)
 have f2:=(((F.le (T.trans (z.trans (u.trans (t.trans N))))).cn O (by have:=F.lt;have:=T.size;have:=z.size;have:=u.size;have:=t.size;omega)).le d8)
 have f3:=(((aW.le (z.trans (u.trans (t.trans N)))).cn O (by have:=aW.lt;have:=z.size;have:=u.size;have:=t.size;omega)).le d8)
 refine⟨⟨f0,f1,f2,f3⟩,?_⟩
 refine GR.rd rfl rfl (fun w' hs=> .jK pU (by rfl) rfl hs.2.1) rfl rfl rfl ?_
 refine GR.rd rfl rfl (fun w' hs=> .jK nU (by rfl) rfl hs.2.2.1) rfl rfl rfl ?_
 refine GR.rd rfl rfl (fun w' hs=> .jK ql (by rfl) rfl hs.2.2.2) rfl rfl rfl ?_
 refine GR.kP rfl rfl rfl rfl (Ef.storeAll yQ (by rfl) rfl rfl f1 (by rfl) (by simp[Value.oneCell']) ?_)
 intro iT cy dE
 have cy:jL iT Q 47 #[.int .u8 0,.int .u8 0,.int .u8 0,.int .u8 0,.int .u8 0,.int .u8 0,.int .u8 0,.int .u8 0,.int .u8 0,.int .u8 0,.int .u8 0,.int .u8 0,.int .u8 0,.int .u8 0,.int .u8 0,.int .u8 0,.int .u8 0,.int .u8 0,.int .u8 0,.int .u8 0,.int .u8 0,.int .u8 0,.int .u8 0,.int .u8 0,.int .u8 0,.int .u8 0,.int .u8 0,.int .u8 0,.int .u8 0,.int .u8 0,.int .u8 0,.int .u8 0,.int .i64 0,.int .i64 0,.int .u64 0,.int .u64 0,.int .u64 0,.int .u64 0,.int .u64 0,.int .u64 0,.int .u64 0,.int .u64 0,.int .u64 0,.int .u64 0,.int .i64 0,.int .i64 0,.int .i64 0,.int .i64 0,.int .i64 0,.int .i64 0,.int .i64 0,.int .i64 0,.int .i64 0,.int .i64 0,.int .i64 0,.int .i64 0,.int .i64 (0)]:=cy
 have f4:=f0.tb dE L3 aT
 have f5:=(f2.cn dE (by have:=n.lt;omega))
 have f6:=(f3.cn dE (by have:=n.lt;have:=A.size;omega))
 refine⟨fun _=>⟨f4,cy,f5,f6⟩,?_⟩
 refine GR.kP rfl rfl rfl rfl (Ef.storeAll xS (by rfl) rfl rfl f5 (by rfl) (by simp[Value.oneCell']) ?_)
 intro iV cz dG
 have cz:jL iV R 55 #[.int .i64 0,.int .i64 0,.int .i64 0,.slice none 0 0,.int .i64 (0)]:=cz
 have f8:=f4.tb dG L4 aU
 have ga:=(cy.cn dG (by have:=n.lt;omega))
 have gb:=(f6.cn dG (by have:=F.lt;omega))
 refine⟨fun _=>⟨f8,ga,cz,gb⟩,?_⟩
 refine GR.kP rfl rfl rfl rfl (Ef.storeAll vZ (by rfl) rfl rfl gb (by rfl) (by simp[Value.oneCell']) ?_)
 intro iW dH dI
 have dH:jL iW S 61 #[.slice none 0 0,.slice none 0 0,.int .i64 (0)]:=dH
 have iX:=f8.tb dI L5 aV
 refine noT (by kernel_rfl) (GR.any rfl rfl (.assign rfl) rfl rfl rfl (GR.nil (E.jG (Rt (E.jH (E.CW rfl (lS rfl (ga.cn dI (by have:=n.lt;have:=A.size;omega)) pU (by rfl)) (lS rfl (cz.cn dI (by have:=F.lt;omega)) nU (by rfl)) (lS rfl dH ql (by rfl)) rfl ?_))))))
 exact⟨⟨[.int .u8 0,.int .u8 0,.int .u8 0,.int .u8 0,.int .u8 0,.int .u8 0,.int .u8 0,.int .u8 0,.int .u8 0,.int .u8 0,.int .u8 0,.int .u8 0,.int .u8 0,.int .u8 0,.int .u8 0,.int .u8 0,.int .u8 0,.int .u8 0,.int .u8 0,.int .u8 0,.int .u8 0,.int .u8 0,.int .u8 0,.int .u8 0,.int .u8 0,.int .u8 0,.int .u8 0,.int .u8 0,.int .u8 0,.int .u8 0,.int .u8 0,.int .u8 0,.int .i64 0,.int .i64 0,.int .u64 0,.int .u64 0,.int .u64 0,.int .u64 0,.int .u64 0,.int .u64 0,.int .u64 0,.int .u64 0,.int .u64 0,.int .u64 0,.int .i64 0,.int .i64 0,.int .i64 0,.int .i64 0,.int .i64 0,.int .i64 0,.int .i64 0,.int .i64 0,.int .i64 0,.int .i64 0,.int .i64 0,.int .i64 0,.int .i64 (0)],rfl,by simp[Value.oneCell']⟩,⟨[.int .i64 0,.int .i64 0,.int .i64 0,.slice none 0 0,.int .i64 (0)],rfl,by simp[Value.oneCell']⟩,⟨[.slice none 0 0,.slice none 0 0,.int .i64 (0)],rfl,by simp[Value.oneCell']⟩,_,rfl,fun h=>absurd h (by decide),iX⟩
end Go.Proofs.YtcaehidaejhdfaaGreat

namespace Go.Proofs.YtcaehidaejhdfaaGreat
open Go Go.Sx Go.wI Go.Num Go.Ac Go.rZ Go.Lsp Go.Fv
set_option maxRecDepth 20000
def mQ (p:GD):GD:={p with oa:=none,on:=0,oc:=0}
def U9 (h0 h1:Int):Seat:=⟨5,0,1,h0,h1⟩
def Dp (a b h0 h1 l:Int):qp:=⟨[a,b],[(0,5,U9 h0 h1)],1,[],0,l⟩
theorem Uq {h0 h1:Int}(b0:0<=h0/\h0<=8589934592)(b1:0<=h1/\h1<=8589934592):rq (⟨[h0+70368744177664,h1+70368744177664],[],0,[],0,0⟩:qp) (⟨5,0,1,h0,h1⟩:Seat) 0=(Dp 70368744177664 70368744177664 h0 h1 0,0):=by
  have hm:vM 2 (⟨5,0,1,h0,h1⟩:Seat):=by unfold vM;simp only[];omega
  unfold rq
  rw[if_neg (fun h=>h ⟨hm,by decide,by decide⟩),if_neg (by simp[jW,nz]),if_neg (by simp;omega)]
  have e1:h0+70368744177664-(h0+0)=70368744177664:=by omega
  have e2:h1+70368744177664-(h1+0)=70368744177664:=by omega
  simp[pI,Seat.p,Dp,U9]
  omega
theorem Wu {h0 h1:Int}(b0:0<=h0/\h0<=8589934592)(b1:0<=h1/\h1<=8589934592):Am [h0+70368744177664,h1+70368744177664]:=by
  refine⟨by simp,fun x hx=>?_,?_⟩
  · simp at hx;rcases hx with rfl|rfl<;>omega
  · simp;omega
theorem OJ {h0 h1 d0 d1 f0 f1:Int}(b0:0<=h0+d0)(b1:0<=h1+d1)(c0: -17592186044416<=d0/\d0<=17592186044416)(c1: -17592186044416<=d1/\d1<=17592186044416)(k0:0<=f0/\f0<=1099511627776)(k1:0<=f1/\f1<=1099511627776):
    nV (Dp 70368744177664 70368744177664 h0 h1 0) 5 (⟨d0,d1⟩:lv) (⟨f0,f1⟩:lv)=(Dp (70368744177664-(d0+f0)) (70368744177664-(d1+f1)) (h0+d0) (h1+d1) (f0+f1),0):=by
  have hok:IY (⟨d0,d1⟩:lv) (⟨f0,f1⟩:lv):=fun k hk=>by
    have:k=0\/k=1:=by omega
    rcases this with rfl|rfl
    · show(_<=d0/\d0<=_)/\0<=f0/\f0<=_;omega
    · show(_<=d1/\d1<=_)/\0<=f1/\f1<=_;omega
  have hg:jW (5:Int) (Dp 70368744177664 70368744177664 h0 h1 0).ls=some (U9 h0 h1):=by simp[Dp,jW,nz]
  have hno:¬(xH (Dp 70368744177664 70368744177664 h0 h1 0).own (U9 h0 h1) (⟨d0,d1⟩:lv) (⟨f0,f1⟩:lv) 0\/xH (Dp 70368744177664 70368744177664 h0 h1 0).own (U9 h0 h1) (⟨d0,d1⟩:lv) (⟨f0,f1⟩:lv) 1):=by
    rintro(h|h)
    · have h':h0+d0<0\/(70368744177664:Int)<d0+f0:=h
      omega
    · have h':h1+d1<0\/(70368744177664:Int)<d1+f1:=h
      omega
  unfold nV
  rw[if_neg (fun h=>h hok),hg]
  simp only[]
  rw[if_neg hno]
  have e:(0:Int)+f0+f1=f0+f1:=by omega
  simp[Dp,U9,M5,o8,pI,pK,oq,Seat.setH,lv.ix,Seat.p,Seat.h]
theorem MS (a b h0 h1 l:Int):nJ (Dp a b h0 h1 l).ls 5=⟨5,0,1,h0,h1⟩/\(jW 5 (Dp a b h0 h1 l).ls).isSome=true:=by
  constructor
  · simp[Dp,U9,nJ,jW,nz]
  · simp[Dp,U9,jW,nz]
theorem Rz (a b h0 h1 l:Int):tJ (Dp a b h0 h1 l).own 0=a/\tJ (Dp a b h0 h1 l).own 1=b:=by
  constructor<;>simp[Dp,tJ]
end Go.Proofs.YtcaehidaejhdfaaGreat

namespace Go.Proofs.YtcaehidaejhdfaaGreat
open Tryz
open Go Go.Sx Go.wI Go.Num Go.Ac Go.rZ Go.Lsp Go.Fv Go.Dk
set_option maxRecDepth 20000
def abx:CX:=⟨List.replicate 32 (.int .u8 0)++List.replicate 2 (.int .i64 0)++List.replicate 10 (.int .u64 0)++List.replicate 13 (.int .i64 0),rfl,fun v hv=>by
  simp only[List.mem_append,List.mem_replicate]at hv
  rcases hv with((hv|hv)|hv)|hv<;>rw[hv.2]<;>rfl⟩
def aby:SX:=⟨[.int .i64 0,.int .i64 0,.int .i64 0,.slice none 0 0,.int .i64 0],rfl,by simp[Value.oneCell']⟩
def abz:TX:=⟨[.slice none 0 0,.slice none 0 0,.int .i64 0],rfl,by simp[Value.oneCell']⟩
theorem RA {p:GD}(h:Dh p):((0<=(kJ p).no/\(kJ p).no<=1048576)/\(0<=(kJ p).h0/\(kJ p).h0<=8589934592)/\(0<=(kJ p).h1/\(kJ p).h1<=8589934592)/\(0<=(kJ p).rt/\(kJ p).rt<=1000)/\(kJ p).h0+(kJ p).h1=(rE p).am)/\yj (rE p) (kJ p).h0 (kJ p).h1 (kJ p).rt=true:=by
  have hr:=Ld h
  have hc:=T9 p
  have ht:=hr.tot
  rw[hc]at ht
  have hz:yP []=0:=rfl
  rw[hz]at ht
  have hp:=hr.pays
  rw[hc]at hp
  have h0:=hr.Z9;have h1:=hr.h1_
  have ha:(rE p).am<=8589934592:=by have:=h.am;unfold rE;dsimp only;omega
  have hch:=(Lc h).am
  refine⟨⟨hr.qV,⟨h0.1,by omega⟩,⟨h1.1,by omega⟩,hr.rt_,by omega⟩,?_⟩
  unfold yj
  rw[Bool.and_eq_true]
  refine⟨decide_eq_true hch,decide_eq_true ?_⟩
  have hp':u7 (kJ p).rt 0<=(kJ p).h (rE p).op:=hp
  unfold vI.h at hp'
  exact hp'
theorem RB {w:World}{g t t':Nat}{cs cs':Array Value}(h:jL w g t cs)(h':jL w g t' cs'):t=t':=by
  have e1:w.heap[g]? =_:=h
  have e2:w.heap[g]? =_:=h'
  rw[e1]at e2
  injection e2 with e3
  injection e3
theorem lM.rV {w:World}{base gp:Nat}{F:Nat->Prop}{s:qp}{b e sz n c:Nat}{α:Type}{f:α->List Value}{A:Option Addr}{xs:List α}(h:lM w base gp F s)(ho:jO w b e f sz A n c xs)(h1:132≠e)(h2:3≠e):∀g,rowOf A c=some g->¬F g:=fun g hg hF=>by
  obtain⟨gs,gh,B,d,hL,_,hF',_⟩:=h
  have hrow:∃cs,jL w g e cs:=by
    rcases ho.2.2 with⟨rfl,rfl⟩|⟨g',cur,rfl,hb,hh,_⟩
    · rw[lC]at hg;cases hg
    · rw[qY hg];exact⟨_,hh⟩
  obtain⟨cs,hB⟩:=hrow
  rcases(hF' g).1 hF with hk|hk|hk|hk
  · subst hk;exact h1 (RB hL.hp hB)
  · subst hk;have e1:=hL.hS.1;have e2:w.heap[_]? =_:=hB;rw[e1]at e2;cases e2
  · subst hk;have e1:=hL.hH.1;have e2:w.heap[_]? =_:=hB;rw[e1]at e2;cases e2
  · exact jO.lY hL.hO hB h2 hk
theorem lM.qE {w:World}{base gp:Nat}{F:Nat->Prop}{s:qp}{g t:Nat}{cs:Array Value}(h:lM w base gp F s)(hB:jL w g t cs)(h1:132≠t)(h2:3≠t):¬F g:=fun hF=>by
  obtain⟨gs,gh,B,d,hL,_,hF',_⟩:=h
  rcases(hF' g).1 hF with hk|hk|hk|hk
  · subst hk;exact h1 (RB hL.hp hB)
  · subst hk;have e1:=hL.hS.1;have e2:w.heap[_]? =_:=hB;rw[e1]at e2;cases e2
  · subst hk;have e1:=hL.hH.1;have e2:w.heap[_]? =_:=hB;rw[e1]at e2;cases e2
  · exact jO.lY hL.hO hB h2 hk
theorem RD:oz Dn 102:=⟨fun p=>by simp[Dn,qX],fun x v hv=>by
  unfold Dn at hv
  rcases List.mem_append.1 hv with hv|hv
  · rcases List.mem_append.1 hv with hv|hv
    · exact(List.mem_append.1 hv).elim (Bq _ v) (Bq _ v)
    · simp only[List.mem_cons,List.not_mem_nil,or_false]at hv;rcases hv with rfl|rfl|rfl|rfl|rfl|rfl<;>rfl
  · exact Bq _ v hv,by decide⟩
theorem Iz {α:Type}{f:α->Int}{l:List α}(k:Nat)(h:l.length<=k):((l.take k).map f).sum=(l.map f).sum:=by rw[List.take_of_length_le h]
theorem Fp {Ao:Option Addr}{qV co:Nat}{rF:List uO}{os:List nC}(w:World)(hO:Vec w xC 2 Ao qV rF)(hU:oF w 0 rF os):Calls prog 6 #[.agg #[.slice none 0 0,.slice Ao qV co,.int .i64 (0)]] w fun r w'=>∃b:Bool,r= .returned (.bool b)/\Le w w':=by
 have WM:=hO.1;have WN:=hU.1
 refine enter func6 rfl rfl (Sr (W.ef rfl rfl rfl (Ef.mH rfl fun d t J (f:jL t d 61 #[.slice none 0 0,.slice Ao qV co,.int .i64 (0)]) u=>?_)))
 have x:=(Le.refl w).trans u
 refine Wn 1 rfl (Nx (Sq (Sr (Wa (.jE qB rfl) rfl (Wr (.jF (v:= .slice none 0 0) Co rfl f rfl) rfl (Wr (.len underlying59 rfl) rfl (Wa (.dec (.gtr rfl rfl) (show _=false from by first|decide|rfl)) rfl ?_)))))))
 refine Wn 1 rfl (Wg (Any.rd (.jE qC rfl) _) rfl (Wg (.jF (v:= .slice Ao qV co) sW rfl f rfl) rfl (Wg (.len underlying31 rfl) rfl (Wn 2 rfl (Nx ?_)))))
 by_cases z:66<((qV:Nat):Int)
 ·refine Cy rfl (dT z) (Sr (Wn 1 rfl (Nx (Rt (E.jH (E.jI rfl rfl ?_))))))
  exact⟨_,rfl,x⟩
 refine Cn rfl (dF z) (Sn (Sq (Sr (Wn 1 rfl (Nx (WC.block (WC.rounds 1 (qK.step (Sq (Sr (Wn 1 rfl (Wa (.jE qB rfl) rfl ?_))))))))))))
 refine Wr (.jF (v:= .slice none 0 0) Co rfl f rfl) rfl (Wr (.len underlying59 rfl) rfl (Wa (.dec (.lss rfl rfl) (show _=false from by first|decide|rfl)) rfl ?_))
 refine Nx (WC.kF rfl (WC.exit (E.jJ (E.jJ (E.ko (E.jG (Sq (Sr (Wn 1 rfl (Nx (WC.block (WC.loop (ι:=Nat) (fun j=>[(1,.pointer (some ⟨d,0,none⟩)),(4,.int .i64 ((j:Nat):Int))]) (fun j e=>(j<=qV)/\Le w e/\t.heap.size<=e.heap.size/\jL e d 61 #[.slice none 0 0,.slice Ao qV co,.int .i64 (0)]) (fun j=>qV-j) 0 ?_ ?_ ?_))))))))))))
 ·exact .of rfl
 ·exact⟨Nat.zero_le _,x,Nat.le_refl _,f⟩
 rintro j e ⟨hj,k,H,s⟩
 refine Sq (Sr (Wn 1 rfl (Wa (.jE qC rfl) rfl (Wr (.jF (v:= .slice Ao qV co) sW rfl s rfl) rfl (Wr (.len underlying31 rfl) rfl (Wn 1 rfl (Nx ?_)))))))
 by_cases A:((j:Nat):Int)<((qV:Nat):Int)
 ·refine Cy rfl (dT A) (Sn (Sq (WC.block (Sq (Sr ?_)))))
  have y:=hU.2 j (by omega)
  obtain⟨ry,l,I⟩:=y.rows
  have yk:=l.1;have yl:=I.1;have yf:=y.few
  refine Wa (.jE qC rfl) rfl (Wr (.jF (v:= .slice Ao qV co) sW rfl s rfl) rfl (Wn 1 rfl (Wa (.lL j underlying31 Cq rfl rfl (hO.isSome kV (by omega)) rfl (by omega)) rfl (Wa (.qy zy (hO.isSome kV (by omega)) rfl) rfl (Wa (.qy vG (hO.isSome kV (by omega)) rfl) rfl ?_)))))
  refine Wr (.AP (j:=j) (o:=1) (v:= .slice ((rF.getD j kQ).bA) ((rF.getD j kQ).bN) ((rF.getD j kQ).bC)) HV rfl (hO.le k) kV (lF rF kQ (by omega)) rfl) rfl (Wr (.len underlying73 rfl) rfl (Wn 1 rfl (Nx ?_)))
  by_cases B:6<(((rF.getD j kQ).bN:Nat):Int)
  ·refine Cy rfl (dT B) (Sr (Wn 1 rfl (Nx (Rt (E.jH (E.j4 (E.jH (E.jH (E.j4 (E.jH (E.jI rfl rfl ?_)))))))))))
   exact⟨_,rfl,k⟩
  refine Cn rfl (dF B) (Sn (Sr (Wn 1 rfl (Nx (WC.block (WC.loop (ι:=Nat) (fun i=>[(1,.pointer (some ⟨d,0,none⟩)),(4,.int .i64 ((j:Nat):Int)),(5,.int .i64 ((i:Nat):Int))]) (fun i m=>(i<=(rF.getD j kQ).bN)/\Le w m/\e.heap.size<=m.heap.size/\jL m d 61 #[.slice none 0 0,.slice Ao qV co,.int .i64 (0)]) (fun i=>(rF.getD j kQ).bN-i) 0 ?_ ?_ ?_))))))
  ·exact .of rfl
  ·exact⟨Nat.zero_le _,k,Nat.le_refl _,s⟩
  rintro i m ⟨hi,c,C,n⟩
  refine Sq (Sr (Wn 1 rfl (Wa (.jE qC rfl) rfl (Wr (.jF (v:= .slice Ao qV co) sW rfl n rfl) rfl (Wn 1 rfl (Wa (.lL j underlying31 Cq rfl rfl (hO.isSome kV (by omega)) rfl (by omega)) rfl (Wa (.qy zy (hO.isSome kV (by omega)) rfl) rfl ?_)))))))
  refine Wa (.qy vG (hO.isSome kV (by omega)) rfl) rfl (Wr (.AP (j:=j) (o:=1) (v:= .slice ((rF.getD j kQ).bA) ((rF.getD j kQ).bN) ((rF.getD j kQ).bC)) HV rfl (hO.le c) kV (lF rF kQ (by omega)) rfl) rfl (Wr (.len underlying73 rfl) rfl (Wn 1 rfl (Nx ?_))))
  by_cases D:((i:Nat):Int)<(((rF.getD j kQ).bN:Nat):Int)
  ·refine Cy rfl (dT D) (Sn (Sq (WC.block (Sr (Wa (.jE qC rfl) rfl (Wr (.jF (v:= .slice Ao qV co) sW rfl n rfl) rfl (Wn 1 rfl (Wa (.lL j underlying31 Cq rfl rfl (hO.isSome kV (by omega)) rfl (by omega)) rfl ?_))))))))
   refine Wa (.qy zy (hO.isSome kV (by omega)) rfl) rfl (Wa (.qy vG (hO.isSome kV (by omega)) rfl) rfl (Wr (.AP (j:=j) (o:=1) (v:= .slice ((rF.getD j kQ).bA) ((rF.getD j kQ).bN) ((rF.getD j kQ).bC)) HV rfl (hO.le c) kV (lF rF kQ (by omega)) rfl) rfl (Wn 1 rfl (Wa (.lL i underlying73 Gi rfl rfl (l.isSome nX (by omega)) rfl (by omega)) rfl (Wa (.qy wY (l.isSome nX (by omega)) rfl) rfl ?_)))))
   refine Wr (.AP (j:=i) (o:=0) (v:= .slice ((ry.getD i kT).kA) ((ry.getD i kT).kN) ((ry.getD i kT).kC)) Gh rfl (l.le c) nX (lF ry kT (by omega)) rfl) rfl (Wr (.len underlying112 rfl) rfl (Wn 1 rfl (Nx ?_)))
   by_cases F:14<(((ry.getD i kT).kN:Nat):Int)
   ·refine Cy rfl (dT F) (Sr (Wn 1 rfl (Nx (Rt (E.j4 (E.jH (E.jH (E.j4 (E.j4 (E.jH (E.jH (E.j4 (E.jH (E.jI rfl rfl ?_))))))))))))))
    exact⟨_,rfl,c⟩
   refine Cn rfl (dF F) (WC.skip (E.jZ (E.jG (WC.region (Wn 1 rfl (Wa (.add rfl rfl (by omega)) rfl (Wn 1 rfl (W.nil (E.again (i+1) (.of rfl) ?_ ?_)))))))))
   ·exact⟨by omega,c,by have:=C;omega,n⟩
   first|omega|(simp only[];omega)
  refine Cn rfl (dF D) (WC.exit (E.jJ (E.jJ (E.ko (E.jZ (E.jG (WC.region (Wn 1 rfl (Wa (.add rfl rfl (by omega)) rfl (Wn 1 rfl (W.nil (E.again (j+1) (.of rfl) ?_ ?_))))))))))))
  ·exact⟨by omega,c,by have:=H;have:=C;have:=u.size;omega,n⟩
  first|omega|(simp only[];omega)
 refine Cn rfl (dF A) (WC.exit (E.jJ (E.jJ (E.ko (E.jG (Sr (Wn 1 rfl (Nx (Rt (E.jI rfl rfl ?_))))))))))
 exact⟨_,rfl,k⟩

set_option maxHeartbeats 4000000 in
theorem CG (p:GD) (hp:Dh p) (rW ve:Int) {xD xB:Option Addr} {tY iC0 sP oC0:Nat} {cs0:List Ke} {zi:List uO} {os0:List nC} {BZ BG:Option Addr} {xE iC1 yL oC1:Nat} {cs1:List Ke} {OG:List uO} {os1:List nC} (w:World) (hI0:Vec w JQ 34 xD tY cs0) (Fw:Vec w xC 2 xB sP zi) (Lu:oF w 0 zi os0) (hI1:Vec w JQ 34 BZ xE cs1) (OH:Vec w xC 2 BG yL OG) (OQ:oF w 0 OG os1):Calls prog 3 #[.agg (Dn p).toArray,.agg #[.slice xD tY iC0,.slice xB sP oC0,.int .i64 rW,.slice BZ xE iC1,.slice BG yL oC1,.int .i64 (ve)]] w fun r w'=>r= .returned (.bool true)/\Le w w':=by
 have ea:=hI0.1;have eb:=Fw.1;have ec:=Lu.1
 have ed:=hI1.1;have ee:=OH.1;have eg:=OQ.1
 have hpn:Dh (mQ p):=⟨hp.s0,hp.s1,hp.am,hp.ow,hp.ra,hp.op,hp.no⟩
 have hch:=Lc hpn;have hpp:=RA hpn
 obtain⟨bB,bC,hbr,hbs⟩:=hpp.1.2
 refine enter func3 rfl rfl ?_
 have L0:=Le.refl w
 refine Sr (W.ef rfl rfl rfl (Ef.mH rfl fun bD cJ cK (bE:jL cJ bD 29 (Dn p).toArray) cL=>(W.ef rfl rfl rfl (Ef.mH rfl fun I bF eh (aP:jL bF I 34 #[.slice xD tY iC0,.slice xB sP oC0,.int .i64 rW,.slice BZ xE iC1,.slice BG yL oC1,.int .i64 (ve)]) bG=>(Wn 1 rfl (Nx (Sr (W.cl go4 rfl rfl (K5 bF) ?_))))))))
 rintro _ ei ⟨rfl,aj⟩
 refine Wn 1 rfl (Nx (Sr (Wa (.jE HY rfl) rfl (W.kP rfl rfl (Ef.store XA rfl rfl (bE.le (bG.trans aj)) (by first|decide|(simp;done)|simp[RD.len]) rfl ?_)))))
 intro bH a6 aA
 have a6:jL bH bD 29 (Dn (mQ p)).toArray:=a6
 refine Nx (Sr (Wr (.jK aaj (by rfl) rfl a6) rfl ?_))
 refine W.cl go5 rfl rfl (Ua (mQ p) bH ⟨hpn,rfl,rfl,rfl⟩) ?_
 rintro _ ej ⟨rfl,aB⟩
 have L6:=((((L0.trans cL).trans bG).trans aj).tb aA L0 cK).trans aB
 refine Wn 1 rfl (Wa (.extract (v:= .agg (tX (rE (mQ p))).toArray) rfl rfl) rfl (Wa (.extract (v:= .agg (rU (jN (mQ p).s0,jN (mQ p).s1)).toArray) rfl rfl) rfl (Wa (.extract (v:= .agg #[.int .i64 ((kJ (mQ p)).no),.int .i64 ((kJ (mQ p)).h0),.int .i64 ((kJ (mQ p)).h1),.slice none 0 0,.int .i64 ((kJ (mQ p)).rt)]) rfl rfl) rfl (W.ef rfl rfl rfl (Ef.jR z47 ?_)))))
 intro bI cM cN aa aQ
 have L7:=L6.trans aQ
 have aa:jL cM bI 47 #[lD (kv.id.1.getD 0 0),lD (kv.id.1.getD 1 0),lD (kv.id.1.getD 2 0),lD (kv.id.1.getD 3 0),lD (kv.id.1.getD 4 0),lD (kv.id.1.getD 5 0),lD (kv.id.1.getD 6 0),lD (kv.id.1.getD 7 0),lD (kv.id.1.getD 8 0),lD (kv.id.1.getD 9 0),lD (kv.id.1.getD 10 0),lD (kv.id.1.getD 11 0),lD (kv.id.1.getD 12 0),lD (kv.id.1.getD 13 0),lD (kv.id.1.getD 14 0),lD (kv.id.1.getD 15 0),lD (kv.id.1.getD 16 0),lD (kv.id.1.getD 17 0),lD (kv.id.1.getD 18 0),lD (kv.id.1.getD 19 0),lD (kv.id.1.getD 20 0),lD (kv.id.1.getD 21 0),lD (kv.id.1.getD 22 0),lD (kv.id.1.getD 23 0),lD (kv.id.1.getD 24 0),lD (kv.id.1.getD 25 0),lD (kv.id.1.getD 26 0),lD (kv.id.1.getD 27 0),lD (kv.id.1.getD 28 0),lD (kv.id.1.getD 29 0),lD (kv.id.1.getD 30 0),lD (kv.id.1.getD 31 0),.int .i64 kv.no,.int .i64 0,.int .u64 ((kD.f:Nat):Int),.int .u64 ((kD.p:Nat):Int),.int .u64 ((kD.l:Nat):Int),.int .u64 ((kD.c:Nat):Int),.int .u64 ((kD.r:Nat):Int),.int .u64 ((kD.f:Nat):Int),.int .u64 ((kD.p:Nat):Int),.int .u64 ((kD.l:Nat):Int),.int .u64 ((kD.c:Nat):Int),.int .u64 ((kD.r:Nat):Int),.int .i64 0,.int .i64 0,.int .i64 0,.int .i64 0,.int .i64 0,.int .i64 0,.int .i64 0,.int .i64 0,.int .i64 0,.int .i64 0,.int .i64 0,.int .i64 0,.int .i64 (0)]:=aa
 refine W.ef rfl rfl rfl (Ef.jR z51 fun cO cP cQ (bJ:jL cP cO 51 (rU (E5,E5)).toArray) ak=>?_)
 have L8:=L7.trans ak
 refine W.ef rfl rfl rfl (Ef.jR z55 fun bK cR cS (cT:jL cR bK 55 #[.int .i64 0,.int .i64 0,.int .i64 0,.slice none 0 0,.int .i64 (0)]) aR=>(W.kP rfl rfl (Ef.storeAll yQ (by rfl) rfl rfl (aa.le (ak.trans aR)) (by rfl) (BH.one (rE (mQ p))) ?_)))
 intro cU a7 aS
 have a7:jL cU bI 47 (tX (rE (mQ p))).toArray:=a7
 have cV:=((bJ.le aR).cn aS (by have:=aa.lt;omega))
 refine W.kP rfl rfl (Ef.storeAll NA (by rfl) rfl rfl cV (by simp only[List.size_toArray,oZ.len]) (oZ.one (jN (mQ p).s0,jN (mQ p).s1)) ?_)
 intro ek el aT
 refine W.sA xS rfl rfl ((cT.cn aS (by have:=aa.lt;have:=ak.size;omega)).cn aT (by have:=bJ.lt;omega)) ?_
 intro bL a8 a9
 have a8:jL bL bK 55 #[.int .i64 ((kJ (mQ p)).no),.int .i64 ((kJ (mQ p)).h0),.int .i64 ((kJ (mQ p)).h1),.slice none 0 0,.int .i64 ((kJ (mQ p)).rt)]:=a8
 have aC:=(((L8.trans aR).tb aS L6 cN).tb aT L7 cQ).tb a9 L8 cS
 refine Nx (Sq (Sr (Wn 1 rfl (Nx (WC.block (WC.rounds 3 (qK.step (Sq (Sr (Wn 1 rfl (Wa (.dec (.lss rfl rfl) (show _=true from by first|decide|rfl)) rfl ?_)))))))))))
 refine Nx (WC.jS rfl (Sn (Sq (WC.block (Sr (Wn 1 rfl (Wa (.mP 0 underlying34 qW rfl rfl rfl (by omega)) rfl (Wa (.jE vD rfl) rfl ?_))))))))
 have aU:=((((((aP.le aj).cn aA (by have:=bE.lt;omega)).le (aB.trans (aQ.trans (ak.trans aR)))).cn aS (by have:=aP.lt;have:=aj.size;have:=aA.size;have:=aB.size;omega)).cn aT (by have:=aP.lt;have:=aj.size;have:=aA.size;have:=aB.size;have:=aQ.size;omega)).cn a9 (by have:=aP.lt;have:=aj.size;have:=aA.size;have:=aB.size;have:=aQ.size;have:=ak.size;omega))
 refine Wr (.jF (v:= .slice xD tY iC0) FF rfl aU rfl) rfl (Wr (.len underlying30 rfl) rfl (Wn 1 rfl ?_))
 by_cases aD:4<((tY:Nat):Int)
 ·refine Dt aD rfl rfl (Wn 16 rfl (Nx (WC.jS rfl (Sr (Wn 2 rfl (Nx (Rt (E.j4 (E.jH (E.jH (E.j4 (E.jH (E.jI rfl rfl ?_)))))))))))))
  exact⟨rfl,aC⟩
 refine Df aD rfl rfl (Wn 1 rfl (Wg (Any.rd (.mP 0 underlying34 qW rfl rfl rfl (by omega)) _) rfl (Wg (Any.rd (.jE tq rfl) _) rfl (Wg (.jF (v:= .slice xB sP oC0) sW rfl aU rfl) rfl (Wg (.len underlying31 rfl) rfl (Wn 2 rfl ?_))))))
 by_cases aE:4<((sP:Nat):Int)
 ·refine Dt aE rfl rfl (Wn 8 rfl (Nx (WC.jS rfl (Sr (Wn 2 rfl (Nx (Rt (E.j4 (E.jH (E.jH (E.j4 (E.jH (E.jI rfl rfl ?_)))))))))))))
  exact⟨rfl,aC⟩
 refine Df aE rfl rfl (Wn 1 rfl (Wg (Any.rd (.mP 0 underlying34 qW rfl rfl rfl (by omega)) _) rfl (Wg (Any.rd (.jE tq rfl) _) rfl (Wg (.jF (v:= .slice xB sP oC0) sW rfl aU rfl) rfl (Wg (Any.rd (.kK [.slice none 0 0,.slice xB sP oC0,.int .i64 (0)] FK z61 rfl rfl) _) rfl (W.mY rfl rfl rfl rfl rfl rfl ?_))))))
 refine Ef.call go6 rfl rfl (Fp (co:=oC0) bL (Fw.le aC) (Lu.le aC)) ?_
 rintro _ cW ⟨cX,rfl,aV⟩
 refine⟨_,rfl,?_⟩
 have al:=aC.trans aV
 refine Wn 2 rfl (Nx ?_)
 by_cases c1:cX=true
 ·refine Cn rfl (congrArg not c1) (WC.skip (E.jZ (E.jG (WC.region (Wn 1 rfl (Wa (.as (.add rfl rfl (by decide)) rfl) rfl (Wn 1 rfl (W.nil (E.round (qK.step ?_))))))))))
  refine Sq (Sr (Wn 1 rfl (Wa (.dec (.lss rfl rfl) (show _=true from by first|decide|rfl)) rfl ?_)))
  refine Nx (WC.jS rfl (Sn (Sq (WC.block (Sr (Wn 1 rfl (Wa (.mP 1 underlying34 qW rfl rfl rfl (by omega)) rfl (Wa (.mg vD rfl) rfl ?_))))))))
  have aW:=(aU.le aV)
  refine Wr (.jF (v:= .slice BZ xE iC1) FF rfl aW rfl) rfl (Wr (.len underlying30 rfl) rfl (Wn 1 rfl ?_))
  by_cases aD:4<((xE:Nat):Int)
  ·refine Dt aD rfl rfl (Wn 16 rfl (Nx (WC.jS rfl (Sr (Wn 2 rfl (Nx (Rt (E.j4 (E.jH (E.jH (E.j4 (E.jH (E.jI rfl rfl ?_)))))))))))))
   exact⟨rfl,al⟩
  refine Df aD rfl rfl (Wn 1 rfl (Wg (Any.rd (.mP 1 underlying34 qW rfl rfl rfl (by omega)) _) rfl (Wg (Any.rd (.mg tq rfl) _) rfl (Wg (.jF (v:= .slice BG yL oC1) sW rfl aW rfl) rfl (Wg (.len underlying31 rfl) rfl (Wn 2 rfl ?_))))))
  by_cases aE:4<((yL:Nat):Int)
  ·refine Dt aE rfl rfl (Wn 8 rfl (Nx (WC.jS rfl (Sr (Wn 2 rfl (Nx (Rt (E.j4 (E.jH (E.jH (E.j4 (E.jH (E.jI rfl rfl ?_)))))))))))))
   exact⟨rfl,al⟩
  refine Df aE rfl rfl (Wn 1 rfl (Wg (Any.rd (.mP 1 underlying34 qW rfl rfl rfl (by omega)) _) rfl (Wg (Any.rd (.mg tq rfl) _) rfl (Wg (.jF (v:= .slice BG yL oC1) sW rfl aW rfl) rfl (Wg (Any.rd (.kK [.slice none 0 0,.slice BG yL oC1,.int .i64 (0)] FK z61 rfl rfl) _) rfl (W.mY rfl rfl rfl rfl rfl rfl ?_))))))
  refine Ef.call go6 rfl rfl (Fp (co:=oC1) cW (OH.le al) (OQ.le al)) ?_
  rintro _ cY ⟨cZ,rfl,aX⟩
  refine⟨_,rfl,?_⟩
  have S:=al.trans aX
  refine Wn 2 rfl (Nx ?_)
  by_cases c1:cZ=true
  ·refine Cn rfl (congrArg not c1) (WC.skip (E.jZ (E.jG (WC.region (Wn 1 rfl (Wa (.as (.add rfl rfl (by decide)) rfl) rfl (Wn 1 rfl (W.nil (E.round (qK.step ?_))))))))))
   refine Sq (Sr (Wn 1 rfl (Wa (.dec (.lss rfl rfl) (show _=false from by first|decide|rfl)) rfl ?_)))
   refine Nx (WC.kF rfl (WC.exit (E.jJ (E.jJ (E.ko (E.jG (Sr (Wr (.jK pU (by rfl) rfl (((a7.cn aT (by have:=aa.lt;omega)).cn a9 (by have:=aa.lt;have:=ak.size;omega)).le (aV.trans aX))) rfl ?_))))))))
   have aF:=(a8.le (aV.trans aX))
   refine Wr (.jK nU (by rfl) rfl aF) rfl ?_
   have an:=(aW.le aX)
   refine Wr (.jK Ti (by rfl) rfl an) rfl ?_
   refine W.cl go7 rfl rfl (Uo (rE (mQ p)) ((kJ (mQ p)).no) ((kJ (mQ p)).h0) ((kJ (mQ p)).h1) ((kJ (mQ p)).rt) rW ve (iC0:=iC0) (oC0:=oC0) (iC1:=iC1) (oC1:=oC1) cY (hI0.le S) (Fw.le S) (Lu.le S) (hI1.le S) (OH.le S) (OQ.le S) hch hpp.1 hpp.2) ?_
   rintro _ em ⟨aY,aZ,bM,c3,rfl,c4,O⟩
   have bN:=S.trans O
   refine Wn 1 rfl (Wa (.extract (v:= .agg (WO aY).toArray) rfl rfl) rfl (Wa (.extract (v:= .agg (WQ aZ).toArray) rfl rfl) rfl (Wa (.extract (v:= .agg (ZI bM).toArray) rfl rfl) rfl (Wn 1 rfl (W.ef rfl rfl rfl (Ef.jR z47 ?_))))))
   intro F c7 c8 ab T
   have bO:=bN.trans T
   have ab:jL c7 F 47 (WO abx).toArray:=ab
   refine W.ef rfl rfl rfl (Ef.jR z55 fun H c9 da (ba:jL c9 H 55 (WQ aby).toArray) P=>?_)
   have bP:=bO.trans P
   refine W.ef rfl rfl rfl (Ef.jR z61 fun db dc dd (de:jL dc db 61 (ZI abz).toArray) ao=>(W.kP rfl rfl (Ef.storeAll yQ (by rw[List.size_toArray];exact Iu.len _) rfl rfl (ab.le (P.trans ao)) (by simp only[List.size_toArray,Iu.len]) (Iu.one aY) ?_)))
   intro dg bb ap
   have bb:jL dg F 47 (WO aY).toArray:=bb
   have dh:=((ba.le ao).cn ap (by have:=ab.lt;omega))
   refine W.kP rfl rfl (Ef.storeAll xS (by rw[List.size_toArray];exact Iw.len _) rfl rfl dh (by simp only[List.size_toArray,Iw.len]) (Iw.one aZ) ?_)
   intro di bc aq
   have bc:jL di H 55 (WQ aZ).toArray:=bc
   have dj:=((de.cn ap (by have:=ab.lt;have:=P.size;omega)).cn aq (by have:=ba.lt;omega))
   refine W.kP rfl rfl (Ef.storeAll vZ (by rw[List.size_toArray];exact Iy.len _) rfl rfl dj (by simp only[List.size_toArray,Iy.len]) (Iy.one bM) ?_)
   intro dk en ar
   have bQ:=(((bP.trans ao).tb ap bN c8).tb aq bO da).tb ar bP dd
   refine Wn 1 rfl (Nx (Sq (Sr (Wn 2 rfl (Nx ?_)))))
   by_cases c2:c3≠0
   ·refine Cy rfl (dT c2) (Sr (Wn 2 rfl (Nx (Rt (E.jH (E.jI rfl rfl ?_))))))
    exact⟨rfl,bQ⟩
   refine Cn rfl (dF c2) ?_
   obtain⟨A,B,hpl⟩:=c4 (by omega)
   obtain⟨WR,hnx⟩:=hpl.nx
   have q1:=hpl.c0.eq;have q2:=hpl.c1.eq;have q3:=hpl.c0.fee;have q4:=hpl.c1.fee;have q5:=hpl.c0.lo;have q6:=hpl.c0.hi;have q7:=hpl.c1.lo;have q8:=hpl.c1.hi;have q9:=hpl.n0;have eo:=hpl.n1;have qa:=hpl.c0.ci;have qb:=hpl.c0.co;have qc:=hpl.c1.ci;have qd:=hpl.c1.co
   have bR:=((bb.cn aq (by have:=ab.lt;omega)).cn ar (by have:=ab.lt;have:=P.size;omega))
   have bnz:=bR
   rw[show WO aY=yT (⟨WR,{(rE (mQ p))with am:=(rE (mQ p)).am+(A+B)}⟩:yn)from hnx]at bnz
   have bS:=(bc.cn ar (by have:=ba.lt;omega))
   have bsz:=bS
   rw[show WQ aZ=[.int .i64 ((kJ (mQ p)).no),.int .i64 ((kJ (mQ p)).h0+A),.int .i64 ((kJ (mQ p)).h1+B),.slice none 0 0,.int .i64 ((kJ (mQ p)).rt)]from hpl.st]at bsz
   refine Sn (Sr (Wn 1 rfl (Nx (Sr (Wa (.jE lT rfl) rfl (Wa (.j3 0 underlying52 kz rfl rfl rfl (by omega)) rfl ?_))))))
   have bd:=((((aF.le (O.trans (T.trans (P.trans ao)))).cn ap (by have:=aF.lt;have:=O.size;omega)).cn aq (by have:=aF.lt;have:=O.size;have:=T.size;omega)).cn ar (by have:=aF.lt;have:=O.size;have:=T.size;have:=P.size;omega))
   refine Wr (.jF (v:= .int .i64 ((kJ (mQ p)).h0)) j5 rfl bd rfl) rfl (Wn 1 rfl (Wa (.add rfl rfl (by omega)) rfl (Wa (.jE lT rfl) rfl (Wa (.j3 1 underlying52 kz rfl rfl rfl (by omega)) rfl (Wr (.jF (v:= .int .i64 ((kJ (mQ p)).h1)) j5 rfl bd rfl) rfl ?_)))))
   refine Wn 1 rfl (Wa (.add rfl rfl (by omega)) rfl (W.ef rfl rfl rfl (Ef.jX (len:=2) [_,_] underlying67 Mf rfl (by simp[Value.cells]) rfl (by decide) (by decide) ?_)))
   intro bT ac dl be U
   have bf:=bQ.trans U
   have be:jL ac bT 3 (([(((kJ (mQ p)).h0)+70368744177664),(((kJ (mQ p)).h1)+70368744177664)]).map iv).flatten.toArray:=be
   have dm:jO ac dk.heap.size 3 iv 1 (some ⟨bT,0,none⟩) 2 2 ([(((kJ (mQ p)).h0)+70368744177664),(((kJ (mQ p)).h1)+70368744177664)]):=be.pQ dl kr rfl rfl (by decide)
   refine W.cl X4 rfl rfl (Mx ac dm.vec (Wu bB bC)) ?_
   rintro _ ep ⟨V,bg,rfl,aG,aH⟩
   refine Wn 1 rfl (Nx (Sq (Sr (Wn 1 rfl (Wa (.dec (.PU (by kernel_rfl) rfl) rfl) rfl (Wn 2 rfl (Wg (Any.rd (.mZ (cells:=(lW (⟨0,1⟩:lv)).toArray) underlying52 kz z52 rfl rfl) _) rfl (Wg (Any.rd (.jE lT rfl) _) rfl (Wg (.mV [.int .i64 ((kJ (mQ p)).h0),.int .i64 ((kJ (mQ p)).h1)] vY rfl (by decide) rfl (bd.le (U.trans aH)) rfl) rfl ?_)))))))))
   refine Wg (Any.rd (.kK (jT (⟨5,0,1,(kJ (mQ p)).h0,(kJ (mQ p)).h1⟩:Seat)) KS z70 rfl rfl) _) rfl (W.mY rfl rfl rfl rfl rfl rfl (Ef.call X5 rfl rfl (by have h:=yg (s:=(⟨[(((kJ (mQ p)).h0)+70368744177664),(((kJ (mQ p)).h1)+70368744177664)],[],0,[],0,0⟩:qp)) (⟨5,0,1,(kJ (mQ p)).h0,(kJ (mQ p)).h1⟩:Seat) 0 aG;rw[Uq bB bC]at h;exact h) ?_))
   rintro _ er ⟨L,rfl,bh,bi,a0⟩
   refine⟨_,rfl,?_⟩
   have ad:=(bf.trans aH).kM a0 (fun i hi=>Nat.le_trans bf.size (aG.old hi))
   have bU:=(((((an.le (O.trans (T.trans (P.trans ao)))).cn ap (by have:=an.lt;have:=O.size;omega)).cn aq (by have:=an.lt;have:=O.size;have:=T.size;omega)).cn ar (by have:=an.lt;have:=O.size;have:=T.size;have:=P.size;omega)).le (U.trans aH))
   have bV:=(bnz.le (U.trans aH))
   have bW:=(bsz.le (U.trans aH))
   have bX:=(show¬bg I from(fun hF=>by have:=aG.old hF;have:=an.lt;have:=O.size;have:=T.size;have:=P.size;have:=ao.size;have:=ap.size;have:=aq.size;have:=ar.size;have:=U.size;omega))
   have ae:=bU.kX a0 bX
   have dn:¬L I:=fun hF=>(bi _ hF).elim bX (fun hz=>by have:=bU.lt;omega)
   have bY:=(show¬bg F from(fun hF=>by have:=aG.old hF;have:=bR.lt;have:=U.size;omega))
   have af:=bV.kX a0 bY
   have dp:¬L F:=fun hF=>(bi _ hF).elim bY (fun hz=>by have:=bV.lt;omega)
   have bZ:=(show¬bg H from(fun hF=>by have:=aG.old hF;have:=bS.lt;have:=U.size;omega))
   have ah:=bW.kX a0 bZ
   have dq:¬L H:=fun hF=>(bi _ hF).elim bZ (fun hz=>by have:=bW.lt;omega)
   refine Wg (Any.rd (.dec (.neq rfl rfl) (show _=false from by first|decide|rfl)) _) rfl ?_
   refine Wn 1 rfl (Nx (WC.kF rfl (Sn (Sr (W.ef rfl rfl rfl (Ef.jR z52 fun y dr X (ds:jL dr y 52 #[.int .i64 0,.int .i64 (0)]) aI=>(Nx (Sq (Sr (Wn 1 rfl (Nx (WC.block (WC.rounds 3 (qK.step (Sq (Sr (Wn 1 rfl ?_)))))))))))))))))
   refine Wa (.dec (.lss rfl rfl) (show _=true from by first|decide|rfl)) rfl ?_
   refine Nx (WC.jS rfl (Sn (Sq (WC.block (Sr (Wn 2 rfl (Wa (.mP 0 underlying34 qW rfl rfl rfl (by omega)) rfl (Wa (.jE vE rfl) rfl ?_))))))))
   have b0:=(ae.le aI)
   refine Wr (.jF (v:= .int .i64 rW) j5 rfl b0 rfl) rfl (Wa (.Te underlying3 rfl (by omega)) rfl (Wa (.j3 0 underlying52 kz rfl rfl rfl (by omega)) rfl (W.kP rfl rfl (Ef.store kz rfl rfl ds (by first|decide|(simp;done)) rfl ?_))))
   intro b1 bj aJ
   have bj:jL b1 y 52 #[.int .i64 (-rW),.int .i64 (0)]:=bj
   refine Nx (Sq (Sr (Wn 1 rfl (Nx (WC.block ?_)))))
   have du:=(b0.cn aJ (by have:=ae.lt;omega))
   have dw:=((af.le aI).cn aJ (by have:=af.lt;omega))
   have dx:=((ah.le aI).cn aJ (by have:=ah.lt;omega))
   have dy:=((bh.le aI).ch aJ (fun q hqq hF=>by cases hqq;have:=bh.lt hF;have:=X;omega))
   refine WC.loop (ι:=Nat×Int) (fun⟨u,J⟩=>[(3,.pointer (some ⟨I,0,none⟩)),(5,.bool true),(10,.pointer (some ⟨F,0,none⟩)),(11,.pointer (some ⟨H,0,none⟩)),(14,.int .i64 70368744177664),(15,.pointer (some ⟨V,0,none⟩)),(16,.pointer (some ⟨y,0,none⟩)),(17,.int .i64 0),(18,.int .i64 ((u:Nat):Int))]) (fun⟨u,J⟩ Q=>(u<=tY)/\(J= -rW+((cs0.take u).map (·.am)).sum)/\(-1099511627776<=J/\J<=u*1099511627776)/\Le w Q/\b1.heap.size<=Q.heap.size/\jL Q I 34 #[.slice xD tY iC0,.slice xB sP oC0,.int .i64 rW,.slice BZ xE iC1,.slice BG yL oC1,.int .i64 (ve)]/\jL Q F 47 (yT (⟨WR,{(rE (mQ p))with am:=(rE (mQ p)).am+(A+B)}⟩:yn)).toArray/\jL Q H 55 #[.int .i64 ((kJ (mQ p)).no),.int .i64 ((kJ (mQ p)).h0+A),.int .i64 ((kJ (mQ p)).h1+B),.slice none 0 0,.int .i64 ((kJ (mQ p)).rt)]/\lM Q ac.heap.size V L (Dp 70368744177664 70368744177664 (kJ (mQ p)).h0 (kJ (mQ p)).h1 0)/\jL Q y 52 #[.int .i64 J,.int .i64 (0)]) (fun⟨u,J⟩=>tY-u) (0,(-rW)) ?_ ?_ ?_
   ·exact .of rfl
   ·exact⟨Nat.zero_le _,(by simp),(by omega),((ad.trans aI).tb aJ ad X),Nat.le_refl _,du,dw,dx,dy,bj⟩
   rintro⟨u,J⟩ Q ⟨es,et,eu,b2,dz,bk,b3,b4,bl,bm⟩
   refine Sq (Sr (Wn 2 rfl (Wa (.mP 0 underlying34 qW rfl rfl rfl (by omega)) rfl (Wa (.jE vD rfl) rfl (Wr (.jF (v:= .slice xD tY iC0) FF rfl bk rfl) rfl (Wr (.len underlying30 rfl) rfl (Wn 1 rfl (Nx ?_))))))))
   by_cases c5:((u:Nat):Int)<((tY:Nat):Int)
   ·refine Cy rfl (dT c5) (Sn (Sq (WC.block (WC.draw [0,1,2,3,4,5,6,7,8,9,10,11,12,13,14] mixed (by kernel_rfl) fun dA C=>?_))))
    have b5:=b2.trans C
    have hcb:=hpl.c0.ins u (by omega)
    refine Gn 2 rfl (Ga rfl (.j3 0 underlying52 kz rfl rfl rfl (by omega)) ?_)
    have b6:=(bm.le C)
    refine Gd rfl (.jF (v:= .int .i64 J) j5 rfl b6 rfl) (Gn 1 rfl (Ga rfl (.mP 0 underlying34 qW rfl rfl rfl (by omega)) (Ga rfl (.jE vD rfl) ?_)))
    have b7:=(bk.le C)
    refine Gd rfl (.jF (v:= .slice xD tY iC0) FF rfl b7 rfl) (Gn 1 rfl (Ga rfl (.lL u underlying30 Hz rfl rfl (hI0.isSome nK (by omega)) rfl (by omega)) (Ga rfl (.qy H6 (hI0.isSome nK (by omega)) rfl) (Gd rfl (.AP (j:=u) (o:=33) (v:= .int .i64 ((cs0.getD u lH).am)) j5 rfl (hI0.le b5) nK (lF cs0 lH (by omega)) rfl) (Ga rfl (.add rfl rfl (by omega)) ?_)))))
    refine Ga rfl (.j3 0 underlying52 kz rfl rfl rfl (by omega)) (G.kP rfl rfl rfl rfl (Ef.store kz rfl rfl b6 (by first|decide|(simp;done)) rfl ?_))
    intro dB bn au
    refine noT (by kernel_rfl) ?_
    have bn:jL dB y 52 #[.int .i64 (J+((cs0.getD u lH).am)),.int .i64 (0)]:=bn
    refine G.nil (E.jZ (E.jG (WC.region (Wn 1 rfl (Wa (.add rfl rfl (by omega)) rfl (Wn 1 rfl (W.nil ?_)))))))
    have dC:=(b7.cn au (by have:=ae.lt;omega))
    have dD:=((b3.le C).cn au (by have:=af.lt;omega))
    have dE:=((b4.le C).cn au (by have:=ah.lt;omega))
    have dG:=((bl.le C).ch au (fun q hqq hF=>by cases hqq;exact(bl.qE bm (by decide) (by decide)) hF))
    refine E.again (u+1,(J+((cs0.getD u lH).am))) (.of rfl) ?_ ?_
    ·exact⟨by omega,(by rw[wG (z:=lH) (by omega)];omega),(by omega),(b5.tb au ad X),by have:=dz;have:=C.size;have:=au.size;omega,dC,dD,dE,dG,bn⟩
    first|omega|(simp only[];omega)
   refine Cn rfl (dF c5) (WC.exit (E.jJ (E.jJ (E.ko (E.jG (Sr (Wn 1 rfl (Nx (WC.block ?_)))))))))
   refine WC.loop (ι:=Nat×Int) (fun⟨n,b⟩=>[(3,.pointer (some ⟨I,0,none⟩)),(5,.bool true),(10,.pointer (some ⟨F,0,none⟩)),(11,.pointer (some ⟨H,0,none⟩)),(14,.int .i64 70368744177664),(15,.pointer (some ⟨V,0,none⟩)),(16,.pointer (some ⟨y,0,none⟩)),(17,.int .i64 0),(19,.int .i64 ((n:Nat):Int))]) (fun⟨n,b⟩ Y=>(n<=sP)/\(b=J-((os0.take n).map (·.am)).sum)/\(-1099511627776-n*1099511627776<=b/\b<=8796093022208)/\Le w Y/\Q.heap.size<=Y.heap.size/\jL Y I 34 #[.slice xD tY iC0,.slice xB sP oC0,.int .i64 rW,.slice BZ xE iC1,.slice BG yL oC1,.int .i64 (ve)]/\jL Y F 47 (yT (⟨WR,{(rE (mQ p))with am:=(rE (mQ p)).am+(A+B)}⟩:yn)).toArray/\jL Y H 55 #[.int .i64 ((kJ (mQ p)).no),.int .i64 ((kJ (mQ p)).h0+A),.int .i64 ((kJ (mQ p)).h1+B),.slice none 0 0,.int .i64 ((kJ (mQ p)).rt)]/\lM Y ac.heap.size V L (Dp 70368744177664 70368744177664 (kJ (mQ p)).h0 (kJ (mQ p)).h1 0)/\jL Y y 52 #[.int .i64 b,.int .i64 (0)]) (fun⟨n,b⟩=>sP-n) (0,J) ?_ ?_ ?_
   ·exact .of rfl
   ·exact⟨Nat.zero_le _,(by simp),(by omega),b2,Nat.le_refl _,bk,b3,b4,bl,bm⟩
   rintro⟨n,b⟩ Y ⟨ew,ex,ey,b8,dH,a1,b9,ca,a2,a3⟩
   refine Sq (Sr (Wn 2 rfl (Wa (.mP 0 underlying34 qW rfl rfl rfl (by omega)) rfl (Wa (.jE tq rfl) rfl (Wr (.jF (v:= .slice xB sP oC0) sW rfl a1 rfl) rfl (Wr (.len underlying31 rfl) rfl (Wn 1 rfl (Nx ?_))))))))
   by_cases c6:((n:Nat):Int)<((sP:Nat):Int)
   ·refine Cy rfl (dT c6) (Sn (Sq (WC.block (WC.draw [0,1,2,3,4,5,6,7,8,9,10,11,12,13,14] mixed (by kernel_rfl) fun dI D=>?_))))
    have cc:=b8.trans D
    have WB:=hpl.c0.outs n (by omega);rw[<-(Lu.2 n (by omega)).am]at WB
    refine Gn 2 rfl (Ga rfl (.j3 0 underlying52 kz rfl rfl rfl (by omega)) ?_)
    have cd:=(a3.le D)
    refine Gd rfl (.jF (v:= .int .i64 b) j5 rfl cd rfl) (Gn 1 rfl (Ga rfl (.mP 0 underlying34 qW rfl rfl rfl (by omega)) (Ga rfl (.jE tq rfl) ?_)))
    have ce:=(a1.le D)
    refine Gd rfl (.jF (v:= .slice xB sP oC0) sW rfl ce rfl) (Gn 1 rfl (Ga rfl (.lL n underlying31 Cq rfl rfl (Fw.isSome kV (by omega)) rfl (by omega)) (Ga rfl (.qy Ct (Fw.isSome kV (by omega)) rfl) (Gd rfl (.AP (j:=n) (o:=0) (v:= .int .i64 ((zi.getD n kQ).am)) j5 rfl (Fw.le cc) kV (lF zi kQ (by omega)) rfl) (Ga rfl (.sub rfl rfl (by omega)) ?_)))))
    refine Ga rfl (.j3 0 underlying52 kz rfl rfl rfl (by omega)) (G.kP rfl rfl rfl rfl (Ef.store kz rfl rfl cd (by first|decide|(simp;done)) rfl ?_))
    intro dJ bo av
    refine noT (by kernel_rfl) ?_
    have bo:jL dJ y 52 #[.int .i64 (b-((zi.getD n kQ).am)),.int .i64 (0)]:=bo
    refine G.nil (E.jZ (E.jG (WC.region (Wn 1 rfl (Wa (.add rfl rfl (by omega)) rfl (Wn 1 rfl (W.nil ?_)))))))
    have dK:=(ce.cn av (by have:=ae.lt;omega))
    have dL:=((b9.le D).cn av (by have:=af.lt;omega))
    have dM:=((ca.le D).cn av (by have:=ah.lt;omega))
    have dN:=((a2.le D).ch av (fun q hqq hF=>by cases hqq;exact(a2.qE a3 (by decide) (by decide)) hF))
    refine E.again (n+1,(b-((zi.getD n kQ).am))) (.of rfl) ?_ ?_
    ·exact⟨by omega,(by rw[wG (z:=oO) (by omega),<-(Lu.2 n (by omega)).am];omega),(by omega),(cc.tb av ad X),by have:=dH;have:=D.size;have:=av.size;omega,dK,dL,dM,dN,bo⟩
    first|omega|(simp only[];omega)
   refine Cn rfl (dF c6) (WC.exit (E.jJ (E.jJ (E.ko (E.jZ (E.jG (WC.region (Wn 1 rfl (Wa (.as (.add rfl rfl (by decide)) rfl) rfl (Wn 1 rfl (W.nil (E.round (qK.step ?_)))))))))))))
   refine Sq (Sr (Wn 1 rfl (Wa (.dec (.lss rfl rfl) (show _=true from by first|decide|rfl)) rfl ?_)))
   refine Nx (WC.jS rfl (Sn (Sq (WC.block (Sr (Wn 2 rfl (Wa (.mP 1 underlying34 qW rfl rfl rfl (by omega)) rfl (Wa (.mg vE rfl) rfl (Wr (.jF (v:= .int .i64 ve) j5 rfl a1 rfl) rfl (Wa (.Te underlying3 rfl (by omega)) rfl (Wa (.j3 1 underlying52 kz rfl rfl rfl (by omega)) rfl ?_)))))))))))
   refine W.kP rfl rfl (Ef.store kz rfl rfl a3 (by first|decide|(simp;done)) rfl ?_)
   intro cf bp aK
   have bp:jL cf y 52 #[.int .i64 b,.int .i64 (-ve)]:=bp
   refine Nx (Sq (Sr (Wn 1 rfl (Nx (WC.block ?_)))))
   have dO:=(a1.cn aK (by have:=ae.lt;omega))
   have dP:=(b9.cn aK (by have:=af.lt;omega))
   have dQ:=(ca.cn aK (by have:=ah.lt;omega))
   have dR:=(a2.ch aK (fun q hqq hF=>by cases hqq;exact(a2.qE a3 (by decide) (by decide)) hF))
   refine WC.loop (ι:=Nat×Int) (fun⟨x,K⟩=>[(3,.pointer (some ⟨I,0,none⟩)),(5,.bool true),(10,.pointer (some ⟨F,0,none⟩)),(11,.pointer (some ⟨H,0,none⟩)),(14,.int .i64 70368744177664),(15,.pointer (some ⟨V,0,none⟩)),(16,.pointer (some ⟨y,0,none⟩)),(17,.int .i64 1),(18,.int .i64 ((x:Nat):Int))]) (fun⟨x,K⟩ R=>(x<=xE)/\(K= -ve+((cs1.take x).map (·.am)).sum)/\(-1099511627776<=K/\K<=x*1099511627776)/\Le w R/\cf.heap.size<=R.heap.size/\jL R I 34 #[.slice xD tY iC0,.slice xB sP oC0,.int .i64 rW,.slice BZ xE iC1,.slice BG yL oC1,.int .i64 (ve)]/\jL R F 47 (yT (⟨WR,{(rE (mQ p))with am:=(rE (mQ p)).am+(A+B)}⟩:yn)).toArray/\jL R H 55 #[.int .i64 ((kJ (mQ p)).no),.int .i64 ((kJ (mQ p)).h0+A),.int .i64 ((kJ (mQ p)).h1+B),.slice none 0 0,.int .i64 ((kJ (mQ p)).rt)]/\lM R ac.heap.size V L (Dp 70368744177664 70368744177664 (kJ (mQ p)).h0 (kJ (mQ p)).h1 0)/\jL R y 52 #[.int .i64 b,.int .i64 (K)]) (fun⟨x,K⟩=>xE-x) (0,(-ve)) ?_ ?_ ?_
   ·exact .of rfl
   ·exact⟨Nat.zero_le _,(by simp),(by omega),(b8.tb aK ad X),Nat.le_refl _,dO,dP,dQ,dR,bp⟩
   rintro⟨x,K⟩ R ⟨ez,eA,eB,cg,dS,bq,cj,ck,bs,bt⟩
   refine Sq (Sr (Wn 2 rfl (Wa (.mP 1 underlying34 qW rfl rfl rfl (by omega)) rfl (Wa (.mg vD rfl) rfl (Wr (.jF (v:= .slice BZ xE iC1) FF rfl bq rfl) rfl (Wr (.len underlying30 rfl) rfl (Wn 1 rfl (Nx ?_))))))))
   by_cases c5:((x:Nat):Int)<((xE:Nat):Int)
   ·refine Cy rfl (dT c5) (Sn (Sq (WC.block (WC.draw [0,1,2,3,4,5,6,7,8,9,10,11,12,13,14] mixed (by kernel_rfl) fun dA C=>?_))))
    have cm:=cg.trans C
    have hcb:=hpl.c1.ins x (by omega)
    refine Gn 2 rfl (Ga rfl (.j3 1 underlying52 kz rfl rfl rfl (by omega)) ?_)
    have cp:=(bt.le C)
    refine Gd rfl (.jF (v:= .int .i64 K) j5 rfl cp rfl) (Gn 1 rfl (Ga rfl (.mP 1 underlying34 qW rfl rfl rfl (by omega)) (Ga rfl (.mg vD rfl) ?_)))
    have cq:=(bq.le C)
    refine Gd rfl (.jF (v:= .slice BZ xE iC1) FF rfl cq rfl) (Gn 1 rfl (Ga rfl (.lL x underlying30 Hz rfl rfl (hI1.isSome nK (by omega)) rfl (by omega)) (Ga rfl (.qy H6 (hI1.isSome nK (by omega)) rfl) (Gd rfl (.AP (j:=x) (o:=33) (v:= .int .i64 ((cs1.getD x lH).am)) j5 rfl (hI1.le cm) nK (lF cs1 lH (by omega)) rfl) (Ga rfl (.add rfl rfl (by omega)) ?_)))))
    refine Ga rfl (.j3 1 underlying52 kz rfl rfl rfl (by omega)) (G.kP rfl rfl rfl rfl (Ef.store kz rfl rfl cp (by first|decide|(simp;done)) rfl ?_))
    intro dU bu aw
    refine noT (by kernel_rfl) ?_
    have bu:jL dU y 52 #[.int .i64 b,.int .i64 (K+((cs1.getD x lH).am))]:=bu
    refine G.nil (E.jZ (E.jG (WC.region (Wn 1 rfl (Wa (.add rfl rfl (by omega)) rfl (Wn 1 rfl (W.nil ?_)))))))
    have dV:=(cq.cn aw (by have:=ae.lt;omega))
    have dW:=((cj.le C).cn aw (by have:=af.lt;omega))
    have dX:=((ck.le C).cn aw (by have:=ah.lt;omega))
    have dY:=((bs.le C).ch aw (fun q hqq hF=>by cases hqq;exact(bs.qE bt (by decide) (by decide)) hF))
    refine E.again (x+1,(K+((cs1.getD x lH).am))) (.of rfl) ?_ ?_
    ·exact⟨by omega,(by rw[wG (z:=lH) (by omega)];omega),(by omega),(cm.tb aw ad X),by have:=dS;have:=C.size;have:=aw.size;omega,dV,dW,dX,dY,bu⟩
    first|omega|(simp only[];omega)
   refine Cn rfl (dF c5) (WC.exit (E.jJ (E.jJ (E.ko (E.jG (Sr (Wn 1 rfl (Nx (WC.block ?_)))))))))
   refine WC.loop (ι:=Nat×Int) (fun⟨t,m⟩=>[(3,.pointer (some ⟨I,0,none⟩)),(5,.bool true),(10,.pointer (some ⟨F,0,none⟩)),(11,.pointer (some ⟨H,0,none⟩)),(14,.int .i64 70368744177664),(15,.pointer (some ⟨V,0,none⟩)),(16,.pointer (some ⟨y,0,none⟩)),(17,.int .i64 1),(19,.int .i64 ((t:Nat):Int))]) (fun⟨t,m⟩ Z=>(t<=yL)/\(m=K-((os1.take t).map (·.am)).sum)/\(-1099511627776-t*1099511627776<=m/\m<=8796093022208)/\Le w Z/\R.heap.size<=Z.heap.size/\jL Z I 34 #[.slice xD tY iC0,.slice xB sP oC0,.int .i64 rW,.slice BZ xE iC1,.slice BG yL oC1,.int .i64 (ve)]/\jL Z F 47 (yT (⟨WR,{(rE (mQ p))with am:=(rE (mQ p)).am+(A+B)}⟩:yn)).toArray/\jL Z H 55 #[.int .i64 ((kJ (mQ p)).no),.int .i64 ((kJ (mQ p)).h0+A),.int .i64 ((kJ (mQ p)).h1+B),.slice none 0 0,.int .i64 ((kJ (mQ p)).rt)]/\lM Z ac.heap.size V L (Dp 70368744177664 70368744177664 (kJ (mQ p)).h0 (kJ (mQ p)).h1 0)/\jL Z y 52 #[.int .i64 b,.int .i64 (m)]) (fun⟨t,m⟩=>yL-t) (0,K) ?_ ?_ ?_
   ·exact .of rfl
   ·exact⟨Nat.zero_le _,(by simp),(by omega),cg,Nat.le_refl _,bq,cj,ck,bs,bt⟩
   rintro⟨t,m⟩ Z ⟨eC,eD,eE,cr,dZ,aL,cs,ct,a4,a5⟩
   refine Sq (Sr (Wn 2 rfl (Wa (.mP 1 underlying34 qW rfl rfl rfl (by omega)) rfl (Wa (.mg tq rfl) rfl (Wr (.jF (v:= .slice BG yL oC1) sW rfl aL rfl) rfl (Wr (.len underlying31 rfl) rfl (Wn 1 rfl (Nx ?_))))))))
   by_cases c6:((t:Nat):Int)<((yL:Nat):Int)
   ·refine Cy rfl (dT c6) (Sn (Sq (WC.block (WC.draw [0,1,2,3,4,5,6,7,8,9,10,11,12,13,14] mixed (by kernel_rfl) fun dI D=>?_))))
    have cu:=cr.trans D
    have WB:=hpl.c1.outs t (by omega);rw[<-(OQ.2 t (by omega)).am]at WB
    refine Gn 2 rfl (Ga rfl (.j3 1 underlying52 kz rfl rfl rfl (by omega)) ?_)
    have cv:=(a5.le D)
    refine Gd rfl (.jF (v:= .int .i64 m) j5 rfl cv rfl) (Gn 1 rfl (Ga rfl (.mP 1 underlying34 qW rfl rfl rfl (by omega)) (Ga rfl (.mg tq rfl) ?_)))
    have cw:=(aL.le D)
    refine Gd rfl (.jF (v:= .slice BG yL oC1) sW rfl cw rfl) (Gn 1 rfl (Ga rfl (.lL t underlying31 Cq rfl rfl (OH.isSome kV (by omega)) rfl (by omega)) (Ga rfl (.qy Ct (OH.isSome kV (by omega)) rfl) (Gd rfl (.AP (j:=t) (o:=0) (v:= .int .i64 ((OG.getD t kQ).am)) j5 rfl (OH.le cu) kV (lF OG kQ (by omega)) rfl) (Ga rfl (.sub rfl rfl (by omega)) ?_)))))
    refine Ga rfl (.j3 1 underlying52 kz rfl rfl rfl (by omega)) (G.kP rfl rfl rfl rfl (Ef.store kz rfl rfl cv (by first|decide|(simp;done)) rfl ?_))
    intro d0 bv ax
    refine noT (by kernel_rfl) ?_
    have bv:jL d0 y 52 #[.int .i64 b,.int .i64 (m-((OG.getD t kQ).am))]:=bv
    refine G.nil (E.jZ (E.jG (WC.region (Wn 1 rfl (Wa (.add rfl rfl (by omega)) rfl (Wn 1 rfl (W.nil ?_)))))))
    have d1:=(cw.cn ax (by have:=ae.lt;omega))
    have d2:=((cs.le D).cn ax (by have:=af.lt;omega))
    have d3:=((ct.le D).cn ax (by have:=ah.lt;omega))
    have d4:=((a4.le D).ch ax (fun q hqq hF=>by cases hqq;exact(a4.qE a5 (by decide) (by decide)) hF))
    refine E.again (t+1,(m-((OG.getD t kQ).am))) (.of rfl) ?_ ?_
    ·exact⟨by omega,(by rw[wG (z:=oO) (by omega),<-(OQ.2 t (by omega)).am];omega),(by omega),(cu.tb ax ad X),by have:=dZ;have:=D.size;have:=ax.size;omega,d1,d2,d3,d4,bv⟩
    first|omega|(simp only[];omega)
   refine Cn rfl (dF c6) (WC.exit (E.jJ (E.jJ (E.ko (E.jZ (E.jG (WC.region (Wn 1 rfl (Wa (.as (.add rfl rfl (by decide)) rfl) rfl (Wn 1 rfl (W.nil (E.round (qK.step ?_)))))))))))))
   refine Sq (Sr (Wn 1 rfl (Wa (.dec (.lss rfl rfl) (show _=false from by first|decide|rfl)) rfl ?_)))
   refine Nx (WC.kF rfl (WC.exit (E.jJ (E.jJ (E.ko (E.jG (Sr ?_)))))))
   have d5:b=A:=by have e1:=Iz (f:=fun q:Ke=>q.am) (l:=cs0) u (by omega);have e2:=Iz (f:=fun q:nC=>q.am) (l:=os0) n (by omega);omega
   have d6:m=B:=by have e1:=Iz (f:=fun q:Ke=>q.am) (l:=cs1) x (by omega);have e2:=Iz (f:=fun q:nC=>q.am) (l:=os1) t (by omega);omega
   refine Wn 1 rfl (Wr (.jK vY (by rfl) rfl a5) rfl ?_)
   refine Wa (.mP 0 underlying34 qW rfl rfl rfl (by omega)) rfl (Wa (.jE vE rfl) rfl (Wr (.jF (v:= .int .i64 rW) j5 rfl aL rfl) rfl (Wa (.mP 1 underlying34 qW rfl rfl rfl (by omega)) rfl (Wa (.mg vE rfl) rfl (Wr (.jF (v:= .int .i64 ve) j5 rfl aL rfl) rfl ?_)))))
   refine Wa (.mZ (cells:=(lW (⟨rW,ve⟩:lv)).toArray) underlying52 kz z52 rfl rfl) rfl (W.cl X6 rfl rfl (by have h:=EU (s:=(Dp 70368744177664 70368744177664 (kJ (mQ p)).h0 (kJ (mQ p)).h1 0)) 5 (⟨b,m⟩:lv) (⟨rW,ve⟩:lv) (fun k hk=>(show k=0\/k=1 from by omega).elim (fun e=>by subst e;show _<=b/\b<=_;omega) (fun e=>by subst e;show _<=m/\m<=_;omega)) a4;rw[OJ (by omega) (by omega) (by omega) (by omega) (by omega) (by omega)]at h;exact h) ?_)
   rintro _ eF ⟨eG,rfl,bw,eH,aM⟩
   have cx:=aL.kX aM (show¬L I from dn)
   have cy:=cs.kX aM (show¬L F from dp)
   have cz:=ct.kX aM (show¬L H from dq)
   have cA:=a5.kX aM (show¬L y from(fun hF=>by have:=bh.lt hF;have:=X;omega))
   refine Wn 1 rfl (Nx (Sr (Wn 1 rfl (W.cl X7 rfl rfl (by have h:=JN (s:=(Dp (70368744177664-(b+rW)) (70368744177664-(m+ve)) ((kJ (mQ p)).h0+b) ((kJ (mQ p)).h1+m) (rW+ve))) 5 bw;rw[(MS _ _ _ _ _).1,(MS _ _ _ _ _).2]at h;exact h) ?_))))
   rintro _ eI ⟨rfl,N⟩
   have cB:=(cr.kM aM (fun i hi=>Nat.le_trans bf.size (a4.old hi))).trans N
   refine Wn 1 rfl (Wa (.extract (v:= .agg #[.int .i64 5,.int .i64 0,.int .i64 1,.int .i64 ((kJ (mQ p)).h0+b),.int .i64 ((kJ (mQ p)).h1+m)]) rfl rfl) rfl (Wn 1 rfl (W.ef rfl rfl rfl (Ef.jR z70 fun cC d7 cD (d8:jL d7 cC 70 (jT jM).toArray) ay=>(W.sA rQ rfl rfl d8 ?_)))))
   intro d9 bx az
   have bx:jL d9 cC 70 #[.int .i64 5,.int .i64 0,.int .i64 1,.int .i64 ((kJ (mQ p)).h0+b),.int .i64 ((kJ (mQ p)).h1+m)]:=bx
   refine Wn 1 rfl (Nx (Sq (WC.draw [0,1,2,3,4,5,6,7,8,9,10,11,12,13,14,15,16,17,18,19,20,21,22,23,24,25,26,27,28,30,31,32,33,34,35,36,29,37,38,39,40,42,43,44,45,46,47,48,49,41,50,51,52,53,55,56,57,58,59,60,61,62,54,63,64,65] mixed (by kernel_rfl) fun eJ ai=>(Gn 3 rfl (oJ rfl (.dec (.eql rfl rfl) (show _=true from by first|decide|rfl)) ?_)))))
   refine Gn 5 rfl (oJ rfl (.jE lZ rfl) ?_)
   have bz:=(bx.le ai)
   refine uw rfl (.mV [.int .i64 ((kJ (mQ p)).h0+b),.int .i64 ((kJ (mQ p)).h1+m)] vY rfl (by decide) rfl bz rfl) (oJ rfl (.jE lT rfl) (uw rfl (.mV [.int .i64 ((kJ (mQ p)).h0+A),.int .i64 ((kJ (mQ p)).h1+B)] vY rfl (by decide) rfl (((cz.le (N.trans ay)).cn az (by have:=cz.lt;have:=N.size;omega)).le ai) rfl) ?_))
   refine oJ rfl (.dec (.eqA XK rfl rfl (Gx (d:=9998) (⟨((kJ (mQ p)).h0+b),((kJ (mQ p)).h1+m)⟩:lv) (⟨(kJ (mQ p)).h0+A,(kJ (mQ p)).h1+B⟩:lv))) (dT (by rw[d5,d6]))) ?_
   refine Gn 2 rfl (oJ rfl (.jE lZ rfl) (oJ rfl (.j3 0 underlying52 kz rfl rfl rfl (by omega)) (uw rfl (.jF (v:= .int .i64 ((kJ (mQ p)).h0+b)) j5 rfl bz rfl) (oJ rfl (.jE lZ rfl) (oJ rfl (.j3 1 underlying52 kz rfl rfl rfl (by omega)) ?_)))))
   refine uw rfl (.jF (v:= .int .i64 ((kJ (mQ p)).h1+m)) j5 rfl bz rfl) (oJ rfl (.add rfl rfl (by omega)) (oJ rfl (.jE qA rfl) (uw rfl (.jF (v:= .int .i64 ((⟨WR,{(rE (mQ p))with am:=(rE (mQ p)).am+(A+B)}⟩:yn).c.am)) j5 rfl (((cy.le (N.trans ay)).cn az (by have:=cy.lt;have:=N.size;omega)).le ai) rfl) ?_)))
   refine oJ rfl (.dec (.eql rfl rfl) (dT (by show _=(rE (mQ p)).am+(A+B);omega))) ?_
   refine Gn 3 rfl (oJ rfl (.mP 0 underlying34 qW rfl rfl rfl (by omega)) (oJ rfl (.jE vE rfl) ?_))
   have bA:=(((cx.le (N.trans ay)).cn az (by have:=cx.lt;have:=N.size;omega)).le ai)
   refine uw rfl (.jF (v:= .int .i64 rW) j5 rfl bA rfl) (oJ rfl (.mP 1 underlying34 qW rfl rfl rfl (by omega)) (oJ rfl (.mg vE rfl) (uw rfl (.jF (v:= .int .i64 ve) j5 rfl bA rfl) (oJ rfl (.add rfl rfl (by omega)) ?_))))
   have cE:=(((bw.le (N.trans ay)).ch az (fun q hqq hF=>by cases hqq;have:=bw.lt hF;have:=N.size;have:=cD;omega)).le ai)
   refine G.mY rfl rfl rfl rfl rfl rfl rfl rfl (Ef.call VH rfl rfl (EW (s:=(Dp (70368744177664-(b+rW)) (70368744177664-(m+ve)) ((kJ (mQ p)).h0+b) ((kJ (mQ p)).h1+m) (rW+ve))) cE) ?_)
   rintro _ eK ⟨rfl,aN⟩
   refine⟨_,rfl,?_⟩
   refine⟨fun _=>aN,?_⟩
   refine oJ rfl (.dec (.eql rfl rfl) (dT rfl)) (Gn 4 rfl (oJ rfl (.j3 0 underlying52 kz rfl rfl rfl (by omega)) ?_))
   have cF:=(((cA.le (N.trans ay)).cn az (by have:=cA.lt;have:=N.size;omega)).le (ai.trans aN))
   refine uw rfl (.jF (v:= .int .i64 b) j5 rfl cF rfl) (oJ rfl (.sub rfl rfl (by omega)) (oJ rfl (.mP 0 underlying34 qW rfl rfl rfl (by omega)) (oJ rfl (.jE vE rfl) ?_)))
   have cG:=(bA.le aN)
   refine uw rfl (.jF (v:= .int .i64 rW) j5 rfl cG rfl) (oJ rfl (.sub rfl rfl (by omega)) ?_)
   have cH:=(cE.le aN)
   refine G.mY rfl rfl rfl rfl rfl rfl rfl rfl (Ef.call NC rfl rfl (by have h:=Bn (s:=(Dp (70368744177664-(b+rW)) (70368744177664-(m+ve)) ((kJ (mQ p)).h0+b) ((kJ (mQ p)).h1+m) (rW+ve))) 0 cH;rw[(Rz _ _ _ _ _).1]at h;exact h) ?_)
   rintro _ eL ⟨rfl,aO⟩
   refine⟨_,rfl,?_⟩
   refine⟨fun _=>aO,?_⟩
   refine oJ rfl (.dec (.eql rfl rfl) (dT (by omega))) (Gn 4 rfl (oJ rfl (.j3 1 underlying52 kz rfl rfl rfl (by omega)) (uw rfl (.jF (v:= .int .i64 m) j5 rfl (cF.le aO) rfl) (oJ rfl (.sub rfl rfl (by omega)) (oJ rfl (.mP 1 underlying34 qW rfl rfl rfl (by omega)) ?_)))))
   refine oJ rfl (.mg vE rfl) (uw rfl (.jF (v:= .int .i64 ve) j5 rfl (cG.le aO) rfl) (oJ rfl (.sub rfl rfl (by omega)) (G.mY rfl rfl rfl rfl rfl rfl rfl rfl (Ef.call NC rfl rfl (by have h:=Bn (s:=(Dp (70368744177664-(b+rW)) (70368744177664-(m+ve)) ((kJ (mQ p)).h0+b) ((kJ (mQ p)).h1+m) (rW+ve))) 1 (cH.le aO);rw[(Rz _ _ _ _ _).2]at h;exact h) ?_))))
   rintro _ eM ⟨rfl,cI⟩
   refine⟨_,rfl,?_⟩
   refine⟨fun _=>cI,?_⟩
   refine oJ rfl (.dec (.eql rfl rfl) (dT (by omega))) (Gn 2 rfl (G.nil (E.jG (Rt (E.jI rfl rfl ?_)))))
   exact⟨rfl,((((((cB.trans ay).tb az cB cD).trans ai).trans aN).trans aO).trans cI)⟩
  refine Cy rfl (congrArg not (Bool.eq_false_iff.2 c1)) (Sr (Wn 2 rfl (Nx (Rt (E.j4 (E.jH (E.jH (E.j4 (E.jH (E.jI rfl rfl ?_))))))))))
  exact⟨rfl,S⟩
 refine Cy rfl (congrArg not (Bool.eq_false_iff.2 c1)) (Sr (Wn 2 rfl (Nx (Rt (E.j4 (E.jH (E.jH (E.j4 (E.jH (E.jI rfl rfl ?_))))))))))
 exact⟨rfl,al⟩
end Go.Proofs.YtcaehidaejhdfaaGreat

