/- RoutePeels: for every input the law answers true and leaves its arguments as they were. -/
import Derived.Test.YtocheaahlpiajaaGreatDoorRoutePeelsO
set_option linter.unusedVariables false
set_option linter.unusedSimpArgs false
namespace Go.Proofs.YtocheaahlpiajaaGreatDoor
open Tryz
open Go Go.Sx Go.Num Go.Gsp Go.Nsp Go.Msp Go.Rtp
set_option maxRecDepth 20000
theorem rodds_ok {base gp:Nat}{F:Nat->Prop}{m:MF}(a x:Int){A:Option Addr}{n c:Nat}{xs:List Gsp.Edge}(w:World)(hP:MPool w base gp F m)(hV:Vec w edgeV 9 A n xs)(hn:n<=1000000):Calls prog 116 #[.pointer (some ⟨gp,0,none⟩),.slice A n c,.int .i64 (a),.int .i64 (x)] w fun r w'=>∃A1 c1 A2 c2,r= .returned (.tuple #[.agg #[.slice A1 (digs (oddsR m xs a x).1.n).length c1,.slice A2 (digs (oddsR m xs a x).1.d).length c2],.int .i64 (oddsR m xs a x).2.1,.int .i64 (oddsR m xs a x).2.2])/\OVec w' w.heap.size 273 dv 1 A1 (digs (oddsR m xs a x).1.n).length c1 (digs (oddsR m xs a x).1.n)/\OVec w' w.heap.size 273 dv 1 A2 (digs (oddsR m xs a x).1.d).length c2 (digs (oddsR m xs a x).1.d)/\Le w w':=by
 have hl:=hV.1
 have hgm:=hP.good
 refine enter func116 rfl rfl ?_
 have L0:=Le.refl w
 refine WC.sr (W.ef rfl rfl rfl (Ef.allocA z61 fun X Y aG (C:Blk Y X 61 #[.slice none 0 0,.slice none 0 0]) Z=>?_))
 have L1:=L0.trans Z
 refine W.run 2 rfl (W.nx (WC.sr (W.run 3 rfl (W.cl go38 rfl rfl (cost_ok a x Y (hV.le L1) (by omega)) ?_))))
 rintro _ I ⟨ah,ai,b0,b1,rfl,R,b2,j⟩
 have L2:=L1.trans j
 refine W.run 7 rfl (W.nx (WC.seq (WC.sr (W.run 2 rfl (W.nx ?_)))))
 by_cases c0:((costG xs a x).2.2)≠0
 ·refine WC.condY rfl (decide_eq_true c0) (WC.sr (W.a (.buildP [.slice none 0 0,.slice none 0 0] pl61 z61 rfl rfl) ?_))
  refine W.run 1 rfl (W.sA sz61 rfl rfl (C.le j) ?_)
  intro bo aj bp
  have aj:Blk bo X 61 #[.slice none 0 0,.slice none 0 0]:=aj
  have L4:=L2.tb bp L0 aG
  refine W.run 2 rfl (W.nx (WC.ret (E.thenR (E.retG3 rfl (resA rfl aj ag61 (by rfl)) rfl rfl ?_))))
  have hod:oddsR m xs a x=(⟨0,0⟩,0,(costG xs a x).2.2):=if_neg (by assumption)
  rw[hod]
  exact⟨none,0,none,0,by simp only[digs_zero];rfl,by simp only[digs_zero];exact OVec.nil _ _ _ _ _ _,by simp only[digs_zero];exact OVec.nil _ _ _ _ _ _,L4⟩
 refine WC.condN rfl (decide_eq_false c0) ?_
 have hcl:=costG_lens (Decidable.not_not.1 (by assumption):(costG xs a x).2.2=0)
 have hwl:=wayG_len (costG_inv (Decidable.not_not.1 (by assumption):(costG xs a x).2.2=0)).1
 refine WC.sn (WC.sr (W.cl go39 rfl rfl (fof_ok 1 1 I (by omega) (by omega) (by omega)) ?_))
 rintro _ b3 ⟨ak,al,am,an,rfl,aH,aI,h⟩
 have L5:=L2.trans h
 refine W.run 1 rfl (W.a (.extract (v:= .agg #[.slice ak ((digs ((lowF 1 1).n)).length) al,.slice am ((digs ((lowF 1 1).d)).length) an]) rfl rfl) ?_)
 refine W.run 1 rfl (W.ef rfl rfl rfl (Ef.allocA z61 fun J bq S (bs:Blk bq J 61 #[.slice none 0 0,.slice none 0 0]) D=>(W.sA sz61 rfl rfl bs ?_)))
 intro aJ ao H
 have ao:Blk aJ J 61 #[.slice ak ((digs ((lowF 1 1).n)).length) al,.slice am ((digs ((lowF 1 1).d)).length) an]:=ao
 refine W.run 1 rfl (W.nx (WC.seq (WC.sr (W.run 1 rfl (W.r (.len underlying32 rfl) ?_)))))
 refine W.run 1 rfl (W.nx (WC.block ?_))
 have f8:=((aH.le D).ch H (fun q hq=>by cases hq;exact(fun he=>by have:=(aH.row he).2;omega)))
 have f9:=((aI.le D).ch H (fun q hq=>by cases hq;exact(fun he=>by have:=(aI.row he).2;omega)))
 have bt:=((hP.le (Z.trans (j.trans (h.trans D)))).ch H (fun q hqq hF=>by cases hqq;have:=hP.lt hF;have:=Z.size;have:=j.size;have:=h.size;have:=S;omega))
 have bu:=((R.le (h.trans D)).ch H (fun q hq=>by cases hq;exact(fun he=>by have:=(R.row he).2;have:=h.size;omega)))
 refine WC.loop (ι:=Nat×((Option Addr))×Nat×((Option Addr))×Nat) (fun⟨k,Ax,cx,Ay,cy⟩=>[(0,.pointer (some ⟨gp,0,none⟩)),(8,.pointer (some ⟨X,0,none⟩)),(11,.slice ah ((costG xs a x).1.length) ai),(14,.pointer (some ⟨J,0,none⟩)),(36,.slice A n c),(37,.int .i64 (((n:Nat):Int))),(38,.int .i64 (((k:Nat):Int)))]) (fun⟨k,Ax,cx,Ay,cy⟩ s=>(k<=n)/\Le w s/\aJ.heap.size<=s.heap.size/\MPool s base gp F m/\Blk s X 61 #[.slice none 0 0,.slice none 0 0]/\OVec s Y.heap.size 3 iv 1 ah ((costG xs a x).1.length) ai ((costG xs a x).1)/\Blk s J 61 #[.slice Ax ((digs (accO m xs (costG xs a x).1 k).n).length) cx,.slice Ay ((digs (accO m xs (costG xs a x).1 k).d).length) cy]/\OVec s I.heap.size 273 dv 1 Ax ((digs (accO m xs (costG xs a x).1 k).n).length) cx (digs (accO m xs (costG xs a x).1 k).n)/\OVec s I.heap.size 273 dv 1 Ay ((digs (accO m xs (costG xs a x).1 k).d).length) cy (digs (accO m xs (costG xs a x).1 k).d)) (fun⟨k,Ax,cx,Ay,cy⟩=>n-k) (0,ak,al,am,an) ?_ ?_ ?_
 ·exact .cons rfl (.cons rfl (.cons rfl (.cons rfl (.cons rfl (.cons rfl (.cons rfl (.nil _)))))))
 ·exact⟨Nat.zero_le _,((L5.trans D).tb H L5 S),Nat.le_refl _,bt,((C.le (j.trans (h.trans D))).cn H (by have:=C.lt;have:=j.size;have:=h.size;omega)),bu,ao,f8,f9⟩
 rintro⟨k,Ax,cx,Ay,cy⟩ s ⟨hk,ad,aK,aa,K,ap,L,N,O⟩
 have b4:Y.heap.size<=s.heap.size:=by have:=j.size;have:=h.size;have:=D.size;have:=H.size;omega
 have b5:I.heap.size<=s.heap.size:=by have:=h.size;have:=D.size;have:=H.size;omega
 have b6:I.heap.size<=s.heap.size:=by have:=h.size;have:=D.size;have:=H.size;omega
 have hal:=accO_len hgm xs (costG xs a x).1 k
 have hol:=oddsM_len hgm (xs.getD k noEdge) ((costG xs a x).1.getD k 0)
 refine WC.sr (W.run 1 rfl (W.nx (WC.seq ?_)))
 by_cases c1:((k:Nat):Int)<((n:Nat):Int)
 ·refine WC.condY rfl (decide_eq_true c1) (WC.sn (WC.seq (WC.block (WC.sr (W.run 1 rfl (W.a (.idxS (k) underlying32 sz81 rfl rfl (hV.isSome edgeV_row (by omega)) (rfl) (by omega)) ?_))))))
  refine W.r (.vload ag81 rfl (hV.le ad) edgeV_row (getS xs noEdge (by omega))) ?_
  refine W.ef rfl rfl rfl (Ef.allocA z81 fun aL bv aq (bw:Blk bv aL 81 (edgeV noEdge).toArray) e=>(W.run 1 rfl (W.ef0 rfl rfl (Ef.storeAll sz81 (by rfl) rfl rfl bw (by simp only[List.size_toArray,edgeV_row.len]) (edgeV_row.one (xs.getD k noEdge)) ?_))))
  intro bx ar f
  have ar:Blk bx aL 81 (edgeV (xs.getD k noEdge)).toArray:=ar
  refine W.nx (WC.seq (WC.drawT (fun o=>(app o [0,1,2,3,4,5] (.br (app o [6,7,8,9,10,11,12] .nil) (app o [10,6,7,8,9,11,12] .nil)))) mixed (by kernel_rfl) fun w8 b=>?_))
  have au:=((ad.trans e).tb f ad aq).trans b
  refine GT.app (G.run 1 rfl (G.r rfl (.loadAll ag81 (by rfl) rfl (ar.le b)) ?_))
  refine G.run 2 rfl (G.a rfl (.idxS (k) underlying23 sz3 rfl rfl (R.vec.isSome iv_row (by omega)) (rfl) (by omega)) ?_)
  have ab:=(((ap.le e).ch f (fun q hq=>by cases hq;exact(fun he=>by have:=(ap.row he).2;omega))).le b)
  refine G.r rfl (.vone (v:= .int .i64 ((((costG xs a x).1).getD k 0))) na3 rfl ab.vec iv_row (getS ((costG xs a x).1) 0 (by first|omega|(simp only[List.length_cons,List.length_nil];omega))) rfl) ?_
  refine G.nil (GT.br ?_ ?_)
  ·refine GT.last ?_
   have av:=(((aa.le e).ch f (fun q hqq hF=>by cases hqq;have:=aa.lt hF;have:=aq;omega)).le b)
   refine G.ef rfl rfl rfl rfl rfl (Ef.call go44 rfl rfl (odds_mind (xs.getD k noEdge) (((costG xs a x).1).getD k 0) av) ?_)
   rintro _ b7 ⟨aM,aO,aP,aQ,rfl,aR,aS,i⟩
   refine⟨_,rfl,?_⟩
   refine⟨fun _=>i,?_⟩
   have aT:=au.trans i
   refine G.run 1 rfl (G.a rfl (.extract (v:= .agg #[.slice aM ((digs ((oddsM m (xs.getD k noEdge) (((costG xs a x).1).getD k 0)).n)).length) aO,.slice aP ((digs ((oddsM m (xs.getD k noEdge) (((costG xs a x).1).getD k 0)).d)).length) aQ]) rfl rfl) ?_)
   refine G.run 1 rfl (G.ef rfl rfl rfl rfl rfl (Ef.allocA z61 fun aU bz aV (bA:Blk bz aU 61 #[.slice none 0 0,.slice none 0 0]) l=>⟨fun _=>l,?_⟩))
   refine G.ef0 rfl rfl rfl rfl (Ef.storeAll sz61 (by rfl) rfl rfl bA (by rfl) (by simp[Value.oneCell']) ?_)
   intro aW aw t
   refine noT (by kernel_rfl) ?_
   have aw:Blk aW aU 61 #[.slice aM ((digs ((oddsM m (xs.getD k noEdge) (((costG xs a x).1).getD k 0)).n)).length) aO,.slice aP ((digs ((oddsM m (xs.getD k noEdge) (((costG xs a x).1).getD k 0)).d)).length) aQ]:=aw
   refine G.run 1 rfl (G.nil (E.thenN (WC.region ?_)))
   have ae:=((((L.le e).cn f (by have:=L.lt;omega)).le (b.trans (i.trans l))).cn t (by have:=L.lt;have:=e.size;have:=f.size;have:=b.size;have:=i.size;omega))
   refine W.r (.loadAll ag61 (by rfl) rfl ae) ?_
   refine W.r (.loadAll ag61 (by rfl) rfl aw) ?_
   have bB:=((((N.le e).ch f (fun q hq=>by cases hq;exact(fun he=>by have:=(N.row he).2;omega))).le (b.trans (i.trans l))).ch t (fun q hq=>by cases hq;exact(fun he=>by have:=(N.row he).2;have:=e.size;have:=f.size;have:=b.size;have:=i.size;omega)))
   have bC:=((((O.le e).ch f (fun q hq=>by cases hq;exact(fun he=>by have:=(O.row he).2;omega))).le (b.trans (i.trans l))).ch t (fun q hq=>by cases hq;exact(fun he=>by have:=(O.row he).2;have:=e.size;have:=f.size;have:=b.size;have:=i.size;omega)))
   have bD:=((aR.le l).ch t (fun q hq=>by cases hq;exact(fun he=>by have:=(aR.row he).2;omega)))
   have bE:=((aS.le l).ch t (fun q hq=>by cases hq;exact(fun he=>by have:=(aS.row he).2;omega)))
   refine W.cl go88 rfl rfl (frcmul_ok aW bB.vec bC.vec (by omega) (by omega) bD.vec bE.vec (by omega) (by omega)) ?_
   rintro _ b8 ⟨aX,aY,aZ,a0,rfl,a1,a2,T⟩
   refine W.sA sz61 rfl rfl (ae.le T) ?_
   intro bF ax P
   have ax:Blk bF J 61 #[.slice aX ((digs ((mulF (takF (⟨((accO m xs (costG xs a x).1 k).n),((accO m xs (costG xs a x).1 k).d)⟩:Fr)) (takF (⟨((oddsM m (xs.getD k noEdge) (((costG xs a x).1).getD k 0)).n),((oddsM m (xs.getD k noEdge) (((costG xs a x).1).getD k 0)).d)⟩:Fr))).n)).length) aY,.slice aZ ((digs ((mulF (takF (⟨((accO m xs (costG xs a x).1 k).n),((accO m xs (costG xs a x).1 k).d)⟩:Fr)) (takF (⟨((oddsM m (xs.getD k noEdge) (((costG xs a x).1).getD k 0)).n),((oddsM m (xs.getD k noEdge) (((costG xs a x).1).getD k 0)).d)⟩:Fr))).d)).length) a0]:=ax
   refine W.nil (E.blkN (E.thenN (WC.region (W.a (.add rfl rfl (by omega)) ?_))))
   refine W.run 1 rfl (W.nil ?_)
   have bG:=((((av.le (i.trans l)).ch t (fun q hqq hF=>by cases hqq;have:=av.lt hF;have:=i.size;have:=aV;omega)).le T).ch P (fun q hqq hF=>by cases hqq;have:=hP.lt hF;have:=Z.size;have:=j.size;have:=h.size;have:=S;omega))
   have bH:=((((((K.le e).cn f (by have:=K.lt;omega)).le (b.trans (i.trans l))).cn t (by have:=K.lt;have:=e.size;have:=f.size;have:=b.size;have:=i.size;omega)).le T).cn P (by have:=C.lt;have:=j.size;have:=h.size;omega))
   have bI:=((((ab.le (i.trans l)).ch t (fun q hq=>by cases hq;exact(fun he=>by have:=(ab.row he).2;have:=i.size;omega))).le T).ch P (fun q hq=>by cases hq;exact(fun he=>by have:=(R.row he).2;have:=h.size;omega)))
   have bJ:=(a1.ch P (fun q hq=>by cases hq;exact(fun he=>by have:=(a1.row he).1;have:=ae.lt;omega)))
   have bK:=(a2.ch P (fun q hq=>by cases hq;exact(fun he=>by have:=(a2.row he).1;have:=ae.lt;omega)))
   refine E.again (k+1,aX,aY,aZ,a0) (.cons rfl (.cons rfl (.cons rfl (.cons rfl (.cons rfl (.cons rfl (.cons rfl (.nil _)))))))) ?_ ?_
   ·exact⟨by omega,((((aT.trans l).tb t aT aV).trans T).tb P L5 S),by have:=aK;have:=e.size;have:=f.size;have:=b.size;have:=i.size;have:=l.size;have:=t.size;have:=T.size;have:=P.size;omega,bG,bH,bI,ax,(bJ.mono (by have:=e.size;have:=f.size;have:=b.size;have:=i.size;have:=l.size;have:=t.size;omega)),(bK.mono (by have:=e.size;have:=f.size;have:=b.size;have:=i.size;have:=l.size;have:=t.size;omega))⟩
   first|omega|(simp only[];omega)
  refine GT.last (G.ef rfl rfl rfl rfl rfl (Ef.allocA z61 fun a3 bL a4 (ay:Blk bL a3 61 #[.slice none 0 0,.slice none 0 0]) z=>⟨fun _=>z,?_⟩))
  have a5:=(((aa.le e).ch f (fun q hqq hF=>by cases hqq;have:=aa.lt hF;have:=aq;omega)).le (b.trans z))
  refine G.ef rfl rfl rfl rfl rfl (Ef.call go44 rfl rfl (odds_mind (xs.getD k noEdge) (((costG xs a x).1).getD k 0) a5) ?_)
  rintro _ b9 ⟨a6,a7,a8,a9,rfl,ba,bb,u⟩
  refine⟨_,rfl,?_⟩
  refine⟨fun _=>u,?_⟩
  refine G.run 1 rfl (G.a rfl (.extract (v:= .agg #[.slice a6 ((digs ((oddsM m (xs.getD k noEdge) (((costG xs a x).1).getD k 0)).n)).length) a7,.slice a8 ((digs ((oddsM m (xs.getD k noEdge) (((costG xs a x).1).getD k 0)).d)).length) a9]) rfl rfl) ?_)
  refine G.run 1 rfl (G.ef0 rfl rfl rfl rfl (Ef.storeAll sz61 (by rfl) rfl rfl (ay.le u) (by rfl) (by simp[Value.oneCell']) ?_))
  intro bc az y
  refine noT (by kernel_rfl) ?_
  have az:Blk bc a3 61 #[.slice a6 ((digs ((oddsM m (xs.getD k noEdge) (((costG xs a x).1).getD k 0)).n)).length) a7,.slice a8 ((digs ((oddsM m (xs.getD k noEdge) (((costG xs a x).1).getD k 0)).d)).length) a9]:=az
  refine G.run 1 rfl (G.nil (E.thenN (WC.region ?_)))
  have af:=((((L.le e).cn f (by have:=L.lt;omega)).le (b.trans (z.trans u))).cn y (by have:=L.lt;have:=e.size;have:=f.size;have:=b.size;omega))
  refine W.r (.loadAll ag61 (by rfl) rfl af) ?_
  refine W.r (.loadAll ag61 (by rfl) rfl az) ?_
  have bM:=((((N.le e).ch f (fun q hq=>by cases hq;exact(fun he=>by have:=(N.row he).2;omega))).le (b.trans (z.trans u))).ch y (fun q hq=>by cases hq;exact(fun he=>by have:=(N.row he).2;have:=e.size;have:=f.size;have:=b.size;omega)))
  have bN:=((((O.le e).ch f (fun q hq=>by cases hq;exact(fun he=>by have:=(O.row he).2;omega))).le (b.trans (z.trans u))).ch y (fun q hq=>by cases hq;exact(fun he=>by have:=(O.row he).2;have:=e.size;have:=f.size;have:=b.size;omega)))
  have bO:=(ba.ch y (fun q hq=>by cases hq;exact(fun he=>by have:=(ba.row he).1;have:=ay.lt;omega)))
  have bP:=(bb.ch y (fun q hq=>by cases hq;exact(fun he=>by have:=(bb.row he).1;have:=ay.lt;omega)))
  refine W.cl go88 rfl rfl (frcmul_ok bc bM.vec bN.vec (by omega) (by omega) bO.vec bP.vec (by omega) (by omega)) ?_
  rintro _ ca ⟨bd,be,bf,bg,rfl,bh,bi,U⟩
  refine W.sA sz61 rfl rfl (af.le U) ?_
  intro bQ aA Q
  have aA:Blk bQ J 61 #[.slice bd ((digs ((mulF (takF (⟨((accO m xs (costG xs a x).1 k).n),((accO m xs (costG xs a x).1 k).d)⟩:Fr)) (takF (⟨((oddsM m (xs.getD k noEdge) (((costG xs a x).1).getD k 0)).n),((oddsM m (xs.getD k noEdge) (((costG xs a x).1).getD k 0)).d)⟩:Fr))).n)).length) be,.slice bf ((digs ((mulF (takF (⟨((accO m xs (costG xs a x).1 k).n),((accO m xs (costG xs a x).1 k).d)⟩:Fr)) (takF (⟨((oddsM m (xs.getD k noEdge) (((costG xs a x).1).getD k 0)).n),((oddsM m (xs.getD k noEdge) (((costG xs a x).1).getD k 0)).d)⟩:Fr))).d)).length) bg]:=aA
  have bR:=((((au.trans z).trans u).tb y au a4).trans U).tb Q L5 S
  refine W.nil (E.blkN (E.thenN (WC.region (W.a (.add rfl rfl (by omega)) ?_))))
  refine W.run 1 rfl (W.nil ?_)
  have bS:=((((a5.le u).ch y (fun q hqq hF=>by cases hqq;have:=aa.lt hF;have:=e.size;have:=f.size;have:=b.size;have:=a4;omega)).le U).ch Q (fun q hqq hF=>by cases hqq;have:=hP.lt hF;have:=Z.size;have:=j.size;have:=h.size;have:=S;omega))
  have bT:=((((((K.le e).cn f (by have:=K.lt;omega)).le (b.trans (z.trans u))).cn y (by have:=K.lt;have:=e.size;have:=f.size;have:=b.size;omega)).le U).cn Q (by have:=C.lt;have:=j.size;have:=h.size;omega))
  have bU:=((((ab.le (z.trans u)).ch y (fun q hq=>by cases hq;exact(fun he=>by have:=(ab.row he).2;omega))).le U).ch Q (fun q hq=>by cases hq;exact(fun he=>by have:=(R.row he).2;have:=h.size;omega)))
  have bV:=(bh.ch Q (fun q hq=>by cases hq;exact(fun he=>by have:=(bh.row he).1;have:=af.lt;omega)))
  have bW:=(bi.ch Q (fun q hq=>by cases hq;exact(fun he=>by have:=(bi.row he).1;have:=af.lt;omega)))
  refine E.again (k+1,bd,be,bf,bg) (.cons rfl (.cons rfl (.cons rfl (.cons rfl (.cons rfl (.cons rfl (.cons rfl (.nil _)))))))) ?_ ?_
  ·exact⟨by omega,bR,by have:=aK;have:=e.size;have:=f.size;have:=b.size;have:=z.size;have:=u.size;have:=y.size;have:=U.size;have:=Q.size;omega,bS,bT,bU,aA,(bV.mono (by have:=e.size;have:=f.size;have:=b.size;have:=z.size;have:=u.size;have:=y.size;omega)),(bW.mono (by have:=e.size;have:=f.size;have:=b.size;have:=z.size;have:=u.size;have:=y.size;omega))⟩
  first|omega|(simp only[];omega)
 refine WC.condN rfl (decide_eq_false c1) (WC.exit (E.thenX (E.thenX (E.blkH (E.thenN (WC.seq (WC.drawS (fun bX w'=>Le w w'/\Blk w' J 61 #[.slice Ax ((digs (accO m xs (costG xs a x).1 k).n).length) cx,.slice Ay ((digs (accO m xs (costG xs a x).1 k).d).length) cy]/\OVec w' I.heap.size 273 dv 1 Ax ((digs (accO m xs (costG xs a x).1 k).n).length) cx (digs (accO m xs (costG xs a x).1 k).n)/\OVec w' I.heap.size 273 dv 1 Ay ((digs (accO m xs (costG xs a x).1 k).d).length) cy (digs (accO m xs (costG xs a x).1 k).d)/\OVec w' Y.heap.size 3 iv 1 ah ((costG xs a x).1.length) ai ((costG xs a x).1)) [0,1,2,3,4,5,6] mixed (by kernel_rfl) fun bX V=>?_)))))))
 have bj:=ad.trans V
 have bk:=(L.le V)
 have aB:=(N.le V)
 have aC:=(O.le V)
 have aE:=(ap.le V)
 refine⟨⟨bj,bk,aB,aC,aE⟩,?_⟩
 refine GS.rd rfl rfl (fun w' hs=> .loadAll ag61 (by rfl) rfl hs.2.1) rfl rfl rfl ?_
 refine GS.any rfl rfl (.move rfl) rfl rfl rfl (GS.any rfl rfl (.idxS (0) underlying23 sz3 rfl rfl (R.vec.isSome iv_row (by omega)) (rfl) (by omega)) rfl rfl rfl (GS.rd rfl rfl (fun w' hs=> .vone (v:= .int .i64 ((((costG xs a x).1).getD 0 0))) na3 rfl hs.2.2.2.2.vec iv_row (getS ((costG xs a x).1) 0 (by first|omega|(simp only[List.length_cons,List.length_nil];omega))) rfl) rfl rfl rfl ?_))
 refine GS.ef0 rfl rfl rfl rfl (Ef.storeAll sz61 (by rfl) rfl rfl (K.le V) (by rfl) (by simp[Value.oneCell']) ?_)
 intro bY aF ac
 have aF:Blk bY X 61 #[.slice Ax ((digs (accO m xs (costG xs a x).1 k).n).length) cx,.slice Ay ((digs (accO m xs (costG xs a x).1 k).d).length) cy]:=aF
 have bl:=bj.tb ac L0 aG
 have bm:=(aB.ch ac (fun q hq=>by cases hq;exact(fun he=>by have:=(aB.row he).1;have:=C.lt;have:=j.size;omega)))
 have bn:=(aC.ch ac (fun q hq=>by cases hq;exact(fun he=>by have:=(aC.row he).1;have:=C.lt;have:=j.size;omega)))
 have bZ:=(aE.ch ac (fun q hq=>by cases hq;exact(fun he=>by have:=(aE.row he).1;have:=C.lt;omega)))
 refine⟨⟨bl,(bk.cn ac (by have:=C.lt;have:=j.size;have:=h.size;omega)),bm,bn,bZ⟩,?_⟩
 refine GS.any rfl rfl (.assign rfl) rfl rfl rfl (GS.any rfl rfl (.assign rfl) rfl rfl rfl (GS.nil (E.thenN (WC.ret (E.retG3 rfl (resA rfl aF ag61 (by rfl)) rfl rfl ?_)))))
 have hkn:k=n:=(by omega)
 subst hkn
 have hod:oddsR m xs a x=(accO m xs (costG xs a x).1 xs.length,(costG xs a x).1.getD 0 0,0):=if_pos (Decidable.not_not.1 (by assumption))
 rw[hod,hl]
 exact⟨_,_,_,_,rfl,(bm.mono L2.size),(bn.mono L2.size),bl⟩

theorem rnote_ok {base gp:Nat}{F:Nat->Prop}{m:MF}(a x failed:Int){A:Option Addr}{n c:Nat}{xs:List Gsp.Edge}(w:World)(hP:MPool w base gp F m)(hV:Vec w edgeV 9 A n xs)(hn:n<=1000000)(hVa:∀q,blkOf A=some q->0<n->q<w.heap.size->¬F q):Calls prog 122 #[.pointer (some ⟨gp,0,none⟩),.slice A n c,.int .i64 (a),.int .i64 (x),.int .i64 (failed)] w fun r w'=>r= .returned (.int .i64 (noteR m xs a x failed).2)/\MPool w' base gp F (noteR m xs a x failed).1/\GrownM w F F/\ChP w w' F:=by
 have hl:=hV.1
 refine enter func122 rfl rfl ?_
 have L:=ChP.refl w (F)
 refine WC.sr (W.run 1 rfl (W.nx (WC.sr (W.run 3 rfl (W.cl go38 rfl rfl (cost_ok a x w (hV.chP L hVa) (by omega)) ?_)))))
 rintro _ X ⟨z,C,aj,ak,rfl,D,al,b⟩
 have o:=L.le b
 refine W.run 7 rfl (W.nx (WC.seq (WC.block (WC.sr (W.run 3 rfl (W.nx ?_))))))
 by_cases N:((costG xs a x).2.2)≠0
 ·refine WC.condY rfl (decide_eq_true N) (WC.sr (W.run 2 rfl (W.nx (WC.ret (E.blkR (E.thenR (E.retG1 rfl rfl ?_)))))))
  have hn:(noteR m xs a x failed)=(m,(costG xs a x).2.2):=(by unfold noteR;rw[if_pos (by assumption)])
  rw[hn]
  exact⟨rfl,(hP.le b),fun k hk=> .inl hk,o⟩
 refine WC.condN rfl (decide_eq_false N) ?_
 have d:(costG xs a x).2.2=0:=Decidable.not_not.1 (by assumption)
 have hcl:=costG_lens d
 have hwl:=wayG_len (costG_inv d).1
 refine WC.sr (W.run 2 rfl ?_)
 by_cases O:failed<(-1)
 ·refine W.dt O rfl rfl (W.run 6 rfl (W.nx (WC.condT rfl (WC.sr (W.run 1 rfl (W.nx (WC.ret (E.blkR (E.thenR (E.retG1 rfl rfl ?_))))))))))
  have hn:(noteR m xs a x failed)=(m,1):=(by unfold noteR;rw[if_neg (not_not_intro d),if_pos (by omega)])
  rw[hn]
  exact⟨rfl,(hP.le b),fun k hk=> .inl hk,o⟩
 refine W.df O rfl rfl (W.run 2 rfl (W.g (.len underlying32 rfl) ?_))
 refine W.run 3 rfl (W.nx ?_)
 by_cases P:((n:Nat):Int)<=failed
 ·refine WC.condY rfl (decide_eq_true P) (WC.sr (W.run 1 rfl (W.nx (WC.ret (E.blkR (E.thenR (E.retG1 rfl rfl ?_)))))))
  have hn:(noteR m xs a x failed)=(m,1):=(by unfold noteR;rw[if_neg (not_not_intro d),if_pos (by omega)])
  rw[hn]
  exact⟨rfl,(hP.le b),fun k hk=> .inl hk,o⟩
 refine WC.condN rfl (decide_eq_false P) (WC.skip (E.blkN (E.thenN (WC.seq (WC.sr (W.run 1 rfl (W.r (.len underlying32 rfl) ?_)))))))
 refine W.run 1 rfl (W.nx (WC.block (WC.loop (ι:=Nat) (fun k=>[(0,.pointer (some ⟨gp,0,none⟩)),(4,.int .i64 (failed)),(11,.slice z ((costG xs a x).1.length) C),(37,.slice A n c),(38,.int .i64 (((n:Nat):Int))),(39,.int .i64 (((k:Nat):Int)))]) (fun k e=>(k<=n)/\(∀i:Nat,i<k->(i:Int)≠failed)/\ChP w e (F)/\X.heap.size<=e.heap.size/\MPool e base gp F (passK m xs (costG xs a x).1 k)/\OVec e w.heap.size 3 iv 1 z ((costG xs a x).1.length) C ((costG xs a x).1)) (fun k=>n-k) 0 ?_ ?_ ?_)))
 ·exact .cons rfl (.cons rfl (.cons rfl (.cons rfl (.cons rfl (.cons rfl (.nil _))))))
 ·exact⟨Nat.zero_le _,fun i hi=>absurd hi (Nat.not_lt_zero _),o,Nat.le_refl _,(hP.le b),D⟩
 rintro k e ⟨hk,Q,s,Y,j,t⟩
 have am:w.heap.size<=e.heap.size:=by have:=b.size;omega
 refine WC.sr (W.run 1 rfl (W.nx (WC.seq ?_)))
 by_cases R:((k:Nat):Int)<((n:Nat):Int)
 ·refine WC.condY rfl (decide_eq_true R) (WC.sn (WC.seq (WC.block (WC.sr (W.run 1 rfl (W.a (.idxS (k) underlying32 sz81 rfl rfl (hV.isSome edgeV_row (by omega)) (rfl) (by omega)) ?_))))))
  refine W.r (.vload ag81 rfl (hV.chP s hVa) edgeV_row (getS xs noEdge (by omega))) ?_
  refine W.ef rfl rfl rfl (Ef.allocA z81 fun S Z H (aa:Blk Z S 81 (edgeV noEdge).toArray) f=>?_)
  have L6:=s.le f
  refine W.run 1 rfl (W.ef0 rfl rfl (Ef.storeAll sz81 (by rfl) rfl rfl aa (by simp only[List.size_toArray,edgeV_row.len]) (edgeV_row.one (xs.getD k noEdge)) ?_))
  intro T u h
  have u:Blk T S 81 (edgeV (xs.getD k noEdge)).toArray:=u
  have U:ChP w T (F):=L6.ch h (fun i hi hlt=>by cases hi;exact absurd hlt (by have:=s.size;have:=H;omega))
  refine W.nx (WC.seq (WC.sr (W.run 3 rfl (W.nx ?_))))
  by_cases V:((k:Nat):Int)=failed
  ·refine WC.condY rfl (decide_eq_true V) (WC.seq (WC.draw [0,1,2,3,4,5,6] mixed (by kernel_rfl) fun an y=>(G.run 1 rfl (G.r rfl (.loadAll ag81 (by rfl) rfl (u.le y)) ?_))))
   refine G.run 2 rfl (G.a rfl (.idxS (k) underlying23 sz3 rfl rfl (D.vec.isSome iv_row (by omega)) (rfl) (by omega)) ?_)
   have ab:=(((t.le f).ch h (fun q hq=>by cases hq;exact(fun he=>by have:=(t.row he).2;omega))).le y)
   refine G.r rfl (.vone (v:= .int .i64 ((((costG xs a x).1).getD k 0))) na3 rfl ab.vec iv_row (getS ((costG xs a x).1) 0 (by first|omega|(simp only[List.length_cons,List.length_nil];omega))) rfl) ?_
   have ac:=(((j.le f).ch h (fun q hqq hF=>by cases hqq;have:=j.lt hF;have:=H;omega)).le y)
   refine G.ef rfl rfl rfl rfl rfl (Ef.call go80 rfl rfl (fail_mind (xs.getD k noEdge) (((costG xs a x).1).getD k 0) ac) ?_)
   rintro _ ao ⟨rfl,ad,ap,ae⟩
   refine⟨_,rfl,?_⟩
   refine noT (by kernel_rfl) (G.nil (E.thenN (WC.exit (E.thenX (E.blkX rfl (E.thenX (E.thenX (E.blkH (E.thenN (WC.sr (W.run 1 rfl (W.nx (WC.ret (E.retG1 rfl rfl ?_))))))))))))))
   have I:k=failed.toNat:=(by omega)
   have hn:(noteR m xs a x failed)=(failM (passK m xs (costG xs a x).1 failed.toNat) (xs.getD failed.toNat noEdge) ((costG xs a x).1.getD failed.toNat 0),0):=(by unfold noteR;rw[if_neg (not_not_intro d),if_neg (by omega),if_neg (by omega)])
   rw[hn]
   subst I
   exact⟨rfl,ad,fun k hk=> .inl hk,((U.le y).sub ae (fun i hi hlt=>hi))⟩
  refine WC.condN rfl (decide_eq_false V) (WC.sn (WC.draw [0,1,2,3,4,5,6] mixed (by kernel_rfl) fun aq l=>(G.run 1 rfl (G.r rfl (.loadAll ag81 (by rfl) rfl (u.le l)) ?_))))
  refine G.run 2 rfl (G.a rfl (.idxS (k) underlying23 sz3 rfl rfl (D.vec.isSome iv_row (by omega)) (rfl) (by omega)) ?_)
  have J:=(((t.le f).ch h (fun q hq=>by cases hq;exact(fun he=>by have:=(t.row he).2;omega))).le l)
  refine G.r rfl (.vone (v:= .int .i64 ((((costG xs a x).1).getD k 0))) na3 rfl J.vec iv_row (getS ((costG xs a x).1) 0 (by first|omega|(simp only[List.length_cons,List.length_nil];omega))) rfl) ?_
  have af:=(((j.le f).ch h (fun q hqq hF=>by cases hqq;have:=j.lt hF;have:=H;omega)).le l)
  refine G.ef rfl rfl rfl rfl rfl (Ef.call go81 rfl rfl (pass_mind (xs.getD k noEdge) (((costG xs a x).1).getD k 0) af) ?_)
  rintro _ ar ⟨rfl,ah,au,K⟩
  refine⟨_,rfl,?_⟩
  refine noT (by kernel_rfl) ?_
  have ai:=J.chP K (show∀g,rowOf z C=some g->¬F g from(fun g hg hF=>by have:=hP.lt hF;have:=(J.row hg).1;omega))
  refine G.nil (E.blkN (E.thenN (WC.region (W.a (.add rfl rfl (by omega)) ?_))))
  refine W.run 1 rfl (W.nil (E.again (k+1) (.cons rfl (.cons rfl (.cons rfl (.cons rfl (.cons rfl (.cons rfl (.nil _))))))) ?_ ?_))
  ·exact⟨by omega,fun i hi=>(Nat.lt_succ_iff_lt_or_eq.1 hi).elim (Q i) (fun hh=>by subst hh;assumption),((U.le l).sub K (fun i hi hlt=>hi)),by have:=Y;have:=f.size;have:=h.size;have:=l.size;have:=K.size;omega,ah,ai⟩
  first|omega|(simp only[];omega)
 refine WC.condN rfl (decide_eq_false R) ?_
 have hnf:¬(0<=failed/\failed<n):=fun hh=>Q failed.toNat (by omega) (by omega)
 refine WC.exit (E.thenX (E.thenX (E.blkH (E.thenN (WC.sr (W.run 1 rfl (W.nx (WC.ret (E.retG1 rfl rfl ?_)))))))))
 have I:k=xs.length:=(by omega)
 have hn:(noteR m xs a x failed)=(passK m xs (costG xs a x).1 xs.length,0):=(by unfold noteR;rw[if_neg (not_not_intro d),if_neg (by omega),if_pos (by have:=hnf;omega)])
 rw[hn]
 subst I
 exact⟨rfl,j,fun k hk=> .inl hk,s⟩
end Go.Proofs.YtocheaahlpiajaaGreatDoor

namespace Go.Proofs.YtocheaahlpiajaaGreatDoor
open Tryz
open Go Go.Sx Go.Num Go.Gsp Go.Nsp Go.Msp Go.Rtp
set_option maxRecDepth 20000
theorem rowsC_at {xs ys:List Gsp.Edge}{k:Nat}(h1:k<xs.length)(h2:k<ys.length):rowsC (xs.drop k) (ys.drop k)=if cmpI (xs.getD k noEdge).c (ys.getD k noEdge).c≠0 then cmpI (xs.getD k noEdge).c (ys.getD k noEdge).c else rowsC (xs.drop (k+1)) (ys.drop (k+1)):=by
  rw[List.drop_eq_getElem_cons h1,List.drop_eq_getElem_cons h2,rowsC]
  simp[List.getD,h1,h2]
theorem rowsC_long {xs ys:List Gsp.Edge}{k:Nat}(h1:k<xs.length)(h2:ys.length<=k):rowsC (xs.drop k) (ys.drop k)=1:=by
  rw[List.drop_eq_getElem_cons h1,List.drop_of_length_le h2,rowsC]
theorem rowsC_short {xs ys:List Gsp.Edge}{k:Nat}(h1:xs.length<=k)(h2:k<ys.length):rowsC (xs.drop k) (ys.drop k)= -1:=by
  rw[List.drop_eq_getElem_cons h2,List.drop_of_length_le h1,rowsC]
theorem rowsC_even {xs ys:List Gsp.Edge}{k:Nat}(h1:xs.length<=k)(h2:ys.length<=k):rowsC (xs.drop k) (ys.drop k)=0:=by
  rw[List.drop_of_length_le h2,List.drop_of_length_le h1,rowsC]
theorem betc_ok (x y:Gsp.Edge)(w:World):Calls prog 218 #[.agg (edgeV x).toArray,.agg (edgeV y).toArray] w fun r w'=>r= .returned (.int .i64 (cmpI x.c y.c))/\Le w w':=by
 refine enter func218 rfl rfl (WC.sr (W.ef rfl rfl rfl (Ef.boxA rfl fun e f m (h:Blk f e 81 (edgeV x).toArray) i=>(W.ef rfl rfl rfl (Ef.boxA rfl fun j b n (k:Blk b j 81 (edgeV y).toArray) d=>(W.run 1 rfl (W.nx (WC.sr ?_))))))))
 refine W.a (.field0 fa81_2 rfl) ?_
 refine W.r (.loadB (v:= .int .i64 (x.c)) na3 rfl (h.le d) rfl) ?_
 refine W.a (.field0 fa81_2 rfl) ?_
 refine W.r (.loadB (v:= .int .i64 (y.c)) na3 rfl k rfl) ?_
 refine W.cl go212 rfl rfl (comparei_ok x.c y.c b) ?_
 rintro _ o ⟨rfl,l⟩
 refine W.run 1 rfl (W.nx (WC.ret (E.retG1 rfl rfl ?_)))
 exact⟨rfl,((((Le.refl w).trans i).trans d).trans l)⟩

theorem rtwithin_ok (n lo hi:Int)(w:World):Calls prog 114 #[.int .i64 (n),.int .i64 (lo),.int .i64 (hi)] w fun r w'=>r= .returned (.bool (inB n lo hi))/\Le w w':=by
 refine enter func114 rfl rfl ?_
 have c:=Le.refl w
 refine WC.sr (W.run 1 rfl (W.nx (WC.sr (W.run 3 rfl ?_))))
 by_cases b:lo<=n
 ·refine W.dt b rfl rfl (W.run 5 rfl (W.nx (WC.ret (E.retG1 rfl rfl ?_))))
  exact⟨rB (by simp[inB,b]),c⟩
 refine W.df b rfl rfl (W.run 5 rfl (W.nx (WC.ret (E.retG1 rfl rfl ?_))))
 exact⟨rB (by simp[inB,b]),c⟩

theorem cmprows_ok {A A2:Option Addr}{n c n2 c2:Nat}{xs ys:List Gsp.Edge}(w:World)(hV:Vec w edgeV 9 A n xs)(hW:Vec w edgeV 9 A2 n2 ys)(hn:n<=1000000)(hn2:n2<=1000000):Calls prog 217 #[.slice A n c,.slice A2 n2 c2,.func (.func 218) #[] #[]] w fun r w'=>r= .returned (.int .i64 (rowsC xs ys))/\Le w w':=by
 have hl:=hV.1;have O:=hW.1
 refine enter func217 rfl rfl (WC.sr (W.run 1 rfl (W.nx (WC.seq (WC.sr (W.run 1 rfl (W.r (.len underlying32 rfl) ?_)))))))
 refine W.run 1 rfl (W.nx (WC.block (WC.loop (ι:=Nat) (fun k=>[(0,.slice A n c),(1,.slice A2 n2 c2),(2,.func (.func 218) #[] #[]),(11,.slice A n c),(12,.int .i64 (((n:Nat):Int))),(13,.int .i64 (((k:Nat):Int)))]) (fun k f=>(k<=n)/\(k<=n2\/k<=n)/\(rowsC xs ys=rowsC (xs.drop k) (ys.drop k))/\Le w f/\w.heap.size<=f.heap.size) (fun k=>n-k) 0 ?_ ?_ ?_)))
 ·exact .cons rfl (.cons rfl (.cons rfl (.cons rfl (.cons rfl (.cons rfl (.nil _))))))
 ·exact⟨Nat.zero_le _,Or.inl (Nat.zero_le _),rfl,(Le.refl w),Nat.le_refl _⟩
 rintro k f ⟨hk,P,hrc,b,D⟩
 refine WC.sr (W.run 1 rfl (W.nx (WC.seq ?_)))
 by_cases l:((k:Nat):Int)<((n:Nat):Int)
 ·refine WC.condY rfl (decide_eq_true l) (WC.sn (WC.seq (WC.block (WC.sr (W.run 1 rfl (W.a (.idxS (k) underlying32 sz81 rfl rfl (hV.isSome edgeV_row (by omega)) (rfl) (by omega)) ?_))))))
  refine W.r (.vload ag81 rfl (hV.le b) edgeV_row (getS xs noEdge (by omega))) ?_
  refine W.ef rfl rfl rfl (Ef.allocA z81 fun m F H (I:Blk F m 81 (edgeV noEdge).toArray) o=>(W.run 1 rfl (W.ef0 rfl rfl (Ef.storeAll sz81 (by rfl) rfl rfl I (by simp only[List.size_toArray,edgeV_row.len]) (edgeV_row.one (xs.getD k noEdge)) ?_))))
  intro J d s
  have d:Blk J m 81 (edgeV (xs.getD k noEdge)).toArray:=d
  have e:=(b.trans o).tb s b H
  refine W.nx (WC.seq (WC.sr (W.run 2 rfl (W.r (.len underlying32 rfl) ?_))))
  refine W.run 1 rfl (W.nx ?_)
  by_cases t:((n2:Nat):Int)<=((k:Nat):Int)
  ·refine WC.condY rfl (decide_eq_true t) (WC.sr (W.run 1 rfl (W.nx (WC.ret (E.thenR (E.blkR (E.thenR (E.thenR (E.blkR (E.thenR (E.retG1 rfl rfl ?_)))))))))))
   exact⟨congrArg (fun v=>Ending.returned (Value.int .i64 v)) (hrc.trans (rowsC_long (by omega) (by omega))).symm,e⟩
  refine WC.condN rfl (decide_eq_false t) (WC.sn (WC.sr (W.run 2 rfl (W.a (.idxS (k) underlying32 sz81 rfl rfl (hW.isSome edgeV_row (by omega)) (rfl) (by omega)) ?_))))
  refine W.r (.vload ag81 rfl (hW.le e) edgeV_row (getS ys noEdge (by omega))) ?_
  refine W.ef rfl rfl rfl (Ef.allocA z81 fun u K L (N:Blk K u 81 (edgeV noEdge).toArray) h=>(W.ef0 rfl rfl (Ef.storeAll sz81 (by rfl) rfl rfl N (by simp only[List.size_toArray,edgeV_row.len]) (edgeV_row.one (ys.getD k noEdge)) ?_)))
  intro x i j
  have i:Blk x u 81 (edgeV (ys.getD k noEdge)).toArray:=i
  refine W.nx (WC.sr (W.run 1 rfl (W.r (.loadAll ag81 (by rfl) rfl ((d.le h).cn j (by have:=d.lt;omega))) ?_)))
  refine W.r (.loadAll ag81 (by rfl) rfl i) ?_
  refine W.cl go218 rfl rfl (betc_ok (xs.getD k noEdge) (ys.getD k noEdge) x) ?_
  rintro _ Q ⟨rfl,y⟩
  have z:=((e.trans h).tb j e L).trans y
  refine W.run 1 rfl (W.nx (WC.sr (W.run 2 rfl (W.nx ?_))))
  by_cases c2:(cmpI (xs.getD k noEdge).c (ys.getD k noEdge).c)≠0
  ·refine WC.condY rfl (decide_eq_true c2) (WC.sr (W.run 2 rfl (W.nx (WC.ret (E.blkR (E.thenR (E.thenR (E.blkR (E.thenR (E.retG1 rfl rfl ?_))))))))))
   exact⟨congrArg (fun v=>Ending.returned (Value.int .i64 v)) (hrc.trans (by rw[rowsC_at (by omega) (by omega),if_pos (by assumption)])).symm,z⟩
  refine WC.condN rfl (decide_eq_false c2) (WC.skip (E.blkN (E.thenN (WC.region (W.a (.add rfl rfl (by omega)) ?_)))))
  refine W.run 1 rfl (W.nil (E.again (k+1) (.cons rfl (.cons rfl (.cons rfl (.cons rfl (.cons rfl (.cons rfl (.nil _))))))) ?_ ?_))
  ·exact⟨by omega,by omega,by rw[hrc,rowsC_at (by omega) (by omega),if_neg (by assumption)],z,by have:=D;have:=o.size;have:=s.size;have:=h.size;have:=j.size;have:=y.size;omega⟩
  first|omega|(simp only[];omega)
 refine WC.condN rfl (decide_eq_false l) (WC.exit (E.thenX (E.thenX (E.blkH (E.thenN (WC.seq (WC.sr (W.run 1 rfl (W.r (.len underlying32 rfl) ?_)))))))))
 refine W.run 1 rfl (W.r (.len underlying32 rfl) ?_)
 refine W.run 1 rfl (W.nx ?_)
 by_cases C:((n:Nat):Int)<((n2:Nat):Int)
 ·refine WC.condY rfl (decide_eq_true C) (WC.sr (W.run 1 rfl (W.nx (WC.ret (E.thenR (E.retG1 rfl rfl ?_))))))
  exact⟨congrArg (fun v=>Ending.returned (Value.int .i64 v)) (hrc.trans (rowsC_short (by omega) (by omega))).symm,b⟩
 refine WC.condN rfl (decide_eq_false C) (WC.sn (WC.sr (W.run 1 rfl (W.nx (WC.ret (E.retG1 rfl rfl ?_))))))
 exact⟨congrArg (fun v=>Ending.returned (Value.int .i64 v)) (hrc.trans (rowsC_even (by omega) (by omega))).symm,b⟩

theorem better_ok {Aw1 An1 Ad1:Option Addr}{nw1 cw1 nn1 cn1 nd1 cd1 p1 q1:Nat}{ws1:List Gsp.Edge}{s1:Int}{Aw2 An2 Ad2:Option Addr}{nw2 cw2 nn2 cn2 nd2 cd2 p2 q2:Nat}{ws2:List Gsp.Edge}{s2:Int}(w:World)(hw1:Vec w edgeV 9 Aw1 nw1 ws1)(hn1:Vec w dv 1 An1 nn1 (digs p1))(hd1:Vec w dv 1 Ad1 nd1 (digs q1))(bw1:nw1<=10000)(bn1:nn1<=10000)(bd1:nd1<=10000)(hw2:Vec w edgeV 9 Aw2 nw2 ws2)(hn2:Vec w dv 1 An2 nn2 (digs p2))(hd2:Vec w dv 1 Ad2 nd2 (digs q2))(bw2:nw2<=10000)(bn2:nn2<=10000)(bd2:nd2<=10000):Calls prog 117 #[.agg #[.slice Aw1 nw1 cw1,.slice An1 nn1 cn1,.slice Ad1 nd1 cd1,.int .i64 (s1)],.agg #[.slice Aw2 nw2 cw2,.slice An2 nn2 cn2,.slice Ad2 nd2 cd2,.int .i64 (s2)]] w fun r w'=>r= .returned (.bool (betterR (⟨ws1,⟨p1,q1⟩,s1⟩:Fnd) (⟨ws2,⟨p2,q2⟩,s2⟩:Fnd)))/\Le w w':=by
 have L:=hw1.1;have N:=hn1.1;have O:=hd1.1
 have P:=hw2.1;have Q:=hn2.1;have R:=hd2.1
 refine enter func117 rfl rfl (WC.sr (W.ef rfl rfl rfl (Ef.boxA rfl fun y z S (A:Blk z y 190 #[.slice Aw1 nw1 cw1,.slice An1 nn1 cn1,.slice Ad1 nd1 cd1,.int .i64 (s1)]) C=>(W.ef rfl rfl rfl (Ef.boxA rfl fun D i T (j:Blk i D 190 #[.slice Aw2 nw2 cw2,.slice An2 nn2 cn2,.slice Ad2 nd2 cd2,.int .i64 (s2)]) k=>?_)))))
 have c:=((Le.refl w).trans C).trans k
 refine W.run 1 rfl (W.nx (WC.sr (W.a (.field0 fa190_0 rfl) ?_)))
 have l:=(A.le k)
 refine W.r (.loadB (v:= .slice Aw1 nw1 cw1) na32 rfl l rfl) ?_
 refine W.a (.field0 fa190_0 rfl) ?_
 refine W.r (.loadB (v:= .slice Aw2 nw2 cw2) na32 rfl j rfl) ?_
 refine W.cl go217 rfl rfl (cmprows_ok i (hw1.le c) (hw2.le c) (by omega) (by omega)) ?_
 rintro _ U ⟨rfl,d⟩
 refine W.run 1 rfl (W.nx (WC.seq (WC.draw [0,1,2,3,5,6,7,8,10,4,9,11,12,13,14] mixed (by kernel_rfl) fun F e=>?_)))
 have b:=(c.trans d).trans e
 refine G.a rfl (.field0 fa190_1 rfl) ?_
 have m:=(j.le (d.trans e))
 refine G.r rfl (.bpart [.slice An2 nn2 cn2,.slice Ad2 nd2 cd2] ag61 rfl (by decide) rfl m rfl) ?_
 refine G.a rfl (.field0 fa190_1 rfl) ?_
 have n:=(l.le (d.trans e))
 refine G.r rfl (.bpart [.slice An1 nn1 cn1,.slice Ad1 nd1 cd1] ag61 rfl (by decide) rfl n rfl) ?_
 refine G.a rfl (.field0 fa190_2 rfl) ?_
 refine G.r rfl (.loadB (v:= .int .i64 (s1)) na3 rfl n rfl) ?_
 refine G.a rfl (.field0 fa190_2 rfl) ?_
 refine G.r rfl (.loadB (v:= .int .i64 (s2)) na3 rfl m rfl) ?_
 refine G.run 1 rfl (G.ef rfl rfl rfl rfl rfl (Ef.call go41 rfl rfl (fcmp_ok F (hn2.le b) (hd2.le b) (by omega) (by omega) (hn1.le b) (hd1.le b) (by omega) (by omega)) ?_))
 rintro _ H ⟨rfl,o⟩
 refine⟨_,rfl,?_⟩
 refine⟨fun _=>o,?_⟩
 refine G.ef rfl rfl rfl rfl rfl (Ef.call go212 rfl rfl (comparei_ok s1 s2 H) ?_)
 rintro _ I ⟨rfl,s⟩
 refine⟨_,rfl,?_⟩
 refine⟨fun _=>s,?_⟩
 refine G.ef rfl rfl rfl rfl rfl (Ef.buildSliceV (len:=3) [_,_,_] underlying23 el3 rfl (by simp[Value.cells]) rfl (by decide) (by decide) ?_)
 intro t f J h u
 refine⟨fun _=>u,?_⟩
 have h:Blk f t 3 (([(cmpF (takF (⟨p2,q2⟩:Fr)) (takF (⟨p1,q1⟩:Fr))),(cmpZ s1 s2),(rowsC ws1 ws2)]).map iv).flatten.toArray:=h
 have K:OVec f I.heap.size 3 iv 1 (some ⟨t,0,none⟩) 3 3 ([(cmpF (takF (⟨p2,q2⟩:Fr)) (takF (⟨p1,q1⟩:Fr))),(cmpZ s1 s2),(rowsC ws1 ws2)]):=h.ovec J iv_row rfl rfl (by decide)
 refine G.ef rfl rfl rfl rfl rfl (Ef.call go219 rfl rfl (or2_ok f K.vec (by decide)) ?_)
 rintro _ V ⟨rfl,x⟩
 refine⟨_,rfl,?_⟩
 refine⟨fun _=>x,?_⟩
 refine G.run 2 rfl (G.nil (E.thenN (WC.ret (E.retG1 rfl rfl ?_))))
 exact⟨rfl,((((b.trans o).trans s).trans u).trans x)⟩
end Go.Proofs.YtocheaahlpiajaaGreatDoor

namespace Go.Rtp
open Go.Gsp Go.Nsp Go.Msp Go.Proofs.YtocheaahlpiajaaGreatDoor
structure TP {α : Type} (c : α -> α -> Int) : Prop where
  anti : ∀ x y, c y x = -(c x y)
  trans : ∀ x y z, c x y <= 0 -> c y z <= 0 -> c x z <= 0
theorem TP.refl {α:Type}{c:α->α->Int}(h:TP c)(x:α):c x x=0:=by have:=h.anti x x;omega
theorem TP.lex {α:Type}{c d:α->α->Int}(h:TP c)(k:TP d):TP (fun x y=>if c x y≠0 then c x y else d x y):=by
  refine⟨fun x y=>?_,fun x y z b e=>?_⟩
  · have:=h.anti x y
    have:=k.anti x y
    split<;>split<;>omega
  · have f:=h.trans x y z
    have i:=h.trans y z x
    have j:=h.trans z x y
    have l:=h.anti x y
    have m:=h.anti y z
    have n:=h.anti x z
    have:=k.trans x y z
    split at b<;>split at e<;>split<;>omega
theorem TP.comap {α β:Type}{c:β->β->Int}(h:TP c)(f:α->β):TP (fun x y=>c (f x) (f y)):=⟨fun _ _=>h.anti _ _,fun _ _ _=>h.trans _ _ _⟩
theorem TP.flip {α:Type}{c:α->α->Int}(h:TP c):TP (fun x y=>c y x):=⟨fun _ _=>h.anti _ _,fun x y z b d=>h.trans z y x d b⟩
theorem TP.cmpI:TP cmpI:=⟨fun x y=>by unfold Gsp.cmpI;(repeat' split);all_goals omega,fun x y z=>by unfold Gsp.cmpI;(repeat' split);all_goals omega⟩
theorem cmpF_anti (a b:Fr):cmpF b a= -(cmpF a b):=by
  unfold cmpF cmpN
  (repeat' split);all_goals omega
theorem cmpF_le {a b:Fr}:cmpF a b<=0↔leF a b:=by
  have c:=cmpF_pos (a:=a) (b:=b)
  have d:=ltF_not (a:=b) (b:=a)
  constructor
  · intro h;exact Decidable.not_not.1 (fun hh=>by have:=c.2 (d.2 hh);omega)
  · intro h;exact Int.not_lt.1 (fun hh=>d.1 (c.1 hh) h)
theorem TP.cmpF:TP (fun x y:Fr=>cmpF (takF x) (takF y)):=
  ⟨fun x y=>cmpF_anti _ _,fun x y z b c=>cmpF_le.2 (leF_trans (takF_ok y).1 (cmpF_le.1 b) (cmpF_le.1 c))⟩
theorem rowsC_anti:∀xs ys:List Gsp.Edge,rowsC ys xs= -(rowsC xs ys)
  |[],[]=>rfl
  |[],_::_=>rfl
  |_::_,[]=>rfl
  |x::xs,y::ys=>by
    have h1:=TP.cmpI.anti x.c y.c
    have b:=rowsC_anti xs ys
    unfold rowsC
    split<;>split<;>omega
theorem rowsC_trans:∀xs ys zs:List Gsp.Edge,rowsC xs ys<=0->rowsC ys zs<=0->rowsC xs zs<=0
  |[],_,[],_,_=>Int.le_refl _
  |[],_,_::_,_,_=>(by decide:(-1:Int)<=0)
  |x::xs,[],_,h,_=>absurd h (by show¬(1:Int)<=0;decide)
  |x::xs,y::ys,[],_,h=>absurd h (by show¬(1:Int)<=0;decide)
  |x::xs,y::ys,z::zs,h,k=>by
    unfold rowsC at h k ⊢
    have a1:=TP.cmpI.trans x.c y.c z.c
    have b:=TP.cmpI.trans y.c z.c x.c
    have d:=TP.cmpI.trans z.c x.c y.c
    have e:=TP.cmpI.anti x.c y.c
    have f:=TP.cmpI.anti y.c z.c
    have i:=TP.cmpI.anti x.c z.c
    have:=rowsC_trans xs ys zs
    split at h<;>split at k<;>split<;>omega
theorem TP.rowsC:TP rowsC:=⟨rowsC_anti,rowsC_trans⟩
def ordB (u v:Fnd):Int:=orL [cmpF (takF v.odds) (takF u.odds),cmpI u.sent v.sent,rowsC u.way v.way]
theorem TP.ordB:TP ordB:=by
  have h:=(TP.cmpF.flip.comap Fnd.odds).lex ((TP.cmpI.comap Fnd.sent).lex (TP.rowsC.comap Fnd.way))
  refine⟨fun x y=>?_,fun x y z d f=>?_⟩
  · have:=h.anti x y
    unfold Rtp.ordB
    simp only[orL]
    repeat' split
    all_goals (repeat' split at this)
    all_goals omega
  · have:=h.trans x y z
    unfold Rtp.ordB at*
    simp only[orL]at*
    have e:∀a b c:Int,(if a≠0 then a else if b≠0 then b else if c≠0 then c else 0)=(if a≠0 then a else if b≠0 then b else c):=by
      intro a b c;(repeat' split);all_goals omega
    rw[e]at*
    exact this d f
theorem better_iff {u v:Fnd}:betterR u v=true↔ordB u v<0:=decide_eq_true_iff
def aN (m:MF)(xs:List Gsp.Edge)(s:List Int):Nat->Nat
  |0=>1
  |k+1=>aN m xs s k*(takF (oddsM m (xs.getD k noEdge) (s.getD k 0))).n
def aD (m:MF)(xs:List Gsp.Edge)(s:List Int):Nat->Nat
  |0=>1
  |k+1=>aD m xs s k*(takF (oddsM m (xs.getD k noEdge) (s.getD k 0))).d
theorem aD_pos (m:MF)(xs:List Gsp.Edge)(s:List Int):∀k,0<aD m xs s k
  |0=>Nat.one_pos
  |k+1=>Nat.mul_pos (aD_pos m xs s k) (takF_ok _).1
theorem mul_low {a b:Nat}{o:Fr}(hb:0<b)(ho:okF o):mulF (lowF a b) o=lowF (a*o.n) (b*o.d):=by
  have c:=mul_eq (lowF a b) o
  have e:=low_eq (n:=a) (d:=b)
  have hx:=okF_low (n:=a) hb
  have hM:=okF_mul hx ho
  refine eq_of_cross hM (okF_low (Nat.mul_pos hb ho.1)) (cross_trans (n:=a*o.n) (d:=b*o.d) (Nat.mul_pos hb ho.1) ?_ low_eq)
  generalize mulF (lowF a b) o=M at*
  generalize lowF a b=x at*
  refine Nat.eq_of_mul_eq_mul_right hx.1 ?_
  calc M.n*(b*o.d)*x.d=M.n*(x.d*o.d)*b:=by simp only[Nat.mul_assoc,Nat.mul_comm,Nat.mul_left_comm]
    _=x.n*o.n*M.d*b:=by rw[c]
    _=x.n*b*(o.n*M.d):=by simp only[Nat.mul_assoc,Nat.mul_comm,Nat.mul_left_comm]
    _=a*x.d*(o.n*M.d):=by rw[e]
    _=a*o.n*M.d*x.d:=by simp only[Nat.mul_assoc,Nat.mul_comm,Nat.mul_left_comm]
theorem accO_pr (m:MF)(xs:List Gsp.Edge)(s:List Int):∀k,accO m xs s k=lowF (aN m xs s k) (aD m xs s k)
  |0=>rfl
  |k+1=>by
    show mulF (takF (accO m xs s k)) _=_
    rw[takF_id (accO_ok m xs s k),accO_pr m xs s k,mul_low (aD_pos m xs s k) (takF_ok _)]
    rfl
theorem le_low {a b c d:Nat}(hb:0<b)(hd:0<d):leF (lowF a b) (lowF c d)↔a*d<=c*b:=by
  have i:=low_eq (n:=a) (d:=b)
  have j:=low_eq (n:=c) (d:=d)
  have k:=(okF_low (n:=a) hb).1
  have l:=(okF_low (n:=c) hd).1
  unfold leF
  generalize lowF a b=x at*
  generalize lowF c d=y at*
  have e:x.n*y.d*(b*d)=a*d*(x.d*y.d):=by
    calc x.n*y.d*(b*d)=x.n*b*(d*y.d):=by simp only[Nat.mul_assoc,Nat.mul_comm,Nat.mul_left_comm]
      _=a*x.d*(d*y.d):=by rw[i]
      _=a*d*(x.d*y.d):=by simp only[Nat.mul_assoc,Nat.mul_comm,Nat.mul_left_comm]
  have f:y.n*x.d*(b*d)=c*b*(x.d*y.d):=by
    calc y.n*x.d*(b*d)=y.n*d*(b*x.d):=by simp only[Nat.mul_assoc,Nat.mul_comm,Nat.mul_left_comm]
      _=c*y.d*(b*x.d):=by rw[j]
      _=c*b*(x.d*y.d):=by simp only[Nat.mul_assoc,Nat.mul_comm,Nat.mul_left_comm]
  constructor
  · intro h
    refine Nat.le_of_mul_le_mul_right (c:=x.d*y.d) ?_ (Nat.mul_pos k l)
    rw[<-e,<-f]
    exact Nat.mul_le_mul_right _ h
  · intro h
    refine Nat.le_of_mul_le_mul_right (c:=b*d) ?_ (Nat.mul_pos hb hd)
    rw[e,f]
    exact Nat.mul_le_mul_right _ h
theorem getDI_drop (s:List Int)(k i:Nat):(s.drop k).getD i 0=s.getD (k+i) 0:=by simp[List.getD,List.getElem?_drop]
theorem aN_drop (m:MF)(xs:List Gsp.Edge)(s:List Int)(j:Nat):∀k,aN m xs s (j+k)=aN m xs s j*aN m (xs.drop j) (s.drop j) k
  |0=>by show _=_*1;rw[Nat.mul_one];rfl
  |k+1=>by
    show aN m xs s (j+k)*_=_*(aN m (xs.drop j) (s.drop j) k*_)
    rw[aN_drop m xs s j k,getD_drop',getDI_drop,Nat.mul_assoc]
    rfl
theorem aD_drop (m:MF)(xs:List Gsp.Edge)(s:List Int)(j:Nat):∀k,aD m xs s (j+k)=aD m xs s j*aD m (xs.drop j) (s.drop j) k
  |0=>by show _=_*1;rw[Nat.mul_one];rfl
  |k+1=>by
    show aD m xs s (j+k)*_=_*(aD m (xs.drop j) (s.drop j) k*_)
    rw[aD_drop m xs s j k,getD_drop',getDI_drop,Nat.mul_assoc]
    rfl
theorem lowF_unit {n d:Nat}(h:n<=d):(lowF n d).n<=(lowF n d).d:=Nat.div_le_div_right h
theorem odds_unit {m:MF}(hm:GoodM m)(e:Gsp.Edge)(a:Int):(takF (oddsM m e a)).n<=(takF (oddsM m e a)).d:=by
  unfold takF
  split
  · unfold oddsM
    split
    · rename_i h
      simp only[goesM,Bool.and_eq_true,decide_eq_true_eq]at h
      have hb:=bndM_ok hm h.1.1
      refine lowF_unit ?_
      unfold oddN oddD
      omega
    · exact Nat.le_refl _
  · exact Nat.zero_le _
theorem a_unit {m:MF}(hm:GoodM m)(xs:List Gsp.Edge)(s:List Int):∀k,aN m xs s k<=aD m xs s k
  |0=>Nat.le_refl _
  |k+1=>Nat.mul_le_mul (a_unit hm xs s k) (odds_unit hm _ _)
theorem oddsR_eq {m:MF}{xs:List Gsp.Edge}{a x:Int}(h:(oddsR m xs a x).2.2=0):(costG xs a x).2.2=0/\oddsR m xs a x=(lowF (aN m xs (costG xs a x).1 xs.length) (aD m xs (costG xs a x).1 xs.length),(costG xs a x).1.getD 0 0,0):=by
  by_cases hc:(costG xs a x).2.2=0
  · exact⟨hc,by unfold oddsR;rw[if_pos hc,accO_pr]⟩
  · unfold oddsR at h
    rw[if_neg hc]at h
    exact absurd h hc
theorem oddsR_of {m:MF}{xs:List Gsp.Edge}{a x:Int}(h:(costG xs a x).2.2=0):oddsR m xs a x=(lowF (aN m xs (costG xs a x).1 xs.length) (aD m xs (costG xs a x).1 xs.length),(costG xs a x).1.getD 0 0,0):=by
  unfold oddsR;rw[if_pos h,accO_pr]
theorem oddsR_err {m:MF}{xs:List Gsp.Edge}{a x:Int}:(oddsR m xs a x).2.2=(costG xs a x).2.2:=by
  unfold oddsR
  split
  · rename_i h;exact h.symm
  · rfl
theorem oddsR_ok {m:MF}{xs:List Gsp.Edge}{a x:Int}(h:(oddsR m xs a x).2.2=0):okF (oddsR m xs a x).1:=by
  rw[(oddsR_eq h).2];exact okF_low (aD_pos _ _ _ _)
theorem oddsR_drop {m:MF}(hm:GoodM m){xs:List Gsp.Edge}{a x:Int}(h:(oddsR m xs a x).2.2=0){j:Nat}(hj:j<xs.length):
    (oddsR m (xs.drop j) a x).2.2=0/\leF (oddsR m xs a x).1 (oddsR m (xs.drop j) a x).1:=by
  obtain⟨hc,he⟩:=oddsR_eq h
  have hd:=costG_drop hc hj
  have b:(costG (xs.drop j) a x).2.2=0:=by rw[hd]
  refine⟨by rw[oddsR_err,b],?_⟩
  rw[he,oddsR_of b,hd]
  simp only
  rw[le_low (aD_pos _ _ _ _) (aD_pos _ _ _ _),List.length_drop]
  have c:=aN_drop m xs (costG xs a x).1 j (xs.length-j)
  have d:=aD_drop m xs (costG xs a x).1 j (xs.length-j)
  rw[show j+(xs.length-j)=xs.length by omega]at c d
  rw[c,d]
  have hu:=a_unit hm xs (costG xs a x).1 j
  generalize aN m (xs.drop j) _ _=p
  generalize aD m (xs.drop j) _ _=q
  calc aN m xs (costG xs a x).1 j*p*q=aN m xs (costG xs a x).1 j*(p*q):=Nat.mul_assoc _ _ _
    _<=aD m xs (costG xs a x).1 j*(p*q):=Nat.mul_le_mul_right _ hu
    _=p*(aD m xs (costG xs a x).1 j*q):=by simp only[Nat.mul_assoc,Nat.mul_comm,Nat.mul_left_comm]
theorem leF_pos {a b:Fr}(hb:okF b)(h:leF a b)(hn:a.n≠0):b.n≠0:=by
  intro c
  unfold leF at h
  rw[c,Nat.zero_mul]at h
  rcases Nat.mul_eq_zero.1 (Nat.le_zero.1 h)with k|k
  · exact hn k
  · exact absurd k (Nat.pos_iff_ne_zero.1 hb.1)
structure Cand (g : List Gsp.Edge) (m : MF) (fr to a x : Int) (w : List Gsp.Edge) : Prop where
  ne : w ≠ []
  sub : ∀ e ∈ w, e ∈ g
  fst : (w.getD 0 noEdge).f = fr
  lst : (w.getD (w.length - 1) noEdge).t = to
  ok : (oddsR m w a x).2.2 = 0
  pos : (oddsR m w a x).1.n ≠ 0
def fo (m:MF)(a x:Int)(w:List Gsp.Edge):Fnd:=fndR w (oddsR m w a x)
variable {g : List Gsp.Edge} {m : MF} {fr to a x : Int}
def BG (g:List Gsp.Edge)(m:MF)(fr to a x:Int)(b:Fnd):Prop:=b.way=[]\/(Cand g m fr to a x b.way/\b=fo m a x b.way)
def Geq (b c:Fnd):Prop:=b.way≠[]/\ordB b c<=0
theorem Geq.trans {b c d:Fnd}(h:Geq b c)(k:ordB c d<=0):Geq b d:=⟨h.1,TP.ordB.trans _ _ _ h.2 k⟩
structure Spec (g : List Gsp.Edge) (m : MF) (fr to a x : Int) (W : List Gsp.Edge -> Prop) (b b' : Fnd) : Prop where
  good : BG g m fr to a x b'
  up : b.way ≠ [] -> Geq b' b
  all : ∀ w, Cand g m fr to a x w -> W w -> Geq b' (fo m a x w)
theorem Spec.same {W:List Gsp.Edge->Prop}{b:Fnd}(hb:BG g m fr to a x b)(h:∀w,Cand g m fr to a x w->W w->Geq b (fo m a x w)):Spec g m fr to a x W b b:=⟨hb,fun h=>⟨h,Int.le_of_eq (TP.ordB.refl b)⟩,h⟩
theorem Spec.fold {α:Type}{f:Fnd->α->Fnd}{W:α->List Gsp.Edge->Prop}:∀(l:List α),(∀e∈l,∀b,BG g m fr to a x b->Spec g m fr to a x (W e) b (f b e))->∀b,BG g m fr to a x b->Spec g m fr to a x (fun w=>∃e∈l,W e w) b (l.foldl f b)
  |[],_,b,hb=>Spec.same hb (fun w _ h=>by obtain⟨e,he,_⟩:=h;cases he)
  |e::l,h,b,hb=>by
    have h1:=h e (List.mem_cons_self ..) b hb
    have c:=Spec.fold l (fun e' he'=>h e' (List.mem_cons_of_mem _ he')) (f b e) h1.good
    refine⟨c.good,fun hn=>?_,fun w hw hW=>?_⟩
    · have k1:=h1.up hn
      exact(c.up k1.1).trans k1.2
    · obtain⟨e',he',hw'⟩:=hW
      rcases List.mem_cons.1 he' with rfl|he'
      · have k1:=h1.all w hw hw'
        exact(c.up k1.1).trans k1.2
      · exact c.all w hw ⟨e',he',hw'⟩
def At (g:List Gsp.Edge)(to:Int)(way:List Gsp.Edge)(at_:Int):Prop:=(∀e∈way,e∈g)/\(way=[]->at_=to)/\(way≠[]->(way.getD 0 noEdge).f=at_/\(way.getD (way.length-1) noEdge).t=to)
theorem getD_app (p q:List Gsp.Edge)(i:Nat):(p++q).getD (p.length+i) noEdge=q.getD i noEdge:=by
  simp[List.getD,List.getElem?_append_right]
theorem takF_oddsR {xs:List Gsp.Edge}(h:(oddsR m xs a x).2.2=0):takF (oddsR m xs a x).1=(oddsR m xs a x).1:=takF_id (oddsR_ok h)
theorem ordB_lt {u v:Fnd}(h:cmpF (takF u.odds) (takF v.odds)<0):ordB v u<0:=by
  unfold ordB orL
  rw[if_pos (by omega)]
  exact h
theorem look_spec (hm:GoodM m)(hft:fr≠to):∀(k:Nat) (way:List Gsp.Edge) (at_:Int) (b:Fnd),way.length+k=9->1<=k->At g to way at_->BG g m fr to a x b->
    Spec g m fr to a x (fun w=>∃p,w=p++way) b (lookR g m fr to a x k way at_ b)
  |0,_,_,_,_,h,_,_=>absurd h (by decide)
  |k+1,way,at_,b,hk,_,hA,hb=>by
    rw[lookR]
    have suf:∀w,Cand g m fr to a x w->(∃p,w=p++way)->way≠[]->(oddsR m way a x).2.2=0/\leF (oddsR m w a x).1 (oddsR m way a x).1/\(oddsR m way a x).1.n≠0:=by
      rintro w hw ⟨p,rfl⟩ hne
      have hl:p.length<(p++way).length:=by rw[List.length_append];have:=List.length_pos_iff.2 hne;omega
      have hd:=oddsR_drop hm hw.ok hl
      rw[List.drop_left]at hd
      exact⟨hd.1,hd.2,leF_pos (oddsR_ok hd.1) hd.2 hw.pos⟩
    split
    · rename_i hc
      refine Spec.same hb fun w hw hW=>?_
      obtain⟨s,u,v⟩:=suf w hw hW hc.1
      rcases hc.2 with h|h|h
      · exact absurd s h
      · exact absurd h v
      · refine⟨h.1,Int.le_of_lt (ordB_lt ?_)⟩
        show cmpF (takF (oddsR m w a x).1) (takF b.odds)<0
        have d:=h.2
        rw[takF_oddsR s]at d
        rw[takF_oddsR hw.ok]
        rw[cmpF_neg,ltF_not]at d ⊢
        exact fun hh=>d (leF_trans (oddsR_ok hw.ok).1 hh u)
    · rename_i hc
      split
      · rename_i hat
        have hne:way≠[]:=fun h=>hft (hat.symm.trans (hA.2.1 h))
        have hcd:Cand g m fr to a x way:=by
          refine⟨hne,hA.1,(hA.2.2 hne).1.trans hat,(hA.2.2 hne).2,?_,?_⟩
          · exact Decidable.not_not.1 fun h=>hc ⟨hne,.inl h⟩
          · exact fun h=>hc ⟨hne,.inr (.inl h)⟩
        have only:∀w,Cand g m fr to a x w->(∃p,w=p++way)->w=way:=by
          rintro w hw ⟨p,rfl⟩
          cases p with
          |nil=>rfl
          |cons e p=>
            exfalso
            have l:=(costG_inv (oddsR_err.symm.trans hw.ok)).1
            have hf:=hw.fst
            have d:((e::p++way).getD (p.length+1) noEdge).f=fr:=by
              have:=getD_app (e::p) way 0
              rw[List.length_cons,Nat.add_zero]at this
              rw[this,(hA.2.2 hne).1,hat]
            have o:=(way_once l (j:=0) (i:=p.length+1) (by omega) (by simp only[List.length_append,List.length_cons];have:=List.length_pos_iff.2 hne;omega)).1
            rw[hf,d]at o
            exact o rfl
        split
        · rename_i hbb
          refine⟨.inr ⟨hcd,rfl⟩,fun hn=>⟨hne,?_⟩,fun w hw hW=>?_⟩
          · rcases hbb with h|h
            · exact absurd h hn
            · exact Int.le_of_lt (better_iff.1 h)
          · rw[only w hw hW]
            exact⟨hne,Int.le_of_eq (TP.ordB.refl _)⟩
        · rename_i hbb
          refine Spec.same hb fun w hw hW=>?_
          rw[only w hw hW]
          refine⟨fun h=>hbb (.inl h),?_⟩
          have c:¬ordB (fo m a x way) b<0:=fun h=>hbb (.inr (better_iff.2 h))
          have d:=TP.ordB.anti (fo m a x way) b
          omega
      · rename_i hat
        have key:∀w,Cand g m fr to a x w->(∃p,w=p++way)->∃p e,w=p++e::way/\e∈inG g at_/\skipR way to e=false/\way.length<8:=by
          rintro w hw ⟨p,rfl⟩
          rcases List.eq_nil_or_concat p with rfl|⟨p,e,rfl⟩
          · exfalso
            have c:=hw.fst
            rw[List.nil_append]at c
            exact hat ((hA.2.2 hw.ne).1.symm.trans c)
          · rw[List.concat_eq_append,List.append_assoc,List.singleton_append]at hw ⊢
            have l:=(costG_inv (oddsR_err.symm.trans hw.ok)).1
            have z:=(wayG_len l).2
            simp only[List.length_append,List.length_cons]at z
            have ge:(p++e::way).getD p.length noEdge=e:=by
              have:=getD_app p (e::way) 0
              exact this
            have gn:∀i,(p++e::way).getD (p.length+1+i) noEdge=way.getD i noEdge:=by
              intro i
              have:=getD_app p (e::way) (1+i)
              rw[<-Nat.add_assoc]at this
              rw[this,Nat.add_comm 1 i]
              rfl
            have he:e.t=at_:=by
              by_cases hne:way=[]
              · subst hne
                have:=hw.lst
                rw[show(p++[e]).length-1=p.length by simp]at this
                rw[ge]at this
                rw[this,hA.2.1 rfl]
              · have:=(wayG_at l (i:=p.length+1) (by simp only[List.length_append,List.length_cons];have:=List.length_pos_iff.2 hne;omega)).2.1 (by omega)
                rw[show p.length+1-1=p.length by omega,ge,gn 0,(hA.2.2 hne).1]at this
                exact this
            refine⟨p,e,rfl,List.mem_filter.2 ⟨hw.sub e (by simp),decide_eq_true he⟩,?_,by omega⟩
            unfold skipR
            rw[Bool.or_eq_false_iff]
            constructor
            · refine decide_eq_false fun hto=>?_
              have c:=(wayG_at l (i:=(p++e::way).length-1) (by simp)).2.2 p.length (by simp)
              rw[ge,hw.lst]at c
              exact c hto
            · rw[List.any_eq_false]
              intro y hy
              obtain⟨i,hi,hyi⟩:=List.mem_iff_getElem.1 hy
              have c:=(way_once l (j:=p.length) (i:=p.length+1+i) (by omega) (by simp only[List.length_append,List.length_cons];omega)).1
              rw[ge,gn i]at c
              have d:way.getD i noEdge=y:=by simp[List.getD,hi,hyi]
              rw[d]at c
              simpa using fun h=>c h.symm
        split
        · rename_i h8
          refine Spec.same hb fun w hw hW=>?_
          obtain⟨_,_,_,_,_,hlt⟩:=key w hw hW
          omega
        · rename_i h8
          have hfold:=Spec.fold (g:=g) (m:=m) (fr:=fr) (to:=to) (a:=a) (x:=x) (f:=stepR (lookR g m fr to a x k) way to) (W:=fun e w=>skipR way to e=false/\∃p,w=p++e::way) (inG g at_) (fun e he b' hb'=>by
            unfold stepR
            split
            · rename_i hsk
              exact Spec.same hb' fun w _ hW=>by rw[hsk]at hW;exact absurd hW.1 (by decide)
            · rename_i hsk
              obtain⟨A,C⟩:=List.mem_filter.1 he
              have het:e.t=at_:=of_decide_eq_true C
              have hA':At g to (e::way) e.f:=by
                refine⟨fun y hy=>?_,fun h=>by simp at h,fun _=>⟨rfl,?_⟩⟩
                · rcases List.mem_cons.1 hy with rfl|hy
                  · exact A
                  · exact hA.1 y hy
                · by_cases hne:way=[]
                  · subst hne
                    show e.t=to
                    rw[het,hA.2.1 rfl]
                  · have hl:=List.length_pos_iff.2 hne
                    rw[List.length_cons,Nat.add_sub_cancel,show way.length=(way.length-1)+1 by omega]
                    exact(hA.2.2 hne).2
              have hr:=look_spec hm hft k (e::way) e.f b' (by rw[List.length_cons];omega) (by omega) hA' hb'
              exact⟨hr.good,hr.up,fun w hw hW=>hr.all w hw hW.2⟩) b hb
          exact⟨hfold.good,hfold.up,fun w hw hW=>by
            obtain⟨p,e,c,d,o,_⟩:=key w hw hW
            exact hfold.all w hw ⟨e,d,o,p,c⟩⟩
theorem bad_T (h:badR g fr to a x=false):rightG g=true/\(0<=fr/\fr<=11)/\(0<=to/\to<=11)/\fr≠to/\(1<=a/\a<=1125899906842624)/\1<=x/\x<=1048576:=by
  unfold badR at h
  simp only[Bool.or_eq_false_iff,Bool.not_eq_false',decide_eq_false_iff_not]at h
  obtain⟨⟨⟨⟨⟨b,c⟩,d⟩,e⟩,f⟩,i⟩:=h
  exact⟨b,inB_T c,inB_T d,e,inB_T f,inB_T i⟩
theorem best_spec (hm:GoodM m)(hft:fr≠to):Spec g m fr to a x (fun _=>True) noFnd (lookR g m fr to a x 9 [] to noFnd):=by
  have h:=look_spec (g:=g) (a:=a) (x:=x) hm hft 9 [] to noFnd rfl (by decide) ⟨fun e he=>(by cases he),fun _=>rfl,fun h=>absurd rfl h⟩ (.inl rfl)
  exact⟨h.good,h.up,fun w hw _=>h.all w hw ⟨w,(List.append_nil w).symm⟩⟩
theorem bestR_ok (hm:GoodM m)(h:(bestR g m fr to a x).2.2=0):badR g fr to a x=false/\Cand g m fr to a x (bestR g m fr to a x).1/\(bestR g m fr to a x).2.1=(oddsR m (bestR g m fr to a x).1 a x).1/\
    ∀w,Cand g m fr to a x w->ordB (fo m a x (bestR g m fr to a x).1) (fo m a x w)<=0:=by
  have hb:badR g fr to a x=false:=by
    cases hb:badR g fr to a x
    · rfl
    · unfold bestR at h;rw[if_pos hb]at h;exact absurd h (by decide)
  have hs:=best_spec (g:=g) (a:=a) (x:=x) hm (bad_T hb).2.2.2.1
  unfold bestR at h ⊢
  rw[if_neg (by rw[hb];decide)]at h ⊢
  split at h
  · exact absurd h (by decide)
  · rename_i hne
    rw[if_neg hne]
    rcases hs.good with k|⟨k1,k2⟩
    · exact absurd k hne
    · refine⟨hb,k1,?_,fun w hw=>?_⟩
      · show(lookR g m fr to a x 9 [] to noFnd).odds=_
        exact congrArg Fnd.odds k2
      · have:=(hs.all w hw trivial).2
        rw[k2]at this
        exact this
theorem bestR_no (hm:GoodM m)(hb:badR g fr to a x=false)(h:(bestR g m fr to a x).2.2≠0):bestR g m fr to a x=([],⟨0,0⟩,19)/\∀w,¬Cand g m fr to a x w:=by
  have hs:=best_spec (g:=g) (a:=a) (x:=x) hm (bad_T hb).2.2.2.1
  unfold bestR at h ⊢
  rw[if_neg (by rw[hb];decide)]at h ⊢
  split at h
  · rename_i hn
    rw[if_pos hn]
    exact⟨rfl,fun w hw=>(hs.all w hw trivial).1 hn⟩
  · exact absurd rfl h
theorem bestR_bad (hb:badR g fr to a x=true):bestR g m fr to a x=([],⟨0,0⟩,1):=by unfold bestR;rw[if_pos hb]
end Go.Rtp

namespace Go.Rtp
open Go.Gsp Go.Nsp Go.Msp Go.Proofs.YtocheaahlpiajaaGreatDoor
def lessG (g:List Gsp.Edge)(k:Nat):List Gsp.Edge:=g.take k++g.drop (k+1)
theorem lessG_sub {g:List Gsp.Edge}{k:Nat}{e:Gsp.Edge}(h:e∈lessG g k):e∈g:=by
  rcases List.mem_append.1 h with h|h
  · exact List.mem_of_mem_take h
  · exact List.mem_of_mem_drop h
theorem lessG_mem {g:List Gsp.Edge}{k:Nat}(hk:k<g.length){e:Gsp.Edge}(h:e∈g)(hn:e≠g.getD k noEdge):e∈lessG g k:=by
  obtain⟨i,hi,rfl⟩:=List.mem_iff_getElem.1 h
  rcases Nat.lt_trichotomy i k with b|b|b
  · exact List.mem_append_left _ (List.mem_take_iff_getElem.2 ⟨i,by omega,rfl⟩)
  · subst b;exact absurd (by simp[List.getD,hi]) hn
  · refine List.mem_append_right _ (List.mem_drop_iff_getElem.2 ⟨i-(k+1),by omega,?_⟩)
    congr 1;omega
variable {g : List Gsp.Edge} {m : MF} {fr to a x : Int}
theorem Cand.way {w:List Gsp.Edge}(h:Cand g m fr to a x w):wayG w=true:=(costG_inv (oddsR_err.symm.trans h.ok)).1
theorem Cand.cost {w:List Gsp.Edge}(h:Cand g m fr to a x w):(costG w a x).2.2=0:=oddsR_err.symm.trans h.ok
theorem Cand.less {k:Nat}(hk:k<g.length){w:List Gsp.Edge}(h:Cand (lessG g k) m fr to a x w):Cand g m fr to a x w:=⟨h.ne,fun e he=>lessG_sub (h.sub e he),h.fst,h.lst,h.ok,h.pos⟩
theorem Cand.more {k:Nat}(hk:k<g.length){w:List Gsp.Edge}(h:Cand g m fr to a x w)(hn:∀e∈w,e≠g.getD k noEdge):Cand (lessG g k) m fr to a x w:=⟨h.ne,fun e he=>lessG_mem hk (h.sub e he) (hn e he),h.fst,h.lst,h.ok,h.pos⟩
theorem bestR_errs (hm:GoodM m):(bestR g m fr to a x).2.2=0\/bestR g m fr to a x=([],⟨0,0⟩,1)\/bestR g m fr to a x=([],⟨0,0⟩,19):=by
  by_cases h:(bestR g m fr to a x).2.2=0
  · exact .inl h
  · cases hb:badR g fr to a x
    · exact .inr (.inr (bestR_no hm hb h).1)
    · exact .inr (.inl (bestR_bad hb))
theorem Cand.some {w:List Gsp.Edge}(hc:(costG w a x).2.2=0){i:Nat}(hi:i<w.length):someM (w.getD i noEdge) ((costG w a x).1.getD i 0)=true:=by
  have h:=costs_of hc
  have b:=h.ge (w.length-1-i) i (by omega)
  have c:=h.room i hi
  have hok:=edgeOk_T (wayG_at h.way hi).1
  have:=h.amt
  simp only[someM,mayM,ptyB,Bool.and_eq_true,decide_eq_true_eq]
  omega
structure Kn where
  p : Int
  d : Int
  a : Int
def noKn:Kn:=⟨0,0,0⟩
def mindS (g:List Gsp.Edge)(m:MF)(q:Kn):MF:=
  if q.p<0\/(g.length:Int)<=q.p then m else if q.d%2=0 then failM m (g.getD q.p.toNat noEdge) q.a else passM m (g.getD q.p.toNat noEdge) q.a
def mindG (g:List Gsp.Edge)(l:List Kn):MF:=l.foldl (mindS g) (fun _=>none)
theorem mindS_good (hm:GoodM m)(q:Kn):GoodM (mindS g m q):=by
  unfold mindS
  split
  · exact hm
  · split
    · exact failM_good hm _ _
    · exact passM_good hm _ _
theorem none_good:GoodM (fun _=>none):=fun _ _ h=>by cases h
theorem mindG_good (g:List Gsp.Edge):∀(l:List Kn) (m:MF),GoodM m->GoodM (l.foldl (mindS g) m)
  |[],_,h=>h
  |q::l,m,h=>mindG_good g l _ (mindS_good h q)
end Go.Rtp

namespace Go.Proofs.YtocheaahlpiajaaGreatDoor
open Tryz
open Go Go.Sx Go.Hsp Go.Num Go.Osp
set_option maxRecDepth 20000
theorem getst (l:List Stop){k:Nat}(h:k<l.length):l[k]? =some (l.getD k (0,[])):=by simp[h,List.getD]
theorem geth (l:List Hop){k:Nat}(h:k<l.length):l[k]? =some (l.getD k noHop):=by simp[h,List.getD]
theorem hopRows_at (hs:List Hop)(k:Nat)(h:k<hs.length):(hs.map hopV)[k]? =some (hopV (hs.getD k noHop)):=by simp[h,List.getD]
def Kp2 (gb gs:Nat)(W W':World):Prop:=W.heap[gb]? =W'.heap[gb]? /\W.heap[gs]? =W'.heap[gs]?
theorem rws_blk {W:World}{gs n:Nat}{t:TypeId}{cur:Array Value}{l:List Stop}(h:Blk W gs t cur)(hl:l.length=n)(hsum:∀s∈l,s.2.length=32)(hc:cur.toList.take (n*33)=(stopRows l).flatten):Rws W 33 (some ⟨gs,0,none⟩) n (stopRows l):=by
  refine⟨by simp[stopRows,hl],stopRows_len l hsum,?_⟩
  rw[<-hc]
  have hlen:(cur.toList.take (n*33)).length=n*33:=by rw[hc,flat_length _ (stopRows_len l hsum)];simp[stopRows,hl]
  refine⟨hlen,fun j u hu=>⟨_,rfl,?_⟩⟩
  have hj:cur.toList[j]? =some u:=by
    rw[List.getElem?_take]at hu
    split at hu
    · exact hu
    · cases hu
  have:=h.cell (i:=j)
  rw[add_lit,Nat.zero_add,this]
  simpa using hj
def finL (n j:Nat)(h:j<=n):List (Fin n):=(List.range j).attach.map fun i=>⟨n-1-i.1,by have:=List.mem_range.1 i.2;omega⟩
theorem finL_val (n j:Nat)(h:j<=n):(finL n j h).map Fin.val=downs n j:=by
  simp only[finL,downs,List.map_map]
  apply List.ext_getElem (by simp)
  intro i b c
  simp
theorem finL_length (n j:Nat)(h:j<=n):(finL n j h).length=j:=by simp[finL]
theorem finL_succ (n j:Nat)(h:j+1<=n):finL n (j+1) h=finL n j (by omega)++[⟨n-1-j,by omega⟩]:=by
  have inj:∀{a b:List (Fin n)},a.map Fin.val=b.map Fin.val->a=b:=fun{a b} h=>List.map_inj_right (f:=Fin.val) (fun x y hxy=>Fin.ext hxy)|>.1 h
  apply inj
  rw[finL_val,List.map_append,finL_val,downs_succ]
  rfl
theorem backward_ok (v:Value)(hv:v.cells=#[v])(w:World):Calls prog 126 #[v] w fun e w'=>∃g,e= .returned (.func (.func 225) #[] #[.pointer (some ⟨g,0,none⟩)])/\w.heap.size<=g/\Blk w' g 200 #[v]/\Le w w':=by
 refine enter func126 rfl rfl ?_
 have c:=Le.refl w
 refine WC.sr (W.ef rfl rfl rfl (Ef.box rfl fun d j f b h=>?_))
 have i:=c.trans h
 refine W.run 1 rfl (W.nx (WC.sr (W.a (.makeFunc rfl) ?_)))
 refine W.run 1 rfl (W.nx (WC.ret (E.ret1 rfl rfl ?_)))
 exact⟨d,rfl,f,by rw[hv]at b;exact b,i⟩

theorem back_in {n gb gs cs lp:Nat}{cur:Array Value}{l:List Stop}(hl:l.length=n)(hn:n<=1000)(hsum:∀s∈l,s.2.length=32)(hc:cur.toList.take (n*33)=(stopRows l).flatten)(J Jx:List (Fin n)->World->Prop)
  (hY:∀pre x W1,J pre W1->pre.length<n->YieldAt Fence.wide 1 prog lp #[.int .i64 ((x.val:Nat):Int),.agg (stopV (l.getD x.val (0,[]))).toArray] W1 fun e W'=>(e= .returned (.bool true)/\J (pre++[x]) W'/\Kp2 gb gs W1 W')\/(e= .returned (.bool false)/\Jx (pre++[x]) W'))
  (w:World)(hB:Blk w gb 200 #[.slice (some ⟨gs,0,none⟩) n cs])(hS:Blk w gs 209 cur)(h0:J [] w):Calls prog 225 #[.func (.yield lp) #[] #[],.pointer (some ⟨gb,0,none⟩)] w (fun e W'=>(∃v,e= .returned v)/\((∃xs,xs=finL n n (Nat.le_refl n)/\J xs W')\/(∃pre,True/\Jx pre W'))):=by
 refine enter func225 rfl rfl (WC.sr (W.r (.loadB na200 rfl (hB) (rfl)) ?_))
 refine W.r (.len underlying200 rfl) ?_
 refine W.a (.sub rfl rfl (by omega)) ?_
 refine W.run 1 rfl (W.nx (WC.block (WC.loop (ι:=Nat) (fun k=>[(0,.func (.yield lp) #[] #[]),(1,.pointer (some ⟨gb,0,none⟩)),(3,.int .i64 ((n:Int)-1-(k:Int)))]) (fun k wl=>∃hk:k<=n,J (finL n k hk) wl/\Kp2 gb gs w wl) (fun k=>n-k) 0 ?_ ?_ ?_)))
 ·exact .cons rfl (.cons rfl (.cons' rfl (int_eq (by omega)) (.nil _)))
 ·exact⟨Nat.zero_le _,h0,rfl,rfl⟩
 rintro k wl ⟨hk,hJ,hkp⟩
 have hB:=hkp.1.symm.trans hB
 have hS:=hkp.2.symm.trans hS
 refine WC.seq (WC.sr (W.run 2 rfl (W.nx (WC.cond rfl (fun b=>?_) (fun b=>?_)))))
 ·have c:k+1<=n:=by omega
  have hi:(n:Int)-1-(k:Int)=((n-1-k:Nat):Int):=by omega
  refine WC.sn (WC.seq (WC.block (WC.seq (WC.regionI (WI.any (.move rfl) rfl rfl rfl rfl (WI.any (.move rfl) rfl rfl rfl rfl (WI.rd (.loadB na200 rfl (hB) (rfl)) rfl rfl rfl rfl (WI.any (.move rfl) rfl rfl rfl rfl ?_))))))))
  refine WI.any (.idxS (n-1-k) underlying200 sz209 rfl rfl (rfl) (hi) (by omega)) rfl rfl rfl rfl (WI.rd (.loadR ag209 rfl (rws_blk hS hl hsum hc) (stopRows_at l (n-1-k) _ (getst l (by omega))) (by decide)) rfl rfl rfl rfl (WI.yield rfl rfl rfl (by rw[hi];exact hY (finL n k hk) ⟨n-1-k,by omega⟩ _ hJ (by rw[finL_length];omega)) ?_))
  rintro _ d (⟨rfl,hJ',hk'⟩|⟨rfl,hJx'⟩)
  ·refine⟨_,rfl,?_⟩
   refine WI.any (.not rfl) rfl rfl rfl rfl (WI.nil (E.thenN (WC.condF rfl (WC.skip (E.blkN (E.thenN (WC.region (W.run 1 rfl (W.a (.sub rfl rfl (by omega)) ?_)))))))))
   refine W.run 1 rfl (W.nil (E.again (k+1) (.cons rfl (.cons rfl (.cons' rfl (int_eq (by omega)) (.nil _)))) ?_ ?_))
   ·exact⟨c,by rw[finL_succ];exact hJ',hkp.1.trans hk'.1,hkp.2.trans hk'.2⟩
   first|omega|(simp only[];omega)
  refine⟨_,rfl,?_⟩
  refine WI.any (.not rfl) rfl rfl rfl rfl (WI.nil (E.thenN (WC.condT rfl (WC.ret (E.blkR (E.thenR (E.thenR (E.blkR (E.ret0 rfl ?_)))))))))
  exact⟨⟨_,rfl⟩,.inr ⟨_,trivial,hJx'⟩⟩
 have hkn:n=k:=by omega
 subst hkn
 refine WC.exit (E.thenX (E.thenX (E.blkH (E.end_ (E.ret0 rfl ?_)))))
 exact⟨⟨_,rfl⟩,.inl ⟨_,rfl,hJ⟩⟩

theorem back_seq {n gb gs cs:Nat}{cur:Array Value}{l:List Stop}(hl:l.length=n)(hn:n<=1000)(hsum:∀s∈l,s.2.length=32)(hc:cur.toList.take (n*33)=(stopRows l).flatten)(w:World)(hB:Blk w gb 200 #[.slice (some ⟨gs,0,none⟩) n cs])(hS:Blk w gs 209 cur):
    SeqStopsK (α:=Fin n) Fence.wide 2 prog 225 #[.pointer (some ⟨gb,0,none⟩)] (fun x=>#[.int .i64 ((x.val:Nat):Int),.agg (stopV (l.getD x.val (0,[]))).toArray]) (Kp2 gb gs) (fun xs=>xs=finL n n (Nat.le_refl n)) (fun _=>True) n w:=
  fun lp J Jx W hW _ _ hY b=>callsIn_wide.2 (back_in hl hn hsum hc J Jx hY W (hB.le hW) (hS.le hW) b)

theorem hopsOk_no (ks:List Nat)(hs:List Hop)(k:Nat)(hk:k<hs.length)(h:(mayB (hs.getD k noHop)&&decide (decide ((hs.getD k noHop).1<0)=decide (k+1=hs.length)))=false):hopsOk ks hs=false:=by
  rw[hopsOk,Bool.and_eq_false_iff]
  right
  rw[<-Bool.not_eq_true,List.all_eq_true]
  intro ha
  have:=ha k (List.mem_range.2 hk)
  rw[show(hs.getD k (0,0,0,0,0,0))=hs.getD k noHop from rfl,h]at this
  cases this
theorem hopsOk_yes (ks:List Nat)(hs:List Hop)(hl:hs.length=ks.length)(h:∀i,i<hs.length->(mayB (hs.getD i noHop)&&decide (decide ((hs.getD i noHop).1<0)=decide (i+1=hs.length)))=true):hopsOk ks hs=true:=by
  rw[hopsOk,decide_eq_true hl,Bool.true_and,List.all_eq_true]
  exact fun i hi=>h i (List.mem_range.1 hi)
theorem hopsOk_len (ks:List Nat)(hs:List Hop)(hl:¬hs.length=ks.length):hopsOk ks hs=false:=by rw[hopsOk,decide_eq_false hl,Bool.false_and]
theorem ptr_eq {A B:Option Addr}{n c:Nat}(h:A=B):Value.slice A n c=Value.slice B n c:=by rw[h]
theorem cut_lit (gr cr lo:Nat)(hlo:lo<=640)(hcr:640<=cr):∃o,cutA (some ⟨gr,0,none⟩) cr lo 1=some ⟨gr,o,none⟩/\(o=lo\/(o=0/\lo=640)):=by
  unfold cutA
  split
  · exact⟨0,rfl,.inr ⟨rfl,by omega⟩⟩
  · exact⟨lo,by simp[add_lit],.inl rfl⟩
theorem put_row (cur:Array Value)(cr o:Nat)(r f:List Byte)(hs:cur.size=cr*1)(hr:r.length=640)(hcr:640<=cr)(hc:cur.toList.take (640*1)=r.map u8v)(hf:f.length<=640)(ho:o=640-f.length\/(o=0/\640-f.length=640)):
    (cur.toList.take o++f.map u8v++cur.toList.drop (o+(f.map u8v).length)).toArray.size=cr*1/\(cur.toList.take o++f.map u8v++cur.toList.drop (o+(f.map u8v).length)).toArray.toList.take (640*1)=(put r f).map u8v:=by
  have hl:cur.toList.length=cr:=by simp[hs]
  rcases ho with ho|⟨ho,hz⟩
  · subst ho
    refine⟨by simp[hs];omega,?_⟩
    have b:(cur.toList.take (640-f.length)++f.map u8v).length=640:=by simp[hs];omega
    rw[List.toList_toArray,Nat.mul_one,List.take_left' b,put,List.map_append,hr,List.map_take,<-hc,List.take_take]
    congr 2
    omega
  · have c:f=[]:=List.eq_nil_of_length_eq_zero (by omega)
    subst ho c
    refine⟨by simp[hs],?_⟩
    simp only[List.take_zero,List.map_nil,List.nil_append,List.length_nil,Nat.add_zero,List.drop_zero,List.toList_toArray]
    rw[hc,put,hr];simp[List.take_of_length_le (Nat.le_of_eq hr)]

set_option maxHeartbeats 4000000 in
theorem wrap_ok (seed:List Byte) (hse:seed.length=32) {A Ah:Option Addr} {n c nh ch:Nat} {ks:List Nat} {hs:List Hop} (w:World) (hK:Sl w 1 A n (ks.map pv)) (hks:∀k∈ks,k<18446744073709551616) (hn:n<=1000000) (hH:Rws w 6 Ah nh (hs.map hopV)) (hhs:∀h∈hs,HopOk h) (_hnh:nh<=1000000):Calls prog 52 #[.slice A n c,.slice Ah nh ch,.agg (seed.map u8v).toArray] w (fun e w'=>Le w w'/\(((keysOk ks&&hopsOk ks hs)=true/\∃A' c',e= .returned (.tuple #[.slice A' 680 c',.int .i64 0])/\Sx.Own w' w.heap.size 5 1 A' 680 c' ((wrapB ks hs seed).map u8v))\/((keysOk ks&&hopsOk ks hs)=false/\e= .returned (.tuple #[.slice none 0 0,.int .i64 1])))):=by
 refine enterM func52 rfl rfl ?_
 have L0:=Le.refl w
 refine WC.sr (W.ef rfl rfl rfl (Ef.box rfl fun I ba b6 aI aJ=>?_))
 have bb:=L0.trans aJ
 have bH:Blk ba I 101 #[.slice Ah nh ch]:=aI
 refine W.ef rfl rfl rfl (Ef.boxA rfl fun aK P b7 bc ac=>?_)
 have b8:=bb.trans ac
 have bH:=bH.le ac
 have bS:Blk P aK 30 (seed.map u8v).toArray:=bc
 have m:=aJ.trans ac
 have LL:=Le.refl P
 have ao:=hK.1
 rw[List.length_map,Nat.mul_one]at ao
 have hhl:=hH.1
 rw[List.length_map]at hhl
 refine W.run 2 rfl (W.nx (WC.sr (W.run 1 rfl (W.r (.loadAll ag30 (by simp[hse]) rfl (bS)) ?_))))
 by_cases hk:keysOk ks=true
 ·refine W.cl go123 rfl rfl (way_T seed hse P (hK.le m) hks hn hk) ?_
  rintro _ bd ⟨A2,c2,rfl,o2,Q⟩
  have ap:=LL.trans Q
  refine W.run 1 rfl (W.a (.extract rfl rfl) ?_)
  refine W.a (.extract rfl rfl) ?_
  refine W.ef rfl rfl rfl (Ef.alloc z200 fun z be aq ad ae=>?_)
  have ar:=ap.trans ae
  refine W.ef0 rfl rfl (Ef.store sz200 rfl rfl (ad) (by decide) (rfl) fun J aL Y=>?_)
  have j:Le P J:=ar.tb Y Q aq
  have aM:1<=n/\n<=8:=by rw[keysOk]at hk;simp at hk;omega
  have bf:=o2.cap.1
  obtain⟨gs,rfl,hgs,b9,hgrow⟩:=o2.lit (by omega)
  obtain⟨cur,hcur,hcsz,hctk⟩:=o2.block (by omega)
  have hcur:=(hcur.le ae).ch Y (by simp;omega)
  have bL:Blk J z 200 #[.slice (some ⟨gs,0,none⟩) n c2]:=aL
  have hll:(wayB (startX seed) ks).length=n:=by rw[wayB_length];exact ao
  have hsum:=wayB_sum ks (startX seed)
  have hwr:wrapB ks hs seed=packetB (base (startX seed)) (wrapR (padO seed) [] (wayB (startX seed) ks) hs):=rfl
  have hfst:((wayB (startX seed) ks).getD 0 (0,[])).1=base (startX seed):=by
   cases ks with
   |nil=>simp at ao;omega
   |cons k ks=>rfl
  generalize wayB (startX seed) ks=l at*
  refine W.run 1 rfl (W.nx (WC.seq (WC.sr (W.run 3 rfl (W.g (.loadB na101 rfl (bH.le j) (rfl)) ?_)))))
  refine W.g (.len underlying101 rfl) ?_
  refine W.g (.loadB na200 rfl (bL.le (Le.refl _)) (rfl)) ?_
  refine W.g (.len underlying200 rfl) ?_
  by_cases hln:nh=n
  ·refine W.g (Any.rd (.dec (.neq rfl rfl) (dF (by omega))) _) ?_
   refine W.run 1 rfl (W.nx (WC.condF rfl (WC.sn (WC.seq (WC.sr (W.r (.loadB na101 rfl (bH.le j) (rfl)) ?_))))))
   refine W.r (.len underlying101 rfl) ?_
   refine W.run 1 rfl (W.nx (WC.block (WC.loop (ι:=Nat) (fun k=>[(4,.pointer (some ⟨I,0,none⟩)),(5,.pointer (some ⟨aK,0,none⟩)),(8,.pointer (some ⟨z,0,none⟩)),(32,.slice Ah nh ch),(33,.int .i64 (nh:Int)),(34,.int .i64 (k:Int))]) (fun k wl=>k<=nh/\Le J wl/\∀i,i<k->(mayB (hs.getD i noHop)&&decide (decide ((hs.getD i noHop).1<0)=decide (i+1=hs.length)))=true) (fun k=>nh-k) 0 ?_ ?_ ?_)))
   ·exact .cons rfl (.cons rfl (.cons rfl (.cons rfl (.cons rfl (.cons rfl (.nil _))))))
   ·exact⟨Nat.zero_le _,Le.refl _,fun i hi=>by omega⟩
   rintro k wl ⟨hkn,Ll,hall⟩
   refine WC.sr (W.run 1 rfl (W.nx (WC.seq (WC.cond rfl (fun c1=>?_) (fun c1=>?_)))))
   ·have hkh:=geth hs (show k<hs.length by omega)
    have hho:HopOk (hs.getD k noHop):=hhs _ (List.mem_of_getElem? hkh)
    refine WC.sn (WC.seq (WC.block (WC.sr (W.run 1 rfl (W.a (.idxS (k) underlying101 sz109 rfl rfl (hH.isSome (by omega) (by decide)) (rfl) (by omega)) ?_)))))
    refine W.r (.loadR ag109 rfl (hH.le (m.trans (j.trans Ll))) (hopRows_at hs k (by omega)) (by decide)) ?_
    refine W.ef rfl rfl rfl (Ef.allocA z109 fun ca cb bg bh bi=>?_)
    have bj:=Ll.trans bi
    refine W.run 1 rfl (W.ef0 rfl rfl (Ef.storeAll sz109 (by rfl) rfl rfl (bh) (by rfl) (hopV_one _) ?_))
    intro au aO bk
    have aP:Le J au:=bj.tb bk Ll bg
    refine W.nx (WC.sr (W.r (.loadAll ag109 (by rfl) rfl (aO)) ?_))
    by_cases hy:mayB (hs.getD k noHop)=true
    ·refine W.cl go124 rfl rfl (may_T _ hho hy au) ?_
     rintro _ bl ⟨rfl,af⟩
     have Z:=aP.trans af
     refine W.run 2 rfl (W.g (Any.rd (.field0 fa109_0 rfl) _) ?_)
     refine W.g (.loadB na3 rfl (aO.le af) (rfl)) ?_
     refine W.run 2 rfl (W.g (.loadB na101 rfl (bH.le (j.trans Z)) (rfl)) ?_)
     refine W.g (.len underlying101 rfl) ?_
     refine W.g (Any.rd (.sub rfl rfl (by omega)) _) ?_
     refine W.run 1 rfl ?_
     by_cases hb:decide ((hs.getD k noHop).1<0)=decide ((k:Int)=(nh:Int)-1)
     ·refine W.g (Any.rd (.dec (.bneq underlying4 rfl rfl) (show _=false from by rw[hb];simp)) _) ?_
      have av:decide (decide ((hs.getD k noHop).1<0)=decide (k+1=hs.length))=true:=by rw[hb];exact dT (decide_eq_decide.2 (by omega))
      refine W.run 1 rfl (W.nx (WC.condF rfl (WC.skip (E.blkN (E.thenN (WC.region (W.a (.add rfl rfl (by omega)) ?_)))))))
      refine W.run 1 rfl (W.nil (E.again (k+1) (.cons rfl (.cons rfl (.cons rfl (.cons rfl (.cons rfl (.cons rfl (.nil _))))))) ?_ ?_))
      ·exact⟨by omega,Z,fun i hi=>by
        by_cases hik:i<k
        ·exact hall i hik
        have hik:i=k:=by omega
        subst hik
        rw[hy,Bool.true_and]
        exact av⟩
      first|omega|(simp only[];omega)
     refine W.g (Any.rd (.dec (.bneq underlying4 rfl rfl) (show _=true from by rw[beq_eq_false_iff_ne.2 hb];rfl)) _) ?_
     have av:decide (decide ((hs.getD k noHop).1<0)=decide (k+1=hs.length))=false:=dF (fun h=>hb (by rw[h];exact decide_eq_decide.2 (by omega)))
     refine W.run 1 rfl (W.nx (WC.condT rfl (WC.sr (W.run 2 rfl (W.nx (WC.ret (E.blkR (E.thenR (E.thenR (E.blkR (E.thenR (E.retM2 rfl rfl rfl ?_))))))))))))
     exact⟨m.trans (j.trans Z),.inr ⟨by rw[hk,Bool.true_and];exact hopsOk_no ks hs k (by omega) (by rw[hy,Bool.true_and];exact av),rfl⟩⟩
    refine W.cl go124 rfl rfl (may_F _ hho (by simpa using hy) au) ?_
    rintro _ bl ⟨rfl,af⟩
    have Z:=aP.trans af
    refine W.run 12 rfl (W.nx (WC.condT rfl (WC.sr (W.run 2 rfl (W.nx (WC.ret (E.blkR (E.thenR (E.thenR (E.blkR (E.thenR (E.retM2 rfl rfl rfl ?_))))))))))))
    exact⟨m.trans (j.trans Z),.inr ⟨by rw[hk,Bool.true_and];exact hopsOk_no ks hs k (by omega) (by rw[show mayB (hs.getD k noHop)=false by simpa using hy,Bool.false_and]),rfl⟩⟩
   have hkk:nh=k:=by omega
   subst hkk
   refine WC.exit (E.thenX (E.thenX (E.blkH (E.thenN (WC.sr (W.a (.cutArr underlying30 sz5 rfl) ?_))))))
   refine W.ef rfl rfl rfl (Ef.buildSlice1 underlying157 el26 rfl rfl fun cc bm cd bn bo=>?_)
   have aQ:=Ll.trans bo
   refine W.cl go21 rfl rfl (tag_ok _ nPad bm (ps:=[seed]) rfl (bn.sl (s:=1) (n:=1) rfl) (.cons ((bS.le (j.trans aQ)).sb hse) (.nil _)) (by rw[tagLen1,hse];decide)) ?_
   rintro _ bp ⟨rfl,bq⟩
   have aR:=aQ.trans bq
   refine W.cl go125 rfl rfl (stream_ok _ (tag_length _ _) 640 (by decide) bp) ?_
   rintro _ ce ⟨A3,c3,rfl,o3,bs⟩
   have ah:=aR.trans bs
   refine W.ef rfl rfl rfl (Ef.alloc z26 fun K cg aS aT aU=>?_)
   have bt:=ah.trans aU
   refine W.ef0 rfl rfl (Ef.store sz26 rfl rfl (aT) (by decide) (rfl) fun aV bu aw=>?_)
   have ax:Le J aV:=bt.tb aw ah aS
   have bR:Blk aV K 26 #[.slice A3 640 c3]:=bu
   have oR:=((o3.mono (m.trans (j.trans aR)).size).le aU).ch aw (fun q hq=>by cases hq;exact fun he=>by have:=(o3.row he).2;omega)
   refine W.nx (WC.sr (W.ef rfl rfl rfl (Ef.allocA z30 fun R aW aX aY ay=>?_)))
   have aZ:=ax.trans ay
   have bM:Blk aW R 30 ((zeros 32).map u8v).toArray:=aY
   refine W.nx (WC.seq (WC.sr (W.r (.loadB na200 rfl (bL.le aZ) (rfl)) ?_)))
   refine W.cl go126 rfl rfl (backward_ok _ rfl aW) ?_
   rintro _ ws ⟨gb,rfl,hgb,bB,ai⟩
   have aj:=aZ.trans ai
   have bM:=bM.le ai
   have bR:=bR.le (ay.trans ai)
   have oR:=oR.le (ay.trans ai)
   have bH:=bH.le (j.trans aj)
   have bL:=bL.le aj
   have hcur:=hcur.le aj
   have hLs:Le w ws:=m.trans (j.trans aj)
   have hpl:(padO seed).length=640:=stream_length _ _
   have hok:(keysOk ks&&hopsOk ks hs)=true:=by rw[hk,Bool.true_and];exact hopsOk_yes ks hs (by omega) (fun i hi=>hall i (by omega))
   have d1:I<z/\z<K/\K<R/\R<gb/\gs<z/\I<gs:=by
    have:=aI.lt;have:=ac.size;have:=Q.size;have:=ad.lt;have:=Y.size;have:=ah.size;have:=aT.lt;have:=aw.size;have:=aY.lt;exact⟨by omega,by omega,by omega,by omega,by omega,by omega⟩
   refine W.nx (WC.block ?_)
   refine WC.range (α:=Fin n) (N:=n) rfl go225 rfl rfl (back_seq hll (by omega) hsum hctk ws bB hcur) (fun h k=>⟨h.1.trans k.1,h.2.trans k.2⟩) (fun Wd q o o' hq _ _ _=>⟨(World.putObj_heap_other (by have:=bB.lt;omega)).symm,(World.putObj_heap_other (by have:=hcur.lt;omega)).symm⟩)
    (fun(pre:List (Fin n)) Wd=>Le w Wd/\ws.heap.size<=Wd.heap.size/\Blk Wd I 101 #[.slice Ah nh ch]/\Blk Wd z 200 #[.slice (some ⟨gs,0,none⟩) n c2]/\Blk Wd gb 200 #[.slice (some ⟨gs,0,none⟩) n c2]/\Blk Wd gs 209 cur/\Blk Wd R 30 ((foldR l hs (padO seed) (pre.map Fin.val)).2.map u8v).toArray/\∃Ar cr,Blk Wd K 26 #[.slice Ar 640 cr]/\Sx.Own Wd w.heap.size 5 1 Ar 640 cr ((foldR l hs (padO seed) (pre.map Fin.val)).1.map u8v)) (fun pre Wd W' row ⟨i1,i0,i2,i3,i4,i5,i6,Ar,cr,i7,i8⟩ hg hr=>⟨i1.then_ hg (fun q e=>Nat.le_trans hLs.size (hr q e).1),Nat.le_trans i0 hg.size,i2.grown hg (fun r e=>(hr r e).2),i3.grown hg (fun r e=>(hr r e).2),i4.grown hg (fun r e=>(hr r e).2),i5.grown hg (fun r e=>(hr r e).2),i6.grown hg (fun r e=>(hr r e).2),Ar,cr,i7.grown hg (fun r e=>(hr r e).2),i8.grown (by decide) hg (fun r e=>(hr r e).2)⟩)
    ⟨hLs,Nat.le_refl _,bH,bL,bB,hcur,bM,A3,c3,bR,oR⟩ (fun(x:Fin n) b=>[(4,.pointer (some ⟨I,0,none⟩)),(8,.pointer (some ⟨z,0,none⟩)),(12,.pointer (some ⟨K,0,none⟩)),(13,.pointer (some ⟨R,0,none⟩)),(14,.int .i64 ((x.val:Nat):Int)),(15,.pointer (some ⟨b,0,none⟩))]) (fun x b Wd=>ws.heap.size<=b/\Blk Wd b 209 (stopV (l.getD x.val (0,[]))).toArray) (fun x b s Wd W' row h hg hr=>⟨h.1,h.2.grown hg (fun r e=>(hr r e).2)⟩) ?_ ?_ ?_
   ·intro lp pre x Wd hI
    obtain⟨i1,i0,i2,i3,i4,i5,i6,Ar,cr,i7,i8⟩:=hI
    have LB:=Le.refl Wd
    have v:=hsum _ (List.mem_of_getElem? (getst l (show x.val<l.length by rw[hll];exact x.2)))
    refine RC.seq (RC.region rfl (fun⟨_,_,h⟩=>h) (W.run 1 rfl (W.nil (RC.thenN (RC.region rfl (fun⟨_,_,h⟩=>h) (W.ef rfl rfl rfl ?_))))))
    refine Ef.allocA z209 fun bv ci a0 bw bx=>?_
    have bz:=LB.trans bx
    refine W.ef0 rfl rfl (Ef.storeAll sz209 (by rw[List.size_toArray,stopV_length _ v]) rfl rfl (bw) (by rw[show(stopV (l.getD x.val (0,[]))).toArray.size=33 by rw[List.size_toArray,stopV_length _ v]];rfl) (stopV_one _) ?_)
    intro bA bC bD
    have t:Le Wd bA:=bz.then_ bD (fun q hq=>by cases hq;exact a0)
    refine W.nil ?_
    exact fun a' ha'=>⟨bv,ha'.sub (.cons rfl (.cons rfl (.cons rfl (.cons rfl (.cons rfl (.cons rfl (.nil _))))))),⟨Nat.le_trans i0 a0,bC⟩,KeepsFrom.of_le t,⟨i4.trans (i4.le t).symm,i5.trans (i5.le t).symm⟩,i1.trans t,Nat.le_trans i0 (t).size,i2.le t,i3.le t,i4.le t,i5.le t,i6.le t,Ar,cr,i7.le t,i8.le t⟩
   ·intro lp pre x b Wd hI hbx hpre
    obtain⟨i1,i0,i2,i3,i4,i5,i6,Ar,cr,i7,i8⟩:=hI
    obtain⟨cj,i9⟩:=hbx
    have LB:=Le.refl Wd
    have hxs:=getst l (show x.val<l.length by rw[hll];exact x.2)
    have v:=hsum _ (List.mem_of_getElem? hxs)
    have hfl:=foldR_len l hs (padO seed) hpl (by omega) (by omega) (pre.map Fin.val)
    obtain⟨st,hst⟩:∃st,st=foldR l hs (padO seed) (pre.map Fin.val):=⟨_,rfl⟩
    rw[<-hst]at i6 i8 hfl
    obtain⟨s,hsd⟩:∃s,s=l.getD x.val (0,[]):=⟨_,rfl⟩
    rw[<-hsd]at v i9
    obtain⟨h,hhd⟩:∃h,h=hs.getD x.val noHop:=⟨_,rfl⟩
    have hlayl:=layer_length s h st.2 st.1 hfl.2 hfl.1
    have hstep:foldR l hs (padO seed) ((pre++[x]).map Fin.val)=stepR l hs st x.val:=by rw[List.map_append,List.map_cons,List.map_nil,foldR_snoc,hst]
    refine RC.block (RC.seq (RC.draw [0,1,2,3,5,6,7,10,4,8,9,11,12,13] mixed (by kernel_rfl) rfl fun bE bF=>?_))
    have aa:=LB.trans bF
    refine G.r rfl (.loadB na101 rfl (i2.le aa) (rfl)) ?_
    refine G.run 1 rfl (G.a rfl (.idxS (x.val) underlying101 sz109 rfl rfl (hH.isSome (by have:=x.2;omega) (by decide)) (rfl) (by have:=x.2;omega)) ?_)
    refine G.r rfl (.as (Rd.loadR ag109 rfl (hH.le (i1.trans aa)) (hopRows_at hs x.val (by have:=x.2;omega)) (by decide)) (show _=Value.agg (hopV h).toArray by rw[hhd])) ?_
    refine G.a rfl (.cutArr underlying30 sz5 rfl) ?_
    refine G.r rfl (.loadB na26 rfl (i7.le aa) (rfl)) ?_
    refine G.a rfl (.cutH (560) underlying26 sz5 rfl rfl (rfl) (by have:=i8.cap.1;omega)) ?_
    refine G.r rfl (.loadAll ag209 (by simp[stopV,v]) rfl (i9.le aa)) ?_
    refine G.ef rfl rfl rfl rfl rfl (Ef.call go129 rfl rfl (lay_ok h bE) ?_)
    rintro _ ck ⟨A4,c4,rfl,o4,a1⟩
    refine⟨_,rfl,?_⟩
    have bG:=aa.trans a1
    refine⟨fun _=>a1,?_⟩
    refine G.ef rfl rfl rfl rfl rfl (Ef.buildSliceN [_,_,_] underlying157 el26 rfl one3 rfl (by decide) (by decide) fun cm bI co bJ az=>?_)
    have aA:=bG.trans az
    refine⟨fun _=>az,?_⟩
    refine G.ef rfl rfl rfl rfl rfl (Ef.call go128 rfl rfl (concat_to (layB h++st.2++st.1.take 560) 640 bI (bJ.sl (s:=1) (n:=3) rfl) (.cons (o4.le az).sb (.cons ((i6.le aA).sb hfl.2) (.cons ((i8.le aA).sb.cutH 560 (by decide)) (.nil _)))) (by simp) (by simp[layB_length,hfl.1,hfl.2]) (by decide) (by decide) (by decide)) ?_)
    rintro _ bK ⟨A9,c9,rfl,o9,a2⟩
    refine⟨_,rfl,?_⟩
    have bN:=aA.trans a2
    refine⟨fun _=>a2,?_⟩
    refine G.ef rfl rfl rfl rfl rfl (Ef.call go130 rfl rfl (rho_ok s v 640 (by decide) bK) ?_)
    rintro _ aB ⟨cp,cq,rfl,bO,aC⟩
    refine⟨_,rfl,?_⟩
    have S:=bN.trans aC
    refine⟨fun _=>aC,?_⟩
    refine G.ef rfl rfl rfl rfl rfl (Ef.call go127 rfl rfl (xor_ok aB (o9.le aC).sb bO.sb (by decide)) ?_)
    rintro _ bP ⟨a3,ab,rfl,ak,a4⟩
    refine⟨_,rfl,?_⟩
    have a5:=S.trans a4
    refine⟨fun _=>a4,?_⟩
    have ak:Sx.Own bP aB.heap.size 5 1 a3 640 ab ((layer s h st.2 st.1).map u8v):=ak
    have C:=a5
    refine G.ef0 rfl rfl rfl rfl (Ef.store sz26 rfl rfl (i7.le a5) (by simp) (rfl) ?_)
    intro T bQ F
    refine noT (by kernel_rfl) ?_
    have L:Blk T K 26 #[.slice a3 640 ab]:=bQ
    have hszW:=i0
    have j2:=(i2.le C).ch F (by simp;omega)
    have U:=(i3.le C).ch F (by simp;omega)
    have V:=(i4.le C).ch F (by simp;omega)
    have O:=(i5.le C).ch F (by simp;omega)
    have X:=(i6.le C).ch F (by simp;omega)
    have j9:=(i9.le C).ch F (by simp;have:=bR.lt;omega)
    have y:=ak.ch F (fun q hq=>by cases hq;exact fun he=>by have:=(ak.row he).1;have:=S.size;have:=i7.lt;omega)
    obtain⟨gr,rfl,a6,cs,ct⟩:=y.lit (by decide)
    have hWs:=S.size
    have hgrb:I≠gr/\z≠gr/\gb≠gr/\gs≠gr/\R≠gr/\b≠gr/\K≠gr:=by have:=i2.lt;have:=i3.lt;have:=i4.lt;have:=i5.lt;have:=i6.lt;have:=i9.lt;have:=i7.lt;exact⟨by omega,by omega,by omega,by omega,by omega,by omega,by omega⟩
    have kf:KeepsFrom ws.heap.size Wd T:=(KeepsFrom.of_le C).trans (KeepsFrom.of_ch F (i7.le C))
    have j1:Le w T:=(i1.trans C).then_ F (fun q hq=>by cases hq;exact Nat.le_trans (m.trans (j.trans ah)).size aS)
    have LC:=Le.refl T
    refine G.nil (RC.thenN (RC.seq (RC.seq (RC.region rfl (fun⟨_,_,h⟩=>h) (W.run 1 rfl ?_)))))
    refine W.r (.loadB na200 rfl (U.le LC) (rfl)) ?_
    refine W.r (.len underlying200 rfl) ?_
    refine W.a (.sub rfl rfl (by omega)) ?_
    refine W.run 1 rfl (W.nil (RC.thenN (RC.cond rfl (fun c3=>?_) (fun c3=>?_))))
    ·have hlast:x.val+1=l.length:=by omega
     refine RC.seq (RC.region rfl (fun⟨_,_,h⟩=>h) (W.r (.loadB na200 rfl (U.le LC) (rfl)) ?_))
     refine W.cl go131 rfl rfl (filler_ok T (rws_blk O hll hsum hctk) hsum aM.1 aM.2 bf) ?_
     rintro _ cv ⟨Af,cf,rfl,of,u⟩
     have bT:=LC.trans u
     have hfil:=filler_length l (by omega) (by omega)
     rw[hll]at hfil
     refine W.run 1 rfl (W.nil (RC.thenN (RC.region rfl (fun⟨_,_,h⟩=>h) (W.r (.loadB na26 rfl (L.le bT) (rfl)) ?_))))
     refine W.run 1 rfl (W.r (.len underlying26 rfl) ?_)
     refine W.a (.sub rfl rfl (by omega)) ?_
     obtain⟨oo,hoo,bU⟩:=cut_lit gr ab (640-80*(n-1)) (by omega) y.cap.1
     refine W.a (.as (Any.cutL (640-80*(n-1)) underlying26 sz5 rfl rfl (by omega) (by omega) y.cap.1) (ptr_eq hoo)) ?_
     refine W.run 1 rfl ?_
     obtain⟨cu,hcu,hcus,hcut⟩:=(y.le u).block (by decide)
     have bV:((filler l).map u8v).length=80*(n-1):=by rw[List.length_map,hfil]
     refine W.ef rfl rfl rfl (Ef.copy underlying26 sz5 rfl hcu rfl (of.sb.src underlying26 _) (by omega) (by rw[bV,hcus];have:=y.cap.1;omega) ?_)
     intro al bW H
     have hpr:=put_row cu ab oo (layer s h st.2 st.1) (filler l) hcus hlayl y.cap.1 hcut (by omega) (by rw[hfil];exact bU.imp id (fun h=>⟨h.1,by omega⟩))
     have a7:Sx.Own al aB.heap.size 5 1 (some ⟨gr,0,none⟩) 640 ab ((put (layer s h st.2 st.1) (filler l)).map u8v):=⟨by rw[List.length_map,put_length _ _ (by omega),hlayl],.inr ⟨gr,_,rfl,a6,bW,y.cap.1,y.cap.2,hpr.1,hpr.2⟩⟩
     have j2:=(j2.le u).ch H (by simp;omega)
     have U:=(U.le u).ch H (by simp;omega)
     have V:=(V.le u).ch H (by simp;omega)
     have O:=(O.le u).ch H (by simp;omega)
     have X:=(X.le u).ch H (by simp;omega)
     have j9:=(j9.le u).ch H (by simp;omega)
     have L:=(L.le u).ch H (by simp;omega)
     have kf:=kf.trans ((KeepsFrom.of_le u).trans (KeepsFrom.of_ch H hcu))
     have j1:Le w al:=(j1.trans u).then_ H (fun q hq=>by cases hq;exact Nat.le_trans (i1.trans S).size a6)
     have LE:=Le.refl al
     refine W.nil (RC.thenN (RC.region rfl (fun⟨_,_,h⟩=>h) (W.r (.loadAll ag209 (by simp[stopV,v]) rfl (j9.le LE)) ?_)))
     refine W.r (.loadB na26 rfl (L.le LE) (rfl)) ?_
     refine W.cl go132 rfl rfl (mac_ok s v al (a7.le LE).sb (by decide)) ?_
     rintro _ bX ⟨rfl,d⟩
     have aE:=LE.trans d
     refine W.ef0 rfl rfl (Ef.storeAll sz30 (by simp[macB_length]) rfl rfl (X.le aE) (by simp[macB_length,hfl.2]) (all_u8v _) ?_)
     intro bY aF f
     have hw:stepR l hs st x.val=(put (layer s h st.2 st.1) (filler l),macB s (put (layer s h st.2 st.1) (filler l))):=by rw[stepR,<-hsd,<-hhd];simp only[if_pos hlast]
     refine W.nil (E.blkN ?_)
     exact fun a' _=>⟨kf.trans ((KeepsFrom.of_le d).trans (KeepsFrom.of_ch f (X.le d))),⟨i4.trans ((V.le d).ch f (by simp;omega)).symm,i5.trans ((O.le d).ch f (by simp;omega)).symm⟩,(j1.trans d).then_ f (fun q hq=>by cases hq;exact Nat.le_trans (m.trans (j.trans ax)).size aX),Nat.le_trans i0 (Nat.le_trans kf.size (Nat.le_trans d.size f.size)),(j2.le d).ch f (by simp;omega),(U.le d).ch f (by simp;omega),(V.le d).ch f (by simp;omega),(O.le d).ch f (by simp;omega),by rw[hstep,hw];exact aF,_,_,(L.le d).ch f (by simp;omega),by rw[hstep,hw];exact((a7.mono (Nat.le_trans i1.size S.size)).le d).ch f (fun q hq=>by cases hq;exact fun he=>by have:=rowOf_lit he;omega)⟩
    have hlast:¬x.val+1=l.length:=by omega
    refine RC.skip (RC.thenN (RC.region rfl (fun⟨_,_,h⟩=>h) (W.r (.loadAll ag209 (by simp[stopV,v]) rfl (j9.le LC)) ?_)))
    refine W.r (.loadB na26 rfl (L.le LC) (rfl)) ?_
    refine W.cl go132 rfl rfl (mac_ok s v T (y.le LC).sb (by decide)) ?_
    rintro _ bX ⟨rfl,d⟩
    have aE:=LC.trans d
    refine W.ef0 rfl rfl (Ef.storeAll sz30 (by simp[macB_length]) rfl rfl (X.le aE) (by simp[macB_length,hfl.2]) (all_u8v _) ?_)
    intro bY aF f
    have hw:stepR l hs st x.val=(layer s h st.2 st.1,macB s (layer s h st.2 st.1)):=by rw[stepR,<-hsd,<-hhd];simp only[if_neg hlast]
    refine W.nil (E.blkN ?_)
    exact fun a' _=>⟨kf.trans ((KeepsFrom.of_le d).trans (KeepsFrom.of_ch f (X.le d))),⟨i4.trans ((V.le d).ch f (by simp;omega)).symm,i5.trans ((O.le d).ch f (by simp;omega)).symm⟩,(j1.trans d).then_ f (fun q hq=>by cases hq;exact Nat.le_trans (m.trans (j.trans ax)).size aX),Nat.le_trans i0 (Nat.le_trans kf.size (Nat.le_trans d.size f.size)),(j2.le d).ch f (by simp;omega),(U.le d).ch f (by simp;omega),(V.le d).ch f (by simp;omega),(O.le d).ch f (by simp;omega),by rw[hstep,hw];exact aF,_,_,(L.le d).ch f (by simp;omega),by rw[hstep,hw];exact((y.mono (Nat.le_trans i1.size S.size)).le d).ch f (fun q hq=>by cases hq;exact fun he=>by have:=rowOf_lit he;omega)⟩
   intro D xs Wd hD hxs hI hdef
   subst hxs
   obtain⟨i1,i0,i2,i3,i4,i5,i6,Ar,cr,i7,i8⟩:=hI
   have LB:=Le.refl Wd
   rw[finL_val,<-hll,foldR_all l hs (padO seed) (by omega) (by omega)]at i6 i8
   have hwl:=wrapR_length (padO seed) hpl l hs [] (by omega) (by simp;omega)
   generalize wrapR (padO seed) [] l hs=rm at*
   have bZ:cur[0]? =some (.int .u64 ((base (startX seed):Nat):Int)):=by
    have h1:(cur.toList.take (n*33))[0]? =((stopRows l).flatten)[0]? :=by rw[hctk]
    have h2:=flat_at (stopRows l) (stopRows_len l hsum) 0 _ (stopRows_at l 0 _ (getst l (by omega))) 0 _ (show(stopV (l.getD 0 (0,[])))[0]? =some (.int .u64 (((l.getD 0 (0,[])).1:Nat):Int))from rfl)
    rw[hfst]at h2
    rw[List.getElem?_take,if_pos (by omega)]at h1
    simp only[Nat.zero_mul,Nat.zero_add]at h2
    rw[h2]at h1
    simpa using h1
   refine DE.blkN (DE.thenN (DC.seq (DC.draw [0,1,2,3,5,6,4,7,8,9,10] mixed (by kernel_rfl) fun b0 b1=>?_)))
   have am:=LB.trans b1
   refine GD.rd rfl rfl (.loadB na200 rfl (i3.le am) (rfl)) rfl rfl rfl (GD.any rfl rfl (.as (Any.idxB 0 underlying200 sz209 rfl rfl rfl (by omega)) rfl) rfl rfl rfl (GD.any rfl rfl (.field0 fa209_0 rfl) rfl rfl rfl (GD.rd rfl rfl (.loadB na43 rfl (i5.le am) (bZ)) rfl rfl rfl (GD.rd rfl rfl (.loadB na26 rfl (i7.le am) (rfl)) rfl rfl rfl (GD.any rfl rfl (.cutArr underlying30 sz5 rfl) rfl rfl rfl ?_)))))
   refine GD.ef rfl rfl rfl rfl rfl (Ef.call go133 rfl rfl (eight_ok (base (startX seed)) b0) ?_)
   rintro _ cw ⟨g4,rfl,cx,B4,a8⟩
   refine⟨_,rfl,?_⟩
   have b2:=am.trans a8
   refine⟨fun _=>a8,?_⟩
   refine GD.ef rfl rfl rfl rfl rfl (Ef.buildSliceN [_,_,_] underlying157 el26 rfl one3 rfl (by decide) (by decide) fun cy b3 cz b4 aG=>?_)
   have an:=b2.trans aG
   refine⟨fun _=>aG,?_⟩
   refine GD.ef rfl rfl rfl rfl rfl (Ef.call go128 rfl rfl (concat_to (wrapB ks hs seed) 680 b3 (b4.sl (s:=1) (n:=3) rfl) (.cons ((B4.le aG).sb (be8_length _)) (.cons (i8.le an).sb (.cons ((i6.le an).sb hwl.2) (.nil _)))) (by rw[hwr,packetB];simp) (by rw[hwr];exact packetB_length _ _ hwl.1 hwl.2) (by decide) (by decide) (by decide)) ?_)
   rintro _ cA ⟨A8,c8,rfl,o8,a9⟩
   refine⟨_,rfl,?_⟩
   have aH:=an.trans a9
   refine⟨fun _=>a9,?_⟩
   refine GD.any rfl rfl (.assign rfl) rfl rfl rfl (GD.any rfl rfl (.assign rfl) rfl rfl rfl (GD.nil (DE.thenN (DC.ret (retM_mark rfl rfl rfl (((aH.ch none).block D (Array.getElem?_eq_some_iff.1 hdef).1 (by simp)).trans hdef) ?_)))))
   have b5:=((aH.ch none).block D (Array.getElem?_eq_some_iff.1 hdef).1 (by simp)).trans hdef
   exact⟨(i1.trans aH).then_ (grownBy_putObj' _ D _) (fun q hq=>by cases hq;exact Nat.le_trans hLs.size hD),.inl ⟨hok,A8,c8,rfl,(o8.mono (i1.trans an).size).grown (by decide) (grownBy_putObj' _ D _) (fun q hq=>by cases hq;exact⟨_,b5,rfl⟩)⟩⟩
  refine W.g (Any.rd (.dec (.neq rfl rfl) (dT (by omega))) _) ?_
  refine W.run 1 rfl (W.nx (WC.condT rfl (WC.sr (W.run 2 rfl (W.nx (WC.ret (E.thenR (E.retM2 rfl rfl rfl ?_))))))))
  exact⟨m.trans j,.inr ⟨by rw[hk,Bool.true_and];exact hopsOk_len ks hs (by omega),rfl⟩⟩
 refine W.cl go123 rfl rfl (way_F seed hse P (hK.le m) hks hn (by simpa using hk)) ?_
 rintro _ bd ⟨rfl,Q⟩
 have ap:=LL.trans Q
 refine W.run 1 rfl (W.a (.extract rfl rfl) ?_)
 refine W.a (.extract rfl rfl) ?_
 refine W.ef rfl rfl rfl (Ef.alloc z200 fun z be aq ad ae=>?_)
 have ar:=ap.trans ae
 refine W.ef0 rfl rfl (Ef.store sz200 rfl rfl (ad) (by decide) (rfl) fun J aL Y=>?_)
 have j:Le P J:=ar.tb Y Q aq
 refine W.run 1 rfl (W.nx (WC.seq (WC.sr (W.run 9 rfl (W.nx (WC.condT rfl (WC.sr (W.run 2 rfl (W.nx (WC.ret (E.thenR (E.retM2 rfl rfl rfl ?_))))))))))))
 exact⟨m.trans j,.inr ⟨by rw[show keysOk ks=false by simpa using hk,Bool.false_and],rfl⟩⟩
end Go.Proofs.YtocheaahlpiajaaGreatDoor

namespace Go.Proofs.YtocheaahlpiajaaGreatDoor
open Tryz
open Go Go.Sx Go.Hsp Go.Num Go.Osp Go.Gsp
set_option maxRecDepth 20000
theorem pv1_sl3 {w:World}{A:Option Addr}{n:Nat}{xs:List Nat}(h:Vec w pv1 1 A n xs):Sl w 1 A n (xs.map pv):=by
  have:=h.2
  have e:∀l:List Nat,(l.map pv1).flatten=l.map pv:=by
    intro l
    induction l with
    |nil=>rfl
    |cons a l ih=>simp[pv1,ih]
  rw[e]at this
  exact this
theorem wrap_way {seed:List Byte}(hse:seed.length=32){ks0 ks:List Nat}{hs:List Hop}{A Ah:Option Addr}{n c nh ch:Nat}(w:World)(hK:Vec w pv1 1 A n ks0)(e0:ks0=ks)(hks:∀k∈ks,k<18446744073709551616)(h1:1<=n)(hn:n<=8)(hH:Vec w hopV 6 Ah nh hs)(hnh:nh=n)(ho:∀h∈hs,HopOk h)(hok:(keysOk ks&&hopsOk ks hs)=true):
    Calls prog 52 #[.slice A n c,.slice Ah nh ch,.agg (seed.map u8v).toArray] w fun e w'=>∃A' c',e= .returned (.tuple #[.slice A' (pkt ks hs seed 0).length c',.int .i64 0])/\OVec w' w.heap.size 5 byteV 1 A' (pkt ks hs seed 0).length c' (pkt ks hs seed 0)/\(pkt ks hs seed 0).length<=c'/\Le w w':=by
  subst e0
  have hl:=hK.1
  refine Calls.mono (wrap_ok seed hse w (pv1_sl3 hK) hks (by omega) (hH.rws hopV_row) ho (by omega)) ?_
  rintro e w' ⟨hL,⟨b,A',c',rfl,hO⟩|⟨b,rfl⟩⟩
  · have f:=pkt_length ks0 hs seed (by have:=hH.1;omega) (by omega) 0 (by omega)
    have i:=pkt_zero ks0 hs seed (by omega)
    rw[f,i]
    refine⟨A',c',rfl,byte_ovec hO,?_,hL⟩
    rcases hO.2 with⟨d,_⟩|⟨g,cur,_,_,_,d,_⟩
    · omega
    · exact d
  · rw[b]at hok;cases hok
theorem peel_way {key:Nat}(hk:key<18446744073709551616){p p' sum:List Byte}{h:Hop}{A:Option Addr}{n c:Nat}(w:World)(hS:Vec w byteV 1 A n p)(hc:n<=c)(he:peelB key p=(h,p',sum,0)):
    Calls prog 53 #[.int .u64 ((key:Nat):Int),.slice A n c] w fun e w'=>∃A' c',e= .returned (.tuple #[.agg (hopV h).toArray,.slice A' p'.length c',.agg (sum.map u8v).toArray,.int .i64 0])/\OVec w' w.heap.size 5 byteV 1 A' p'.length c' p'/\p'.length<=c'/\Le w w':=by
  refine Calls.mono (peel_ok key hk w (byte_sb hS) hc) ?_
  rintro e w' ⟨A',m,c',rfl,hO,hL⟩
  rw[he]at hO ⊢
  have d:=(byte_ovec hO).1
  rw[d]
  refine⟨A',c',rfl,byte_ovec hO,?_,hL⟩
  rcases hO.2 with⟨b,_⟩|⟨g,cur,_,_,_,b,_⟩
  · omega
  · exact b
theorem peel_sum32 {k:Nat}{p p' sum:List Byte}{h:Hop}{e:Int}(he:peelB k p=(h,p',sum,e)):sum.length=32:=by
  have:(peelB k p).2.2.1.length=32:=by
    rcases peel_cases k p with⟨e,he,_⟩|⟨_,_,_,_,_,_,he⟩
    · rw[he];rfl
    · rw[he];exact sharedB_length _
  rw[he]at this
  exact this
theorem keys_lt {own:List Nat}:∀k∈own.map base,k<18446744073709551616:=fun k hk=>by
  obtain⟨j,_,rfl⟩:=List.mem_map.1 hk
  exact base_lt j
end Go.Proofs.YtocheaahlpiajaaGreatDoor

namespace Go.Msp
open Go.Gsp Go.Nsp
end Go.Msp
namespace Go.Rtp
open Go.Gsp Go.Nsp Go.Msp Go.Proofs.YtocheaahlpiajaaGreatDoor
structure Prt where
  amt : Int
  way : List Gsp.Edge
  sent : List Int
  till : List Int
def noPrt:Prt:=⟨0,[],[],[]⟩
end Go.Rtp

