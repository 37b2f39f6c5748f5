/- SplitPeeled: for every input the law answers true and leaves its arguments as they were. -/
import Derived.Test.YtocheaahlpiajaaGreatDoorSplitPeeledM
set_option linter.unusedVariables false
set_option linter.unusedSimpArgs false
namespace Go.Proofs.YtocheaahlpiajaaGreatDoor
open Tryz
open Go Go.Sx Go.Hsp Go.Num Go.Osp
set_option maxRecDepth 20000
theorem stopRows_at (l:List Stop)(k:Nat)(s:Stop)(h:l[k]? =some s):(stopRows l)[k]? =some (stopV s):=by simp[stopRows,h]
theorem way_T (seed:List Byte)(hse:seed.length=32){A:Option Addr}{n c:Nat}{ks:List Nat}(w:World)(hK:Sl w 1 A n (ks.map pv))(hks:∀k∈ks,k<18446744073709551616)(hn:n<=1000000)(hk:keysOk ks=true):Calls prog 123 #[.slice A n c,.agg (seed.map u8v).toArray] w fun e w'=>∃A' c',e= .returned (.tuple #[.slice A' n c',.bool true])/\Own w' w.heap.size 209 33 A' n c' (stopRows (wayB (startX seed) ks)).flatten/\Le w w':=
  (way_ok seed hse w hK hks hn).mono fun e w' ⟨hl,h⟩=>by
    rcases h with⟨_,A',c',rfl,ho⟩|⟨h,_⟩
    · exact⟨A',c',rfl,ho,hl⟩
    · rw[hk]at h;cases h
theorem way_F (seed:List Byte)(hse:seed.length=32){A:Option Addr}{n c:Nat}{ks:List Nat}(w:World)(hK:Sl w 1 A n (ks.map pv))(hks:∀k∈ks,k<18446744073709551616)(hn:n<=1000000)(hk:keysOk ks=false):Calls prog 123 #[.slice A n c,.agg (seed.map u8v).toArray] w fun e w'=>e= .returned (.tuple #[.slice none 0 0,.bool false])/\Le w w':=
  (way_ok seed hse w hK hks hn).mono fun e w' ⟨hl,h⟩=>by
    rcases h with⟨h,_⟩|⟨_,rfl⟩
    · rw[hk]at h;cases h
    · exact⟨rfl,hl⟩





set_option maxHeartbeats 1000000 in
theorem filler_ok {A:Option Addr} {n c:Nat} {l:List Stop} (w:World) (hR:Rws w 33 A n (stopRows l)) (hsum:∀s∈l,s.2.length=32) (h1:1<=n) (h8:n<=8) (hc:n<=c):Calls prog 131 #[.slice A n c] w fun e w'=>∃A' c',e= .returned (.slice A' (80*(n-1)) c')/\Own w' w.heap.size 5 1 A' (80*(n-1)) c' ((filler l).map u8v)/\Le w w':=by
 have hll:l.length=n:=by have:=hR.1;simpa[stopRows]using this
 refine enter func131 rfl rfl (Sr (Wn 1 rfl (Nx (Sq (Sr (Wn 2 rfl (Wr (.len underlying200 rfl) rfl (Wa (.sub rfl rfl (by omega)) rfl (Wa (.cutH (n-1) underlying200 sz209 rfl rfl (by omega) (by omega)) rfl (Wr (.len underlying200 rfl) rfl ?_))))))))))
 refine Wn 1 rfl (Nx (WC.block (WC.loop (ι:=Nat×Option Addr×Nat) (fun⟨k,b,cp⟩=>[(2,.slice b (80*k) cp),(9,.slice A (n-1) c),(10,.int .i64 ((n-1:Nat):Int)),(11,.int .i64 (k:Int))]) (fun⟨k,b,cp⟩ wl=>k<=n-1/\Le w wl/\Own wl w.heap.size 5 1 b (80*k) cp ((fillTo [] (l.take k)).map u8v)) (fun⟨k,b,cp⟩=>n-1-k) (0,none,0) ?_ ?_ ?_)))
 ·exact .of rfl
 ·exact⟨Nat.zero_le _,(Le.refl w),Own.nil _ _ _ _ _⟩
 rintro⟨k,b,cp⟩ wl ⟨hkn,Ll,ol⟩
 have hfl:(fillTo [] (l.take k)).length=80*k:=by rw[fillTo_length _ _ (by simp[List.length_take];omega)];simp[List.length_take];omega
 refine Sr (Wn 1 rfl (Nx (Sq (WC.cond rfl (fun F=>?_) (fun F=>?_)))))
 ·obtain⟨s,hs⟩:∃s,l[k]? =some s:=⟨_,List.getElem?_eq_getElem (by omega)⟩
  have f:=hsum s (List.mem_of_getElem? hs)
  refine Sn (Sq (WC.block (Sr (Wa (.idxS (k) underlying200 sz209 rfl rfl (hR.isSome (by omega) (by decide)) (rfl) (by omega)) rfl (Wr (.loadR ag209 rfl (hR.le Ll) (stopRows_at l k s hs) (by decide)) rfl (W.ef rfl rfl rfl (Ef.allocA z209 fun Y Z H I t=>?_)))))))
  have J:=Ll.trans t
  refine W.ef0 rfl rfl (Ef.storeAll sz209 (by simp[stopV,f]) rfl rfl (I) (by simp[stopV,f]) (stopV_one _) ?_)
  intro K L u
  have v:Le w K:=J.tb u Ll H
  have N:=(ol.le t).ch u (fun q hq=>by cases hq;exact fun he=>by have:=(ol.row he).2;omega)
  refine Nx (Sr (Wn 1 rfl (W.ef rfl rfl rfl (Ef.appendZ 80 underlying26 underlying3 el5 rfl rfl N rfl rfl (by decide) (by omega) (by unfold maxLen;omega) v.size ?_))))
  intro j x m d y aa
  have O:Le w m:=v.then_ y (fun q hq=>(ol.row hq).1)
  have P:=L.ch y (ol.rn (by omega))
  have d:Own m w.heap.size 5 1 j (80*k+80) x ((fillTo [] (l.take k)++List.replicate 80 0#8).map u8v):=d.cast rfl (by simp[u8v])
  refine Wn 1 rfl (Nx (WC.region (Wn 1 rfl (Wr (.loadAll ag209 (by simp[stopV,f]) rfl (P)) rfl ?_))))
  refine W.cl go130 rfl rfl (rho_ok s f 720 (by decide) m) ?_
  rintro _ Q ⟨z,i,rfl,o,C⟩
  have D:=O.trans C
  have d:=d.le C
  refine Wn 1 rfl (Wr (.len underlying26 rfl) rfl (Wa (.sub rfl rfl (by omega)) rfl (Wa (.cutL (720-(80*k+80)) underlying26 sz5 rfl rfl (by omega) (by omega) (o.cap.1)) rfl ?_)))
  have hx:∀w,Sb w (cutA z i (720-(80*k+80)) 1) (80*k+80) ((rho s 720).drop (720-(80*k+80)))->Sb w j (80*k+80) (fillTo [] (l.take k)++List.replicate 80 0#8)->Calls prog 127 #[.slice j (80*k+80) x,.slice (cutA z i (720-(80*k+80)) 1) (720-(720-(80*k+80))) (i-(720-(80*k+80)))] w fun e w'=>∃A' c',e= .returned (.slice A' (80*k+80) c')/\Own w' w.heap.size 5 1 A' (80*k+80) c' ((xorB (fillTo [] (l.take k)++List.replicate 80 0#8) ((rho s 720).drop (720-(80*k+80)))).map u8v)/\Le w w':=fun w h1 R=>by
   rw[show 720-(720-(80*k+80))=80*k+80 by omega]
   exact xor_ok w R h1 (by omega)
  refine W.cl go127 rfl rfl (hx Q (by have h:=o.sb.cutL i (720-(80*k+80)) (by omega) o.cap.1;rwa [show 720-(720-(80*k+80))=80*k+80 by omega]at h) d.sb) ?_
  rintro _ ab ⟨S,T,rfl,U,V⟩
  have X:=D.trans V
  refine Wn 1 rfl (W.nil (E.blkN (E.thenN (WC.region (Wa (.add rfl rfl (by omega)) rfl (Wn 1 rfl (W.nil (E.again (k+1,S,T) (.cons' rfl (slice_eq (by omega)) (.of rfl)) ?_ ?_))))))))
  ·exact⟨by omega,X,(U.mono D.size).cast (by omega) (by rw[fillTo_snoc l k s hs,fillS,hfl,zeros];rfl)⟩
  first|omega|(simp only[];omega)
 have hkn:k=n-1:=by omega
 subst hkn
 refine WC.exit (E.thenX (E.thenX (E.blkH (E.thenN (Sr (Wn 2 rfl (Nx (Rt (E.ret1 rfl rfl ?_)))))))))
 exact⟨b,cp,rfl,ol.cast rfl (by rw[filler,hll]),Ll⟩

theorem may_T (h:Hop)(ho:HopOk h)(hy:mayB h=true)(w:World):Calls prog 124 #[.agg (hopV h).toArray] w fun e w'=>e= .returned (.bool true)/\Le w w':=by
  have:=may_ok h ho w
  rwa [hy]at this

theorem may_F (h:Hop)(ho:HopOk h)(hy:mayB h=false)(w:World):Calls prog 124 #[.agg (hopV h).toArray] w fun e w'=>e= .returned (.bool false)/\Le w w':=by
  have:=may_ok h ho w
  rwa [hy]at this

set_option maxHeartbeats 2000000 in
theorem peel_ok (kk:Nat) (_hkk:kk<18446744073709551616) {A:Option Addr} {n c:Nat} {xs:List Byte} (w:World) (hS:Sb w A n xs) (hc:n<=c):Calls prog 53 #[.int .u64 ((kk:Nat):Int),.slice A n c] w fun e w'=>∃A' m c',e= .returned (.tuple #[.agg (hopV (peelB kk xs).1).toArray,.slice A' m c',.agg ((peelB kk xs).2.2.1.map u8v).toArray,.int .i64 (peelB kk xs).2.2.2])/\Own w' w.heap.size 5 1 A' m c' ((peelB kk xs).2.1.map u8v)/\Le w w':=by
 have hl:=hS.len
 refine enter func53 rfl rfl ?_
 have L0:=Le.refl w
 refine Sr (W.ef rfl rfl rfl (Ef.allocA z109 fun u bu v aX k=>?_))
 have bv:=L0.trans k
 have bh:Blk bu u 109 (hopV noHop).toArray:=aX
 refine Wn 1 rfl (W.ef rfl rfl rfl (Ef.allocA z30 fun x O y bw ap=>?_))
 have cy:=bv.trans ap
 have bh:=bh.le ap
 have bs:Blk O x 30 ((zeros 32).map u8v).toArray:=bw
 have LL:=Le.refl O
 have C:=k.trans ap
 have hS:=hS.le C
 have hne:u≠x:=by have:=aX.lt;omega
 refine Wn 1 rfl (Nx (Sq (Sr (Wn 1 rfl ?_))))
 by_cases h0:kk=0
 ·refine Wa (.dec (.eql rfl rfl) (dT (by omega))) rfl (Wn 5 rfl (Nx (WC.condT rfl (Sq (WC.drawS (fun w2 w'=>Blk w' u 109 (hopV noHop).toArray/\Blk w' x 30 ((zeros 32).map u8v).toArray) [0,1,2,3,4,5] mixed (by kernel_rfl) fun w2 l=>⟨⟨(bh.le LL).le l,(bs.le LL).le l⟩,?_⟩)))))
  have L2:=LL.trans l
  refine GS.rd rfl rfl (fun w' hs=> .loadAll ag109 (by rfl) rfl hs.1) rfl rfl rfl ?_
  refine GS.rd rfl rfl (fun w' hs=> .loadAll ag30 (by rfl) rfl hs.2) rfl rfl rfl ?_
  refine GS.ef0 rfl rfl rfl rfl (Ef.storeAll sz109 (by rfl) rfl rfl ((bh.le LL).le l) (by rfl) (hopV_one _) ?_)
  intro aq P Q
  have ar:Le w aq:=(C.trans L2).then_ Q (fun q hq=>by cases hq;exact v)
  have R:=((bs.le LL).le l).ch Q (by simp[hne])
  refine⟨⟨P,R⟩,?_⟩
  refine GS.any rfl rfl (.assign rfl) rfl rfl rfl (GS.ef0 rfl rfl rfl rfl (Ef.storeAll sz30 (by rfl) rfl rfl (R) (by rfl) (all_u8v _) ?_))
  intro au S T
  have av:Le w au:=ar.tb T k y
  have U:=P.ch T (by simp;exact fun h=>hne h.symm)
  refine⟨⟨U,S⟩,?_⟩
  refine GS.any rfl rfl (.assign rfl) rfl rfl rfl (GS.nil (E.thenN (Rt (E.thenR (E.retCTCT rfl rfl rfl rfl rfl U ag109 (by rfl) S ag30 (by rfl) ?_)))))
  rw[peelB,if_pos (.inl h0)];exact⟨none,0,0,rfl,Own.nil _ _ _ _ _,av⟩
 refine Wa (.dec (.eql rfl rfl) (dF (by omega))) rfl (Wn 2 rfl ?_)
 by_cases hq:kk<q
 ·refine W.efg rfl rfl rfl (rfl) rfl rfl (Ef.call go134 rfl rfl (fright_T kk hq O) ?_)
  rintro _ bx ⟨rfl,aw⟩
  refine⟨_,rfl,?_⟩
  have j:=LL.trans aw
  refine Wn 2 rfl (Nx (WC.condF rfl (Sn (Sq (Sr (Wn 1 rfl (Wr (.len underlying26 rfl) rfl (Wn 1 rfl (Nx (WC.cond rfl (fun bA=>?_) (fun bA=>?_)))))))))))
  ·refine Sq (WC.drawS (fun w4 w'=>Blk w' u 109 (hopV noHop).toArray/\Blk w' x 30 ((zeros 32).map u8v).toArray) [0,1,2,3,4,5] mixed (by kernel_rfl) fun w4 V=>⟨⟨(bh.le j).le V,(bs.le j).le V⟩,?_⟩)
   have L4:=j.trans V
   refine GS.rd rfl rfl (fun w' hs=> .loadAll ag109 (by rfl) rfl hs.1) rfl rfl rfl ?_
   refine GS.rd rfl rfl (fun w' hs=> .loadAll ag30 (by rfl) rfl hs.2) rfl rfl rfl ?_
   refine GS.ef0 rfl rfl rfl rfl (Ef.storeAll sz109 (by rfl) rfl rfl ((bh.le j).le V) (by rfl) (hopV_one _) ?_)
   intro bB aY aZ
   have bC:Le w bB:=(C.trans L4).then_ aZ (fun q hq=>by cases hq;exact v)
   have q4:=((bs.le j).le V).ch aZ (by simp[hne])
   refine⟨⟨aY,q4⟩,?_⟩
   refine GS.any rfl rfl (.assign rfl) rfl rfl rfl (GS.ef0 rfl rfl rfl rfl (Ef.storeAll sz30 (by rfl) rfl rfl (q4) (by rfl) (all_u8v _) ?_))
   intro bD a0 a1
   have bE:Le w bD:=bC.tb a1 k y
   have p4:=aY.ch a1 (by simp;exact fun h=>hne h.symm)
   refine⟨⟨p4,a0⟩,?_⟩
   refine GS.any rfl rfl (.assign rfl) rfl rfl rfl (GS.nil (E.thenN (Rt (E.thenR (E.retCTCT rfl rfl rfl rfl rfl p4 ag109 (by rfl) a0 ag30 (by rfl) ?_)))))
   rw[peelB,if_neg (by omega),if_pos (by rw[hl];omega)];exact⟨none,0,0,rfl,Own.nil _ _ _ _ _,bE⟩
  have hn:n=680:=by omega
  subst hn
  refine Sn (Sq (WC.draw [0,2,3,4,5,1,6,7,8] mixed (by kernel_rfl) fun w5 d5=>?_))
  have L5:=j.trans d5
  refine Gn 2 rfl (Ga rfl (.cut (8) (648) underlying26 sz5 rfl rfl (rfl) rfl (rfl) (by decide) (by omega)) (Gn 1 rfl (Ga rfl (.cutL (648) underlying26 sz5 rfl rfl (rfl) (by decide) (hc)) (G.ef rfl rfl rfl rfl rfl (Ef.call go135 rfl rfl (number_ok w5 (hS.le L5) (by decide) hc) ?_)))))
  rintro _ a2 ⟨rfl,a3⟩
  refine⟨_,rfl,?_⟩
  have H:=L5.trans a3
  refine⟨fun _=>a3,?_⟩
  refine Gn 3 rfl (G.nil (E.thenN (Sq (Sr (Wn 1 rfl ?_)))))
  by_cases X:numB xs=1
  ·refine Wa (.dec (.eql rfl rfl) (dT (by omega))) rfl (Wn 5 rfl (Nx (WC.condT rfl (Sq (WC.drawS (fun w7 w'=>Blk w' u 109 (hopV noHop).toArray/\Blk w' x 30 ((zeros 32).map u8v).toArray) [0,1,2,3,4,5] mixed (by kernel_rfl) fun w7 o=>⟨⟨(bh.le H).le o,(bs.le H).le o⟩,?_⟩)))))
   have L7:=H.trans o
   refine GS.rd rfl rfl (fun w' hs=> .loadAll ag109 (by rfl) rfl hs.1) rfl rfl rfl ?_
   refine GS.rd rfl rfl (fun w' hs=> .loadAll ag30 (by rfl) rfl hs.2) rfl rfl rfl ?_
   refine GS.ef0 rfl rfl rfl rfl (Ef.storeAll sz109 (by rfl) rfl rfl ((bh.le H).le o) (by rfl) (hopV_one _) ?_)
   intro ax Y Z
   have ay:Le w ax:=(C.trans L7).then_ Z (fun q hq=>by cases hq;exact v)
   have q7:=((bs.le H).le o).ch Z (by simp[hne])
   refine⟨⟨Y,q7⟩,?_⟩
   refine GS.any rfl rfl (.assign rfl) rfl rfl rfl (GS.ef0 rfl rfl rfl rfl (Ef.storeAll sz30 (by rfl) rfl rfl (q7) (by rfl) (all_u8v _) ?_))
   intro az aa ab
   have aA:Le w az:=ay.tb ab k y
   have p7:=Y.ch ab (by simp;exact fun h=>hne h.symm)
   refine⟨⟨p7,aa⟩,?_⟩
   refine GS.any rfl rfl (.assign rfl) rfl rfl rfl (GS.nil (E.thenN (Rt (E.thenR (E.retCTCT rfl rfl rfl rfl rfl p7 ag109 (by rfl) aa ag30 (by rfl) ?_)))))
   rw[peelB,if_neg (by omega),if_neg (by rw[hl];decide),if_pos (by rw[X];rfl)];exact⟨none,0,0,rfl,Own.nil _ _ _ _ _,aA⟩
  refine Wa (.dec (.eql rfl rfl) (dF (by omega))) rfl (Wn 2 rfl ?_)
  by_cases hr:right (numB xs)=true
  ·refine W.efg rfl rfl rfl (rfl) rfl rfl (Ef.call go75 rfl rfl (pright_T _ (numB_lt xs) hr a2) ?_)
   rintro _ a4 ⟨rfl,aB⟩
   refine⟨_,rfl,?_⟩
   have I:=H.trans aB
   refine Wn 2 rfl (Nx (WC.condF rfl (Sn (Sr (Wn 3 rfl (W.cl go77 rfl rfl (scale_ok _ kk (numB_lt xs) a4) ?_))))))
   rintro _ bF ⟨rfl,bG⟩
   have bH:=I.trans bG
   refine W.cl go136 rfl rfl (stopped_ok _ _ bF) ?_
   rintro _ cz ⟨rfl,bI⟩
   have J:=bH.trans bI
   refine W.ef rfl rfl rfl (Ef.allocA z209 fun a5 cA bJ bK bL=>?_)
   have bM:=J.trans bL
   refine W.ef0 rfl rfl (Ef.storeAll sz209 (by simp[stopV,sharedB_length]) rfl rfl (bK) (by simp[stopV,sharedB_length]) (stopV_one _) ?_)
   intro bN a6 bO
   have bP:Le O bN:=bM.tb bO J bJ
   obtain⟨st,hst⟩:∃st:Stop,st=(numB xs,sharedB (scale (numB xs) kk)):=⟨_,rfl⟩
   have b:st.2.length=32:=by rw[hst];exact sharedB_length _
   rw[<-hst]at a6
   refine Nx (Sq (Sq (WC.draw [0,1,3,4,5,2,6] mixed (by kernel_rfl) fun w9 d9=>?_)))
   have L9:=bP.trans d9
   have bt:=a6.le d9
   refine Gd rfl (.loadAll ag209 (by simp[stopV,b]) rfl (bt)) ?_
   refine Gn 2 rfl (Ga rfl (.arrPtr underlying30 rfl (by decide)) (Gd rfl (.loadSb ag30 rfl ((hS.le L9).cutL c 648 (by decide) hc) (by decide) (by decide)) (G.ef rfl rfl rfl rfl rfl (Ef.call go132 rfl rfl (mac_ok st b w9 ((hS.le L9).cut c 8 648 (by decide) (by decide) hc) (by decide)) ?_))))
   rintro _ cB ⟨rfl,aC⟩
   refine⟨_,rfl,?_⟩
   have K:=L9.trans aC
   refine⟨fun _=>aC,?_⟩
   refine Ga rfl (.neA eg30 rfl rfl (Eqv.bytes (d:=9998) _ _ underlying30 sz5 underlying5 (macB_length _ _) (by rw[List.length_take,List.length_drop,hS.len];decide))) ?_
   refine G.nil (E.thenN (WC.condB rfl (fun hm=>?_) (fun hm=>?_)))
   ·have hmac:macB st ((xs.drop 8).take 640)≠xs.drop 648:=by rw[show(xs.drop 648).take 32=xs.drop 648 from List.take_of_length_le (by rw[List.length_drop,hl];decide)]at hm;simpa using hm
    refine Sq (WC.drawS (fun bQ w'=>Blk w' u 109 (hopV noHop).toArray/\Blk w' x 30 ((zeros 32).map u8v).toArray) [0,1,2,3,4,5] mixed (by kernel_rfl) fun bQ ac=>⟨⟨(bh.le K).le ac,(bs.le K).le ac⟩,?_⟩)
    have bR:=K.trans ac
    refine GS.rd rfl rfl (fun w' hs=> .loadAll ag109 (by rfl) rfl hs.1) rfl rfl rfl ?_
    refine GS.rd rfl rfl (fun w' hs=> .loadAll ag30 (by rfl) rfl hs.2) rfl rfl rfl ?_
    refine GS.ef0 rfl rfl rfl rfl (Ef.storeAll sz109 (by rfl) rfl rfl ((bh.le K).le ac) (by rfl) (hopV_one _) ?_)
    intro bS a7 a8
    have bT:Le w bS:=(C.trans bR).then_ a8 (fun q hq=>by cases hq;exact v)
    have a9:=((bs.le K).le ac).ch a8 (by simp[hne])
    refine⟨⟨a7,a9⟩,?_⟩
    refine GS.any rfl rfl (.assign rfl) rfl rfl rfl (GS.ef0 rfl rfl rfl rfl (Ef.storeAll sz30 (by rfl) rfl rfl (a9) (by rfl) (all_u8v _) ?_))
    intro bU ba bb
    have bV:Le w bU:=bT.tb bb k y
    have bc:=a7.ch bb (by simp;exact fun h=>hne h.symm)
    refine⟨⟨bc,ba⟩,?_⟩
    refine GS.any rfl rfl (.assign rfl) rfl rfl rfl (GS.nil (E.thenN (Rt (E.thenR (E.retCTCT rfl rfl rfl rfl rfl bc ag109 (by rfl) ba ag30 (by rfl) ?_)))))
    rw[peelB,if_neg (by omega),if_neg (by rw[hl];decide),if_neg (by rw[keyOk_yes X hr];decide),<-hst,if_pos hmac];exact⟨none,0,0,rfl,Own.nil _ _ _ _ _,bV⟩
   have hmac:macB st ((xs.drop 8).take 640)=xs.drop 648:=by rw[show(xs.drop 648).take 32=xs.drop 648 from List.take_of_length_le (by rw[List.length_drop,hl];decide)]at hm;simpa using hm
   refine Sn (Sq (WC.draw [0,4,1,2,3,5,6,7] mixed (by kernel_rfl) fun cC bd=>?_))
   have bW:=K.trans bd
   have bt:=bt.le (aC.trans bd)
   refine Gn 1 rfl (Gd rfl (.loadAll ag209 (by simp[stopV,b]) rfl (bt)) ?_)
   refine G.ef rfl rfl rfl rfl rfl (Ef.makeSlice 80 80 underlying26 el5 rfl rfl rfl rfl (by decide) (by decide) (by decide) fun bX bY cD bZ aE=>?_)
   have b0:=bW.trans aE
   refine⟨fun _=>aE,?_⟩
   have bz:Blk bY bX 5 ((zeros 80).map u8v).toArray:=bZ.cast (made_u8 80)
   refine G.ef rfl rfl rfl rfl rfl (Ef.buildSliceN [_,_] underlying157 el26 rfl (one2 _ _ _ _ _ _) rfl (by decide) (by decide) fun cE b1 cF b2 aj=>?_)
   have be:=b0.trans aj
   refine⟨fun _=>aj,?_⟩
   refine G.ef rfl rfl rfl rfl rfl (Ef.call go128 rfl rfl (concat_to ((xs.drop 8).take 640++zeros 80) 720 b1 (b2.sl (s:=1) (n:=2) rfl) (.cons ((hS.le be).cut c 8 648 (by decide) (by decide) hc) (.cons ((bz.le aj).sb (zeros_length 80)) (.nil _))) (by simp) (by simp[zeros_length,hS.len]) (by decide) (by decide) (by decide)) ?_)
   rintro _ b3 ⟨A3,c3,rfl,o3,aF⟩
   refine⟨_,rfl,?_⟩
   have b4:=be.trans aF
   refine⟨fun _=>aF,?_⟩
   refine G.ef rfl rfl rfl rfl rfl (Ef.call go130 rfl rfl (rho_ok st b 720 (by decide) b3) ?_)
   rintro _ bf ⟨A5,c5,rfl,o5,ak⟩
   refine⟨_,rfl,?_⟩
   have bg:=b4.trans ak
   refine⟨fun _=>ak,?_⟩
   refine G.ef rfl rfl rfl rfl rfl (Ef.call go127 rfl rfl (xor_ok bf (o3.le ak).sb o5.sb (by decide)) ?_)
   rintro _ bi ⟨A6,c6,rfl,t,aG⟩
   refine⟨_,rfl,?_⟩
   have b5:=bg.trans aG
   refine⟨fun _=>aG,?_⟩
   have t:Own bi bf.heap.size 5 1 A6 720 c6 ((opened st ((xs.drop 8).take 640)).map u8v):=t
   have ohl:=t.sb.len
   refine Gn 1 rfl (G.nil (E.thenN (Sq (Sr (Wn 1 rfl (W.cl go137 rfl rfl (read_okO bi t.sb (by decide) t.cap.1) ?_))))))
   rintro _ cG ⟨rfl,aH⟩
   have aI:=b5.trans aH
   refine W.ef0 rfl rfl (Ef.storeAll sz109 (by rfl) rfl rfl (bh.le aI) (by rfl) (hopV_one _) ?_)
   intro al b6 am
   have b7:Le w al:=(C.trans aI).then_ am (fun q hq=>by cases hq;exact v)
   have ad:=(bs.le aI).ch am (by simp[hne])
   have ae:=(bt.le (aE.trans (aj.trans (aF.trans (ak.trans (aG.trans aH)))))).ch am (by simp;have:=bh.lt;have:=J.size;omega)
   have aJ:=(t.sb.le aH).ch am (fun q hq=>by cases hq;exact fun he=>by obtain⟨gA,hA,hgA,_⟩:=t.lit (by decide);subst hA;simp[blkOf]at he;have:=bh.lt;have:=bg.size;omega)
   have z:=b6
   have an:=b7
   have LM:=Le.refl al
   obtain⟨hh,hhh⟩:∃hh,hh=readH (opened st ((xs.drop 8).take 640)):=⟨_,rfl⟩
   have hho:HopOk hh:=by rw[hhh];exact readH_ok _
   rw[<-hhh]at z
   refine Nx (Sr (Wr (.loadAll ag109 (by rfl) rfl (z)) rfl ?_))
   by_cases hy:mayB hh=true
   ·refine W.cl go124 rfl rfl (may_T hh hho hy al) ?_
    rintro _ b8 ⟨rfl,aK⟩
    have i:=LM.trans aK
    refine Wn 1 rfl (Nx (WC.condF rfl (Sn (Sq (Sr (Wa (.field0 fa109_0 rfl) rfl (Wr (.loadB na3 rfl (z.le i) (rfl)) rfl (Wn 1 rfl (Nx (WC.cond rfl (fun hnx=>?_) (fun hnx=>?_)))))))))))
    ·obtain⟨nx,hnxd⟩:∃nx,nx=be8 (scale (numB xs) (blindB st))++(opened st ((xs.drop 8).take 640)).drop 80++((opened st ((xs.drop 8).take 640)).drop 48).take 32:=⟨_,rfl⟩
     refine WC.draw [0,1,5,6,7,8,2,3,4,9,10,11] mixed (by kernel_rfl) fun b9 ca=>?_
     have aL:=i.trans ca
     have cc:=ae.le (aL)
     have cH:=aJ.le (aL)
     refine Gn 1 rfl (Gd rfl (.loadAll ag209 (by simp[stopV,b]) rfl (cc)) ?_)
     refine Gn 1 rfl (Ga rfl (.cutL (80) underlying26 sz5 rfl rfl (rfl) (by decide) (t.cap.1)) (Gn 1 rfl (Ga rfl (.cut (48) (80) underlying26 sz5 rfl rfl (rfl) rfl (rfl) (by decide) (by have:=t.cap.1;omega)) ?_)))
     refine G.ef rfl rfl rfl rfl rfl (Ef.call go138 rfl rfl (blind_ok st b b9) ?_)
     rintro _ cd ⟨rfl,bj⟩
     refine⟨_,rfl,?_⟩
     have ce:=aL.trans bj
     refine⟨fun _=>bj,?_⟩
     refine G.ef rfl rfl rfl rfl rfl (Ef.call go77 rfl rfl (scale_ok _ _ (numB_lt xs) cd) ?_)
     rintro _ cf ⟨rfl,bk⟩
     refine⟨_,rfl,?_⟩
     have cg:=ce.trans bk
     refine⟨fun _=>bk,?_⟩
     refine G.ef rfl rfl rfl rfl rfl (Ef.call go133 rfl rfl (eight_ok _ cf) ?_)
     rintro _ cI ⟨cJ,rfl,cK,ci,bl⟩
     refine⟨_,rfl,?_⟩
     have cj:=cg.trans bl
     refine⟨fun _=>bl,?_⟩
     refine G.ef rfl rfl rfl rfl rfl (Ef.buildSliceN [_,_,_] underlying157 el26 rfl one3 rfl (by decide) (by decide) fun cL ck cM cm aM=>?_)
     have L:=cj.trans aM
     refine⟨fun _=>aM,?_⟩
     refine G.ef rfl rfl rfl rfl rfl (Ef.call go128 rfl rfl (concat_to nx 680 ck (cm.sl (s:=1) (n:=3) rfl) (.cons ((ci.le aM).sb (be8_length _)) (.cons ((aJ.le L).cutL c6 80 (by decide) t.cap.1) (.cons ((aJ.le L).cut c6 48 80 (by decide) (by decide) t.cap.1) (.nil _)))) (by rw[hnxd];simp) (by rw[hnxd];simp[be8_length,ohl]) (by decide) (by decide) (by decide)) ?_)
     rintro _ cN ⟨co,cp,rfl,aO,bm⟩
     refine⟨_,rfl,?_⟩
     have N:=L.trans bm
     refine⟨fun _=>bm,?_⟩
     refine Gn 1 rfl (G.nil (E.thenN (Sq (WC.drawS (fun aP w'=>Blk w' u 109 (hopV hh).toArray/\Blk w' a5 209 (stopV st).toArray) [0,1,2,3,4,5,6,7] mixed (by kernel_rfl) fun aP f=>⟨⟨(z.le N).le f,(ae.le N).le f⟩,?_⟩))))
     have aQ:=N.trans f
     refine GS.rd rfl rfl (fun w' hs=> .loadAll ag109 (by rfl) rfl hs.1) rfl rfl rfl ?_
     refine GS.any rfl rfl (.move rfl) rfl rfl rfl (GS.any rfl rfl (.field0 fa209_1 rfl) rfl rfl rfl (GS.rd rfl rfl (fun w' hs=> .as (Rd.loadSb ag30 rfl (hs.2.sbAt 1 32 st.2 b (stopV_at st)) (by decide) (by decide)) (show _=Value.agg (st.2.map u8v).toArray by rw[List.take_of_length_le (by omega)])) rfl rfl rfl ?_))
     refine GS.ef0 rfl rfl rfl rfl (Ef.storeAll sz109 (by rfl) rfl rfl ((z.le N).le f) (by rfl) (hopV_one _) ?_)
     intro aR af D
     have aS:Le w aR:=(an.trans aQ).then_ D (fun q hq=>by cases hq;exact v)
     have aT:=((ad.le N).le f).ch D (by simp[hne])
     have ah:=((ae.le N).le f).ch D (by simp;have:=bh.lt;have:=J.size;omega)
     refine⟨⟨af,ah⟩,?_⟩
     refine GS.any rfl rfl (.assign rfl) rfl rfl rfl (GS.ef0 rfl rfl rfl rfl (Ef.storeAll sz30 (by simp[b]) rfl rfl (aT) (by simp[zeros,b]) (all_u8v _) ?_))
     intro aU aV F
     have aW:Le w aU:=aS.tb F k y
     have ai:=af.ch F (by simp;exact fun h=>hne h.symm)
     refine⟨⟨ai,ah.ch F (by simp;have:=bs.lt;have:=J.size;omega)⟩,?_⟩
     refine GS.any rfl rfl (.assign rfl) rfl rfl rfl (GS.nil (E.thenN (Rt (E.retCTCT rfl rfl rfl rfl rfl ai ag109 (by rfl) aV ag30 (by simp[b]) ?_))))
     rw[peelB,if_neg (by omega),if_neg (by rw[hl];decide),if_neg (by rw[keyOk_yes X hr];decide),<-hst,if_neg (by rw[hmac];simp),<-hhh,if_neg (by rw[hy];simp),<-hnxd,if_neg (by omega)];exact⟨co,680,cp,by rw[hst],(((aO.mono (an.trans L).size).le f).ch D (fun q hq=>by cases hq;exact fun he=>by have:=(aO.row he).1;have:=z.lt;have:=L.size;omega)).ch F (fun q hq=>by cases hq;exact fun he=>by have:=(aO.row he).1;have:=ad.lt;have:=L.size;omega),aW⟩
    refine Sn (Sq (WC.drawS (fun aP w'=>Blk w' u 109 (hopV hh).toArray/\Blk w' a5 209 (stopV st).toArray) [0,1,2,3,4,5,6,7] mixed (by kernel_rfl) fun aP f=>⟨⟨(z.le i).le f,(ae.le i).le f⟩,?_⟩))
    have aQ:=i.trans f
    refine GS.rd rfl rfl (fun w' hs=> .loadAll ag109 (by rfl) rfl hs.1) rfl rfl rfl ?_
    refine GS.any rfl rfl (.move rfl) rfl rfl rfl (GS.any rfl rfl (.field0 fa209_1 rfl) rfl rfl rfl (GS.rd rfl rfl (fun w' hs=> .as (Rd.loadSb ag30 rfl (hs.2.sbAt 1 32 st.2 b (stopV_at st)) (by decide) (by decide)) (show _=Value.agg (st.2.map u8v).toArray by rw[List.take_of_length_le (by omega)])) rfl rfl rfl ?_))
    refine GS.ef0 rfl rfl rfl rfl (Ef.storeAll sz109 (by rfl) rfl rfl ((z.le i).le f) (by rfl) (hopV_one _) ?_)
    intro aR af D
    have aS:Le w aR:=(an.trans aQ).then_ D (fun q hq=>by cases hq;exact v)
    have aT:=((ad.le i).le f).ch D (by simp[hne])
    have ah:=((ae.le i).le f).ch D (by simp;have:=bh.lt;have:=J.size;omega)
    refine⟨⟨af,ah⟩,?_⟩
    refine GS.any rfl rfl (.assign rfl) rfl rfl rfl (GS.ef0 rfl rfl rfl rfl (Ef.storeAll sz30 (by simp[b]) rfl rfl (aT) (by simp[zeros,b]) (all_u8v _) ?_))
    intro aU aV F
    have aW:Le w aU:=aS.tb F k y
    have ai:=af.ch F (by simp;exact fun h=>hne h.symm)
    refine⟨⟨ai,ah.ch F (by simp;have:=bs.lt;have:=J.size;omega)⟩,?_⟩
    refine GS.any rfl rfl (.assign rfl) rfl rfl rfl (GS.nil (E.thenN (Rt (E.retCTCT rfl rfl rfl rfl rfl ai ag109 (by rfl) aV ag30 (by simp[b]) ?_))))
    rw[peelB,if_neg (by omega),if_neg (by rw[hl];decide),if_neg (by rw[keyOk_yes X hr];decide),<-hst,if_neg (by rw[hmac];simp),<-hhh,if_neg (by rw[hy];simp),if_pos (by omega)];exact⟨none,0,0,by rw[hst],Own.nil _ _ _ _ _,aW⟩
   refine W.cl go124 rfl rfl (may_F hh hho (by simpa using hy) al) ?_
   rintro _ b8 ⟨rfl,aK⟩
   have i:=LM.trans aK
   refine Wn 1 rfl (Nx (WC.condT rfl (Sq (WC.drawS (fun cq w'=>Blk w' x 30 ((zeros 32).map u8v).toArray) [0,1,2,3,4,5] mixed (by kernel_rfl) fun cq ao=>⟨(ad.le i).le ao,?_⟩))))
   have cr:=i.trans ao
   refine GS.any rfl rfl (.buildF pl109 z109 rfl (show Instr.fill _ _ _=some (hopV noHop).toArray from rfl)) rfl rfl rfl (GS.rd rfl rfl (fun w' hs=> .loadAll ag30 (by rfl) rfl hs) rfl rfl rfl ?_)
   refine GS.ef0 rfl rfl rfl rfl (Ef.storeAll sz109 (by rfl) rfl rfl ((z.le i).le ao) (by rfl) (hopV_one _) ?_)
   intro cs ct bn
   have cu:Le w cs:=(an.trans cr).then_ bn (fun q hq=>by cases hq;exact v)
   have bo:=((ad.le i).le ao).ch bn (by simp[hne])
   refine⟨bo,?_⟩
   refine GS.any rfl rfl (.assign rfl) rfl rfl rfl (GS.ef0 rfl rfl rfl rfl (Ef.storeAll sz30 (by rfl) rfl rfl (bo) (by rfl) (all_u8v _) ?_))
   intro cv bp bq
   have cw:Le w cv:=cu.tb bq k y
   have cx:=ct.ch bq (by simp;exact fun h=>hne h.symm)
   refine⟨bp,?_⟩
   refine GS.any rfl rfl (.assign rfl) rfl rfl rfl (GS.nil (E.thenN (Rt (E.thenR (E.retCTCT rfl rfl rfl rfl rfl cx ag109 (by rfl) bp ag30 (by rfl) ?_)))))
   rw[peelB,if_neg (by omega),if_neg (by rw[hl];decide),if_neg (by rw[keyOk_yes X hr];decide),<-hst,if_neg (by rw[hmac];simp),<-hhh,if_pos (by simpa using hy)];exact⟨none,0,0,rfl,Own.nil _ _ _ _ _,cw⟩
  refine W.efg rfl rfl rfl (rfl) rfl rfl (Ef.call go75 rfl rfl (pright_F _ (numB_lt xs) (by simpa using hr) a2) ?_)
  rintro _ a4 ⟨rfl,aB⟩
  refine⟨_,rfl,?_⟩
  have I:=H.trans aB
  refine Wn 2 rfl (Nx (WC.condT rfl (Sq (WC.drawS (fun w7 w'=>Blk w' u 109 (hopV noHop).toArray/\Blk w' x 30 ((zeros 32).map u8v).toArray) [0,1,2,3,4,5] mixed (by kernel_rfl) fun w7 o=>⟨⟨(bh.le I).le o,(bs.le I).le o⟩,?_⟩))))
  have L7:=I.trans o
  refine GS.rd rfl rfl (fun w' hs=> .loadAll ag109 (by rfl) rfl hs.1) rfl rfl rfl ?_
  refine GS.rd rfl rfl (fun w' hs=> .loadAll ag30 (by rfl) rfl hs.2) rfl rfl rfl ?_
  refine GS.ef0 rfl rfl rfl rfl (Ef.storeAll sz109 (by rfl) rfl rfl ((bh.le I).le o) (by rfl) (hopV_one _) ?_)
  intro ax Y Z
  have ay:Le w ax:=(C.trans L7).then_ Z (fun q hq=>by cases hq;exact v)
  have q7:=((bs.le I).le o).ch Z (by simp[hne])
  refine⟨⟨Y,q7⟩,?_⟩
  refine GS.any rfl rfl (.assign rfl) rfl rfl rfl (GS.ef0 rfl rfl rfl rfl (Ef.storeAll sz30 (by rfl) rfl rfl (q7) (by rfl) (all_u8v _) ?_))
  intro az aa ab
  have aA:Le w az:=ay.tb ab k y
  have p7:=Y.ch ab (by simp;exact fun h=>hne h.symm)
  refine⟨⟨p7,aa⟩,?_⟩
  refine GS.any rfl rfl (.assign rfl) rfl rfl rfl (GS.nil (E.thenN (Rt (E.thenR (E.retCTCT rfl rfl rfl rfl rfl p7 ag109 (by rfl) aa ag30 (by rfl) ?_)))))
  rw[peelB,if_neg (by omega),if_neg (by rw[hl];decide),if_pos (keyOk_no (by simpa using hr))];exact⟨none,0,0,rfl,Own.nil _ _ _ _ _,aA⟩
 refine W.efg rfl rfl rfl (rfl) rfl rfl (Ef.call go134 rfl rfl (fright_F kk hq O) ?_)
 rintro _ bx ⟨rfl,aw⟩
 refine⟨_,rfl,?_⟩
 have j:=LL.trans aw
 refine Wn 2 rfl (Nx (WC.condT rfl (Sq (WC.drawS (fun w2 w'=>Blk w' u 109 (hopV noHop).toArray/\Blk w' x 30 ((zeros 32).map u8v).toArray) [0,1,2,3,4,5] mixed (by kernel_rfl) fun w2 l=>⟨⟨(bh.le j).le l,(bs.le j).le l⟩,?_⟩))))
 have L2:=j.trans l
 refine GS.rd rfl rfl (fun w' hs=> .loadAll ag109 (by rfl) rfl hs.1) rfl rfl rfl ?_
 refine GS.rd rfl rfl (fun w' hs=> .loadAll ag30 (by rfl) rfl hs.2) rfl rfl rfl ?_
 refine GS.ef0 rfl rfl rfl rfl (Ef.storeAll sz109 (by rfl) rfl rfl ((bh.le j).le l) (by rfl) (hopV_one _) ?_)
 intro aq P Q
 have ar:Le w aq:=(C.trans L2).then_ Q (fun q hq=>by cases hq;exact v)
 have R:=((bs.le j).le l).ch Q (by simp[hne])
 refine⟨⟨P,R⟩,?_⟩
 refine GS.any rfl rfl (.assign rfl) rfl rfl rfl (GS.ef0 rfl rfl rfl rfl (Ef.storeAll sz30 (by rfl) rfl rfl (R) (by rfl) (all_u8v _) ?_))
 intro au S T
 have av:Le w au:=ar.tb T k y
 have U:=P.ch T (by simp;exact fun h=>hne h.symm)
 refine⟨⟨U,S⟩,?_⟩
 refine GS.any rfl rfl (.assign rfl) rfl rfl rfl (GS.nil (E.thenN (Rt (E.thenR (E.retCTCT rfl rfl rfl rfl rfl U ag109 (by rfl) S ag30 (by rfl) ?_)))))
 rw[peelB,if_pos (.inr (by omega))];exact⟨none,0,0,rfl,Own.nil _ _ _ _ _,av⟩
end Go.Proofs.YtocheaahlpiajaaGreatDoor

namespace Go.Sx
open Go Go.RowKit
theorem E.retCT {P:Program}{env:Env}{n:Nat}{w:World}{fn:Func}{R:Ending->World->Prop}{t1 ty1 t2 s1:Nat}{g1:Nat}{b1:TypeId}{cs1:Array Value}{v2:Value}(hr:fn.results=#[.cell t1 ty1,.tmp t2])
    (h1:look env t1=some (.pointer (some ⟨g1,0,none⟩)))(h2:look env t2=some v2)(hB1:Blk w g1 b1 cs1)(ha1:IsAgg P ty1 s1)(hs1:cs1.size=s1)(h:R (.returned (.tuple #[.agg cs1,v2])) w):E (bodyPost P fn R) n .ret env w:=fun a ha=>by
  subst hs1
  obtain⟨b,u1,u2,u3⟩:=ha1
  have c:=run_loadVar_row (P:=P) w g1 b1 ty1 cs1 (0,0) b hB1 u1 (by cases b<;>simp_all) u3
  refine bodyPost_ret (v:= .tuple #[.agg cs1,v2]) ?_ ha.1 h
  simp[results,hr,ha.2.2 t1 _ h1,ha.2.2 t2 _ h2,asAddr,c]
end Go.Sx
namespace Go.Proofs.YtocheaahlpiajaaGreatDoor
open Tryz
open Go Go.Sx Go.Hsp Go.Num Go.Osp
set_option maxRecDepth 20000
theorem made_pv (k:Nat):madeCells (Value.int .u64 0).cells (k*1)=((List.replicate k 0).map pv).toArray:=by
  apply Array.ext'
  apply List.ext_getElem (by simp[madeCells])
  intro i b c
  simp[madeCells,Value.cells,Nat.mod_one]
  rfl
theorem set_pv (l:List Nat)(i x:Nat):((l.map pv).toArray).setIfInBounds i (pv x)=((l.set i x).map pv).toArray:=by simp[List.map_set]
theorem getpB (ks:List Nat){k:Nat}(h:k<ks.length):(ks.map pv).toArray[k]? =some (pv (ks.getD k 0)):=by simp[h,List.getD]
theorem addP_lt (a b:Nat):addP a b<18446744073709551616:=Nat.lt_trans (Nat.mod_lt _ (by decide)) (by decide:M<18446744073709551616)
theorem fromP_lt (p:Nat)(hp:p<18446744073709551616):∀l,∀x∈fromP p l,x<18446744073709551616
  |[],x,hx=>by simp[fromP]at hx;subst hx;exact hp
  |b::l,x,hx=>by
    rw[fromP,List.mem_cons]at hx
    rcases hx with rfl|hx
    · exact addP_lt _ _
    · exact fromP_lt p hp l x hx
theorem mixP_lt (p:Nat)(hp:p<18446744073709551616)(l:List Nat)(m i:Nat):(List.replicate m 0++fromP p l).getD i 0<18446744073709551616:=by
  refine getD_lt (fun x hx=>?_) (by decide) i
  rcases List.mem_append.1 hx with hx|hx
  · rw[(List.mem_replicate.1 hx).2];decide
  · exact fromP_lt p hp l x hx
theorem one2s {A B:Option Addr}{a b a' b':Nat}:∀v∈[Value.slice A a a',Value.slice B b b'],v.oneCell'=true:=fun v hv=>by
  simp at hv;rcases hv with rfl|rfl<;>rfl
theorem fneg_ok (a:Nat)(w:World):Calls prog 149 #[.int .u64 ((a:Nat):Int)] w fun e w'=>e= .returned (.int .u64 ((negS a:Nat):Int))/\Le w w':=by
 refine enter func149 rfl rfl ?_
 have b:=Le.refl w
 refine Sr (Wn 1 rfl (Nx (Sr (Wn 1 rfl (W.cl go227 rfl rfl (of_ok a w) ?_)))))
 rintro _ f ⟨rfl,c⟩
 have d:=b.trans c
 have hlt:a%q<2305843009213688669:=Nat.mod_lt _ (by decide)
 refine Wa (.subN (2305843009213688669) (a%q) (2305843009213688669-a%q) rfl rfl rfl rfl (by omega) (by omega)) rfl (Wa (.remN (2305843009213688669-a%q) (2305843009213688669) ((2305843009213688669-a%q)%2305843009213688669) rfl rfl rfl rfl (by decide) (rfl)) rfl (Wn 1 rfl (Nx (Rt (E.ret1 rfl rfl ?_)))))
 exact⟨rfl,d⟩

theorem fsub_ok (a b:Nat)(w:World):Calls prog 60 #[.int .u64 ((a:Nat):Int),.int .u64 ((b:Nat):Int)] w fun e w'=>e= .returned (.int .u64 ((addS a (negS b):Nat):Int))/\Le w w':=by
 refine enter func60 rfl rfl ?_
 have c:=Le.refl w
 refine Sr (Wn 1 rfl (Nx (Sr (Wn 2 rfl (W.cl go149 rfl rfl (fneg_ok b w) ?_)))))
 rintro _ d ⟨rfl,f⟩
 have h:=c.trans f
 refine W.cl go148 rfl rfl (fadd_ok a _ d) ?_
 rintro _ k ⟨rfl,i⟩
 have j:=h.trans i
 refine Wn 1 rfl (Nx (Rt (E.ret1 rfl rfl ?_)))
 exact⟨rfl,j⟩

theorem psum_ok {A:Option Addr}{n c:Nat}{xs:List Nat}(w:World)(hS:Sl w 1 A n (xs.map pv))(hn:n<=1000000):Calls prog 73 #[.slice A n c] w fun e w'=>e= .returned (.int .u64 ((sumS xs:Nat):Int))/\Le w w':=by
 have hl:=hS.1
 rw[List.length_map,Nat.mul_one]at hl
 refine enter func73 rfl rfl (Sr (Wn 1 rfl (Nx (Sr (Wn 1 rfl (Nx (Sq (Sr (Wn 1 rfl (Wr (.len underlying35 rfl) rfl (Wn 1 rfl (Nx (WC.block (WC.loop (ι:=Nat) (fun k=>[(3,.int .u64 ((sumS (xs.take k):Nat):Int)),(6,.slice A n c),(7,.int .i64 (n:Int)),(8,.int .i64 (k:Int))]) (fun k wl=>k<=n/\Le w wl) (fun k=>n-k) 0 ?_ ?_ ?_))))))))))))))
 ·exact .of rfl
 ·exact⟨Nat.zero_le _,(Le.refl w)⟩
 rintro k wl ⟨hk,Ll⟩
 refine Sr (Wn 1 rfl (Nx (Sq (WC.cond rfl (fun b=>?_) (fun b=>?_)))))
 ·have hx:=getn xs (show k<xs.length by omega)
  refine Sn (Sq (WC.block (Sr (Wa (.idxS1 (k) underlying35 sz28 rfl rfl (hS.isSome (j:=k) (by omega) (by decide)) (rfl) (by omega)) rfl (Wr (.loadS na28 rfl (hS.le Ll) (getp xs (by omega))) rfl (Wn 1 rfl (Nx (WC.region (Wn 2 rfl (W.cl go148 rfl rfl (fadd_ok _ _ wl) ?_))))))))))
  rintro _ h ⟨rfl,d⟩
  have f:=Ll.trans d
  refine Wn 1 rfl (W.nil (E.blkN (E.thenN (WC.region (Wa (.add rfl rfl (by omega)) rfl (Wn 1 rfl (W.nil (E.again (k+1) (.cons' rfl (int_eq (congrArg Nat.cast (by rw[sumS_snoc xs k _ hx]))) (.of rfl)) ?_ ?_))))))))
  ·exact⟨by omega,f⟩
  first|omega|(simp only[];omega)
 have hkn:k=n:=by omega
 subst hkn
 refine WC.exit (E.thenX (E.thenX (E.blkH (E.thenN (Sr (Wn 2 rfl (Nx (Rt (E.ret1 rfl rfl ?_)))))))))
 exact⟨by rw[List.take_of_length_le (by omega)],Ll⟩

theorem shows_ok (p t:Nat)(hp:p<18446744073709551616)(hr:right p=true)(hb:base t=p)(w:World):Calls prog 17 #[.int .u64 ((p:Nat):Int),.int .u64 ((t:Nat):Int)] w fun e w'=>e= .returned (.bool true)/\Le w w':=by
 refine enter func17 rfl rfl ?_
 have b:=Le.refl w
 refine Sr (Wn 1 rfl (Nx (Sr (Wn 1 rfl (W.cl go75 rfl rfl (pright_T p hp hr w) ?_)))))
 rintro _ c ⟨rfl,d⟩
 have f:=b.trans d
 refine Wn 2 rfl (W.efg rfl rfl rfl (rfl) rfl rfl (Ef.call go20 rfl rfl (base_ok t c) ?_))
 rintro _ j ⟨rfl,h⟩
 refine⟨_,rfl,?_⟩
 have i:=f.trans h
 refine Wn 1 rfl (Wg (Any.rd (.dec (.eql rfl rfl) (dT (by rw[hb]))) _) rfl ?_)
 refine Wn 2 rfl (Nx (Rt (E.ret1 rfl rfl ?_)))
 exact⟨rfl,i⟩

theorem drawn_ok (name:ByteArray)(hnm:byteCells name=nBlind.map u8v){A:Option Addr}{c:Nat}{xs:List Byte}(i:Nat)(w:World)(hS:Sb w A 32 xs):Calls prog 74 #[.string name,.slice A 32 c,.int .i64 (i:Int)] w fun e w'=>e= .returned (.int .u64 ((fromB (tag nBlind [xs,[BitVec.ofNat 8 i]]):Nat):Int))/\Le w w':=by
 refine enter func74 rfl rfl ?_
 have f:=Le.refl w
 refine Sr (Wn 1 rfl (Nx (Sr (Wn 3 rfl (Wr (.toU8 i (isS underlying3) underlying5 rfl rfl) rfl (W.ef rfl rfl rfl (Ef.buildSlice1 underlying26 el5 rfl rfl fun y z C h j=>?_)))))))
 have k:=f.trans j
 refine W.ef rfl rfl rfl (Ef.buildSliceN [_,_] underlying157 el26 rfl one2s rfl (by decide) (by decide) fun D l F m b=>?_)
 have d:=k.trans b
 refine W.cl go21 rfl rfl (tag_ok _ nBlind l (ps:=[xs,[BitVec.ofNat 8 i]]) hnm (m.sl (s:=1) (n:=2) rfl) (.cons (hS.le d) (.cons (Blk.sb (xs:=[BitVec.ofNat 8 i]) (h.le b) rfl) (.nil _))) (by rw[tagLen2,hS.len];show 24+5+32+1<=_;decide)) ?_
 rintro _ o ⟨rfl,t⟩
 have u:=d.trans t
 refine W.cl go169 rfl rfl (from_ok _ (tag_length _ _) o) ?_
 rintro _ H ⟨rfl,v⟩
 have x:=u.trans v
 refine Wn 1 rfl (Nx (Rt (E.ret1 rfl rfl ?_)))
 exact⟨rfl,x⟩

theorem pfrom_ok (p:Nat)(hp:p<18446744073709551616)(hr:right p=true){A:Option Addr}{n c:Nat}{xs:List Nat}(w:World)(hS:Sl w 1 A n (xs.map pv))(hn:n<8):Calls prog 76 #[.int .u64 ((p:Nat):Int),.slice A n c] w fun e w'=>∃g,e= .returned (.slice (some ⟨g,0,none⟩) (n+1) (n+1))/\w.heap.size<=g/\Blk w' g 43 ((fromP p xs).map pv).toArray/\Le w w':=by
 have hl:=hS.1
 rw[List.length_map,Nat.mul_one]at hl
 refine enter func76 rfl rfl ?_
 have o:=Le.refl w
 refine Sr (Wn 1 rfl (Nx (Sr (Wn 1 rfl (Wr (.len underlying35 rfl) rfl (Wn 1 rfl (Nx (Sq (Sr (Wn 1 rfl (W.cl go75 rfl rfl (pright_T p hp hr w) ?_)))))))))))
 rintro _ Q ⟨rfl,s⟩
 have i:=o.trans s
 refine Wn 3 rfl (Wg (Any.rd (.dec (.geq rfl rfl) (dF (by omega))) _) rfl (Wn 1 rfl (Nx (WC.condF rfl (Sn (Sr (Wn 1 rfl (Wa (.add rfl rfl (by omega)) rfl (W.ef rfl rfl rfl (Ef.makeSlice (n+1) (n+1) underlying39 el43 rfl (by omega) rfl (by omega) (Nat.le_refl _) (by omega) (by unfold maxLen;omega) ?_))))))))))
 intro b t u v x
 have y:=i.trans x
 have bp:Blk t b 43 ((List.replicate (n+1) 0).map pv).toArray:=v.cast (made_pv _)
 have hg:=Nat.le_trans i.size u
 refine Wn 1 rfl (Nx (Sr (Wn 3 rfl (Wa (.idxB1 (n) underlying39 sz43 rfl rfl (rfl) (by omega)) rfl (W.ef0 rfl rfl (Ef.store sz43 rfl rfl (bp) (by simp) (rfl) ?_))))))
 intro l z C
 have D:Le w l:=y.then_ C (fun q hq=>by cases hq;exact hg)
 have bp:Blk l b 43 ((List.replicate n 0++[p]).map pv).toArray:=z.cast ((set_pv _ n p).trans (by rw[List.replicate_succ',List.set_append_right _ _ (by simp)];simp))
 refine Nx (Sq (Sr (Wn 2 rfl (Nx (WC.block (WC.loop (ι:=Nat) (fun k=>[(1,.slice A n c),(5,.int .i64 (n:Int)),(6,.slice (some ⟨b,0,none⟩) (n+1) (n+1)),(25,.int .i64 (n:Int)),(26,.int .i64 (k:Int))]) (fun k wl=>k<=n/\Le w wl/\Blk wl b 43 ((List.replicate (n-k) 0++fromP p (xs.drop (n-k))).map pv).toArray) (fun k=>n-k) 0 ?_ ?_ ?_))))))
 ·exact .of rfl
 ·exact⟨Nat.zero_le _,D,bp.cast (by rw[Nat.sub_zero,List.drop_of_length_le (by omega)];rfl)⟩
 rintro k wl ⟨hk,Ll,bl⟩
 refine Sr (Wn 1 rfl (Nx (Sq (WC.cond rfl (fun F=>?_) (fun F=>?_)))))
 ·have hmx:=mixP_lt p hp (xs.drop (n-k)) (n-k) (n-1-k+1)
  have hml:(List.replicate (n-k) 0++fromP p (xs.drop (n-k))).length=n+1:=by rw[List.length_append,List.length_replicate,fromP_length,List.length_drop];omega
  refine Sn (Sq (WC.block (Sr (Wn 2 rfl (Nx (Sr (Wn 1 rfl (Wa (.sub rfl rfl (by omega)) rfl (Wn 1 rfl (Wa (.sub rfl rfl (by omega)) rfl (Wn 1 rfl (Nx (WC.draw [0,1,2,3,4,5,6,7,8,9,10,11,12,13,14] mixed (by kernel_rfl) ?_)))))))))))))
  intro H d
  have m:=Ll.trans d
  refine Gn 4 rfl (Ga rfl (.add rfl rfl (by omega)) (Ga rfl (.idxB1 (n-1-k+1) underlying39 sz43 rfl rfl (by omega) (by omega)) (Gd rfl (.loadB na43 rfl (bl.le d) (getpB _ (by omega))) (Gn 2 rfl (Ga rfl (.idxS1 (n-1-k) underlying35 sz28 rfl rfl (hS.isSome (j:=n-1-k) (by omega) (by decide)) (by omega) (by omega)) ?_)))))
  refine Gd rfl (.loadS na28 rfl (hS.le m) (getp xs (by omega))) (G.ef rfl rfl rfl rfl rfl (Ef.call go20 rfl rfl (base_ok _ H) ?_))
  rintro _ I ⟨rfl,f⟩
  refine⟨_,rfl,?_⟩
  have J:=m.trans f
  refine⟨fun _=>f,?_⟩
  refine G.ef rfl rfl rfl rfl rfl (Ef.call go171 rfl rfl (padd_ok _ _ hmx (base_lt _) I) ?_)
  rintro _ R ⟨rfl,h⟩
  refine⟨_,rfl,?_⟩
  have K:=J.trans h
  refine⟨fun _=>h,?_⟩
  refine Ga rfl (.idxB1 (n-1-k) underlying39 sz43 rfl rfl (by omega) (by omega)) (G.ef0 rfl rfl rfl rfl (Ef.store sz43 rfl rfl (bl.le (d.trans (f.trans h))) (by rw[List.size_toArray,List.length_map];omega) (rfl) ?_))
  intro L N O
  have P:Le w L:=K.then_ O (fun q hq=>by cases hq;exact hg)
  refine noT (by kernel_rfl) (G.nil (E.blkN (E.thenN (WC.region (Wa (.add rfl rfl (by omega)) rfl (Wn 1 rfl (W.nil (E.again (k+1) (.of rfl) ?_ ?_))))))))
  ·exact⟨by omega,P,N.cast ((set_pv _ _ _).trans (by have:=fill_back p xs k (by omega);rw[hl]at this;rw[<-this]))⟩
  first|omega|(simp only[];omega)
 have hkn:n=k:=by omega
 subst hkn
 refine WC.exit (E.thenX (E.thenX (E.blkH (E.thenN (Sr (Wn 2 rfl (Nx (Rt (E.ret1 rfl rfl ?_)))))))))
 exact⟨b,rfl,hg,bl.cast (by rw[Nat.sub_self];rfl),Ll⟩

set_option maxHeartbeats 1000000 in
theorem pnew_ok (p:Nat) (hp:p<18446744073709551616) (hr:right p=true) (hp1:p≠1) (seed:List Byte) (hse:seed.length=32) (n:Nat) (h1:1<=n) (h8:n<=8) (w:World):Calls prog 19 #[.int .u64 ((p:Nat):Int),.agg (seed.map u8v).toArray,.int .i64 (n:Int)] w fun e w'=>∃g A c,e= .returned (.tuple #[.agg #[.slice (some ⟨g,0,none⟩) n n,.slice A (n-1) c],.bool true])/\w.heap.size<=g/\Blk w' g 43 ((fromP p (blindsP seed (n-1))).map pv).toArray/\Sx.Own w' w.heap.size 28 1 A (n-1) c ((blindsP seed (n-1)).map pv)/\Le w w':=by
 refine enter func19 rfl rfl ?_
 have P:=Le.refl w
 refine Sr (W.ef rfl rfl rfl (Ef.boxA rfl fun Q ar au R m=>?_))
 have S:=P.trans m
 refine W.ef rfl rfl rfl (Ef.allocA z41 fun C o T U s=>?_)
 have av:=S.trans s
 have bs:=R.le s
 have br:Blk o C 41 #[.slice none 0 0,.slice none 0 0]:=U
 have t:=m.trans s
 have LL:=Le.refl o
 refine Wn 1 rfl (Nx (Sq (Sr (Wn 1 rfl (W.cl go75 rfl rfl (pright_T p hp hr o) ?_)))))
 rintro _ d ⟨rfl,V⟩
 have b:=LL.trans V
 refine Wn 3 rfl (Wg (Any.rd (.dec (.eql rfl rfl) (dF (by omega))) _) rfl (Wn 3 rfl (Wg (Any.rd (.dec (.lss rfl rfl) (dF (by omega))) _) rfl (Wn 3 rfl (Wg (Any.rd (.dec (.gtr rfl rfl) (dF (by omega))) _) rfl ?_)))))
 refine Wn 1 rfl (Nx (WC.condF rfl (Sn (Sr (W.ef rfl rfl rfl (Ef.allocA z41 fun f X D Y F=>?_))))))
 have aw:=b.trans F
 have Z:Blk X f 41 #[.slice none 0 0,.slice none 0 0]:=Y
 refine Nx (Sq (Sr (Wn 1 rfl (Wa (.sub rfl rfl (by omega)) rfl (Wn 1 rfl (Nx (WC.block (WC.loop (ι:=Nat×Option Addr×Nat) (fun⟨k,Ab,cb⟩=>[(0,.int .u64 ((p:Nat):Int)),(4,.pointer (some ⟨Q,0,none⟩)),(6,.pointer (some ⟨C,0,none⟩)),(8,.pointer (some ⟨f,0,none⟩)),(27,.int .i64 ((n:Int)-1)),(28,.int .i64 (k:Int))]) (fun⟨k,Ab,cb⟩ wl=>k<=n-1/\Le d wl/\Blk wl f 41 #[.slice none 0 0,.slice Ab k cb]/\Sx.Own wl d.heap.size 28 1 Ab k cb ((blindsP seed k).map pv)/\rowOf Ab cb≠some f) (fun⟨k,Ab,cb⟩=>n-1-k) (0,none,0) ?_ ?_ ?_))))))))
 ·exact .of rfl
 ·exact⟨Nat.zero_le _,F,Z,Own.nil _ _ _ _ _,by simp[rowOf_zero]⟩
 rintro⟨k,Ab,cb⟩ wl ⟨hk,Ll,bl,ob,nb⟩
 have hgl:=bl.lt
 refine Sr (Wn 1 rfl (Nx (Sq (WC.cond rfl (fun c1=>?_) (fun c1=>?_)))))
 ·refine Sn (Sq (WC.block (Sr (Wn 2 rfl (Nx (WC.draw [0,1,2,3,4,5,6,7,8] mixed (by kernel_rfl) fun w7 l=>?_))))))
  have H:=Ll.trans l
  have bl:=bl.le l
  have ob:=ob.le l
  refine Ga rfl (.field0 fa41_1 rfl) (Gd rfl (.loadB na35 rfl (bl) (rfl)) (Ga rfl (.cutArr underlying30 sz5 rfl) (Gn 1 rfl (G.ef rfl rfl rfl rfl rfl (Ef.call go74 rfl rfl (drawn_ok _ rfl k w7 ((bs.le (b.trans H)).sb hse)) ?_)))))
  rintro _ ax ⟨rfl,h⟩
  refine⟨_,rfl,?_⟩
  have aa:=H.trans h
  refine⟨fun _=>h,?_⟩
  refine G.ef rfl rfl rfl rfl rfl (Ef.buildSlice1 underlying35 el28 rfl rfl fun ay az aA ab i=>?_)
  have I:=aa.trans i
  refine⟨fun _=>i,?_⟩
  refine G.ef rfl rfl rfl rfl rfl (Ef.append underlying35 el28 rfl ((ob.le h).le i) rfl (ab.src1 underlying35 rfl) (by omega) (by unfold maxLen;omega) (I.size) ?_)
  intro u v J ac K ad
  have ae:Le d J:=I.then_ K (fun q hq=>(ob.row hq).1)
  refine noT (by kernel_rfl) ?_
  have bl:=((bl.le h).le i).ch K nb
  have af:Sx.Own J d.heap.size 28 1 u (k+1) v ((blindsP seed (k+1)).map pv):=ac.cast rfl (by rw[blindsP_succ,List.map_append];rfl)
  refine Ga rfl (.field0 fa41_1 rfl) ?_
  have L:rowOf u v≠some f:=ad.off (by have:=l.size;have:=h.size;have:=i.size;omega) nb
  refine G.ef0 rfl rfl rfl rfl (Ef.store sz35 rfl rfl (bl) (by simp) (rfl) ?_)
  intro ah ai N
  have aj:Le d ah:=ae.then_ N (fun q hq=>by cases hq;exact D)
  refine noT (by kernel_rfl) ?_
  have o8:=af.ch N (fun q hq=>by cases hq;exact L)
  refine G.nil (E.blkN (E.thenN (WC.region (Wa (.add rfl rfl (by omega)) rfl (Wn 1 rfl (W.nil (E.again (k+1,u,v) (.of rfl) ?_ ?_)))))))
  ·exact⟨by omega,aj,ai,o8,L⟩
  first|omega|(simp only[];omega)
 have hkn:k=n-1:=by omega
 subst hkn
 refine WC.exit (E.thenX (E.thenX (E.blkH (E.thenN (Sr (Wn 1 rfl (Wa (.field0 fa41_1 rfl) rfl (Wr (.loadB na35 rfl (bl) (rfl)) rfl (W.cl go76 rfl rfl (pfrom_ok p hp hr wl ob.sl (by omega)) ?_)))))))))
 rintro _ aB ⟨g9,rfl,ak,j,x⟩
 have al:=Ll.trans x
 refine Wa (.field0 fa41_0 rfl) rfl (W.ef0 rfl rfl (Ef.store sz39 rfl rfl (bl.le x) (by simp) (rfl) ?_))
 intro am an y
 have O:Le d am:=al.then_ y (fun q hq=>by cases hq;exact D)
 have j:=j.ch y (by simp;have:=bl.lt;omega)
 have ob:=(ob.le x).ch y (fun q hq=>by cases hq;exact nb)
 refine Nx (Sr (Wr (.loadAll ag41 (by rfl) rfl (an)) rfl ?_))
 refine W.ef0 rfl rfl (Ef.storeAll sz41 (by rfl) rfl rfl (br.le (b.trans O)) (by rfl) (one2s) ?_)
 intro ao ap z
 have aq:Le w ao:=(t.trans (b.trans O)).then_ z (fun q hq=>by cases hq;exact Nat.le_trans m.size T)
 have j:=j.ch z (by simp;have:=br.lt;have:=b.size;have:=Ll.size;omega)
 have ob:=ob.ch z (fun q hq=>by cases hq;exact fun he=>by have:=(ob.row he).1;have:=br.lt;have:=b.size;omega)
 refine Wn 1 rfl (Nx (Rt (E.retCT rfl rfl rfl ap ag41 (by rfl) ?_)))
 exact⟨g9,Ab,cb,by rw[show n-1+1=n by omega];rfl,Nat.le_trans (t.trans (b.trans Ll)).size ak,j,ob.mono (t.trans b).size,aq⟩
end Go.Proofs.YtocheaahlpiajaaGreatDoor

namespace Go.Proofs.YtocheaahlpiajaaGreatDoor
open Tryz
open Go Go.Sx Go.Hsp Go.Num Go.Osp Go.Gsp
set_option maxRecDepth 20000
theorem hops_next (w:List Gsp.Edge)(s t:List Int)(p b:List Nat)(k:Nat):(List.range k).map (hopAt w s t p b)++[(((w.drop 1).getD k noEdge).t,((w.drop 1).getD k noEdge).c,s.getD (k+1) 0,t.getD (k+1) 0,p.getD (k+1) 0,b.getD k 0)]=(List.range (k+1)).map (hopAt w s t p b):=by
  rw[List.range_succ,List.map_append]
  simp only[List.getD,List.getElem?_drop,Nat.add_comm 1 k,List.map_cons,List.map_nil,hopAt]
set_option maxHeartbeats 4000000 in
theorem hops_ok (a x:Int) {A Ap Ab:Option Addr} {n c np cp nb cb:Nat} {xs:List Gsp.Edge} {pts bl:List Nat} (w:World) (hV:Vec w edgeV 9 A n xs) (hn:n<=1000000) (hP:Vec w pv1 1 Ap np pts) (hnp:np<=1000000) (hB:Vec w pv1 1 Ab nb bl) (hnb:nb<=1000000) (hnc:n<=c):Calls prog 51 #[.slice A n c,.int .i64 (a),.int .i64 (x),.agg #[.slice Ap np cp,.slice Ab nb cb]] w fun r w'=>∃A' c',r= .returned (.tuple #[.slice A' (hopsG xs a x pts bl).1.length c',.int .i64 (hopsG xs a x pts bl).2])/\OVec w' w.heap.size 109 hopV 6 A' (hopsG xs a x pts bl).1.length c' (hopsG xs a x pts bl).1/\Le w w':=by
 have hl:=hV.1
 have hlp:=hP.1
 have hlb:=hB.1
 refine enter func51 rfl rfl (Sr (W.ef rfl rfl rfl (Ef.boxA rfl fun I m aU (aq:Blk m I 41 #[.slice Ap np cp,.slice Ab nb cb]) ar=>?_)))
 have V:=(Le.refl w).trans ar
 refine Wn 2 rfl (Nx (Sr (Wn 3 rfl (W.cl go38 rfl rfl (cost_ok a x m (hV.le V) (by omega)) ?_))))
 rintro _ X ⟨Y,Z,aa,ab,rfl,J,K,y⟩
 have f:=V.trans y
 have au:=@costG_lens xs a x
 have av:(costG xs a x).2.2=0->wayG xs=true:=fun h=>(costG_inv h).1
 have z:hopsG xs a x pts bl=if(costG xs a x).2.2≠0 then([],(costG xs a x).2.2)else if pts.length≠xs.length\/bl.length≠xs.length-1 then([],1)else(hopsL xs (costG xs a x).1 (costG xs a x).2.1 pts bl a x,0):=rfl
 generalize costG xs a x=C at*
 refine Wn 7 rfl (Nx (Sr (Wn 1 rfl (Wr (.len underlying32 rfl) rfl (Wa (.sub rfl rfl (by omega)) rfl (Wn 1 rfl (Nx (Sq (WC.block (Sr (Wn 3 rfl (Nx ?_))))))))))))
 by_cases c0:C.2.2≠0
 ·refine Cy rfl (dT c0) (Sr (Wn 3 rfl (Nx (Rt (E.blkR (E.thenR (E.retG2 rfl rfl rfl ?_)))))))
  have hg:hopsG xs a x pts bl=([],C.2.2):=by rw[z,if_pos (by omega)]
  exact⟨none,0,by rw[hg];rfl,by rw[hg];exact OVec.nil _ _ _ _ _ _,f⟩
 refine Cn rfl (dF c0) ?_
 have hcl:=au (Decidable.not_not.1 (by assumption))
 have hwl:=wayG_len (av (Decidable.not_not.1 (by assumption)))
 refine Sr (Wa (.field0 fa41_0 rfl) rfl ?_)
 have D:=(aq.le y)
 refine Wr (.loadB (v:= .slice Ap np cp) na39 rfl D rfl) rfl (Wr (.len underlying39 rfl) rfl (Wn 1 rfl (Wa (.add rfl rfl (by omega)) rfl (Wn 1 rfl ?_))))
 by_cases ac:((np:Nat):Int)≠((((n:Nat):Int)-1)+1)
 ·refine Dt ac rfl rfl (Wn 7 rfl (Nx (WC.condT rfl (Sr (Wn 2 rfl (Nx (Rt (E.blkR (E.thenR (E.retG2 rfl rfl rfl ?_))))))))))
  have hg:hopsG xs a x pts bl=([],1):=by rw[z,if_neg (by omega),if_pos (by omega)]
  exact⟨none,0,by rw[hg];rfl,by rw[hg];exact OVec.nil _ _ _ _ _ _,f⟩
 refine Df ac rfl rfl (Wg (Any.rd (.field0 fa41_1 rfl) _) rfl (Wg (.loadB (v:= .slice Ab nb cb) na35 rfl D rfl) rfl (Wg (.len underlying35 rfl) rfl (Wn 4 rfl (Nx ?_)))))
 by_cases c1:((nb:Nat):Int)≠(((n:Nat):Int)-1)
 ·refine Cy rfl (dT c1) (Sr (Wn 2 rfl (Nx (Rt (E.blkR (E.thenR (E.retG2 rfl rfl rfl ?_)))))))
  have hg:hopsG xs a x pts bl=([],1):=by rw[z,if_neg (by omega),if_pos (by omega)]
  exact⟨none,0,by rw[hg];rfl,by rw[hg];exact OVec.nil _ _ _ _ _ _,f⟩
 refine Cn rfl (dF c1) (WC.skip (E.blkN (E.thenN (Sr (Wn 1 rfl (Wa (.add rfl rfl (by omega)) rfl (W.ef rfl rfl rfl (Ef.vmake0 ((n-1)+1) hopV underlying101 el109 rfl rfl rfl (by omega) (by omega) (by unfold maxLen;omega) ?_))))))))
 intro aw ax aV ay i
 refine Wn 1 rfl (Nx (Sq (Sr (Wn 1 rfl ?_))))
 have L:=hV.cutL c 1 (by omega) (by omega) edgeV_row
 have aW:=L.1
 refine Wa (.cutL (1) underlying32 sz81 rfl rfl (rfl) (by omega) (by omega)) rfl (Wr (.len underlying32 rfl) rfl (Wn 1 rfl (Nx (WC.block ?_))))
 refine WC.loop (ι:=Nat×(Option Addr)×Nat) (fun⟨k,Aa,ca⟩=>[(1,.int .i64 (a)),(2,.int .i64 (x)),(7,.pointer (some ⟨I,0,none⟩)),(10,.slice Y C.1.length Z),(11,.slice aa C.2.1.length ab),(13,.int .i64 ((((n:Nat):Int)-1))),(14,.slice Aa k ca),(50,.slice (cutA A c 1 9) (n-1) (c-1)),(51,.int .i64 ((((n-1):Nat):Int))),(52,.int .i64 (((k:Nat):Int)))]) (fun⟨k,Aa,ca⟩ b=>(k<=n-1)/\Le w b/\ax.heap.size<=b.heap.size/\Blk b I 41 #[.slice Ap np cp,.slice Ab nb cb]/\OVec b m.heap.size 3 iv 1 Y C.1.length Z C.1/\OVec b m.heap.size 3 iv 1 aa C.2.1.length ab C.2.1/\OVec b X.heap.size 109 hopV 6 Aa k ca ((List.range k).map (hopAt xs C.1 C.2.1 pts bl))) (fun⟨k,Aa,ca⟩=>n-1-k) (0,(some ⟨aw,0,none⟩),((n-1)+1)) ?_ ?_ ?_
 ·exact .of rfl
 ·exact⟨by omega,(f.trans i),Nat.le_refl _,(D.le i),(J.le i),(K.le i),ay⟩
 rintro⟨k,Aa,ca⟩ b ⟨hk,o,az,N,ad,ae,O⟩
 have aX:m.heap.size<=b.heap.size:=by have:=y.size;have:=i.size;omega
 have aY:m.heap.size<=b.heap.size:=by have:=y.size;have:=i.size;omega
 have af:X.heap.size<=b.heap.size:=by have:=i.size;omega
 refine Sr (Wn 1 rfl (Nx (Sq ?_)))
 by_cases c2:((k:Nat):Int)<(((n-1):Nat):Int)
 ·refine Cy rfl (dT c2) (Sn (Sq (WC.block (Sr (Wn 1 rfl (Wa (.idxS (k) underlying32 sz81 rfl rfl (L.isSome edgeV_row (by omega)) (rfl) (by omega)) rfl (Wr (.vload ag81 rfl (L.le o) edgeV_row (getS (xs.drop 1) noEdge (by first|omega|(simp only[List.length_cons,List.length_nil];omega)))) rfl ?_)))))))
  refine W.ef rfl rfl rfl (Ef.allocA z81 fun ah aA aB (aC:Blk aA ah 81 (edgeV noEdge).toArray) j=>(Wn 1 rfl (W.ef0 rfl rfl (Ef.storeAll sz81 (by rfl) rfl rfl aC (by simp only[List.size_toArray,edgeV_row.len]) (edgeV_row.one ((xs.drop 1).getD k noEdge)) ?_))))
  intro aE P l
  have P:Blk aE ah 81 (edgeV ((xs.drop 1).getD k noEdge)).toArray:=P
  refine Nx (WC.draw [0,1,2,3,4,5,6,7,8,9,10,11,12,13,14,15,16,17,18,19,20,21,22,23,24,25,26,27,28,29] mixed (by kernel_rfl) fun aF d=>?_)
  have Q:=((o.trans j).tb l o aB).trans d
  refine Gn 1 rfl (Ga rfl (.field0 fa81_1 rfl) ?_)
  have ai:=(P.le d)
  refine Gd rfl (.loadB (v:= .int .i64 (((xs.drop 1).getD k noEdge).t)) na3 rfl ai rfl) (Ga rfl (.field0 fa81_2 rfl) (Gd rfl (.loadB (v:= .int .i64 (((xs.drop 1).getD k noEdge).c)) na3 rfl ai rfl) (Gn 2 rfl (Ga rfl (.add rfl rfl (by omega)) (Ga rfl (.idxS ((k+1)) underlying23 sz3 rfl rfl (J.vec.isSome iv_row (by omega)) (by omega) (by omega)) ?_)))))
  have aj:=(((ad.le j).cb l (ad.rn (by omega))).le d)
  refine Gd rfl (.vone (v:= .int .i64 ((C.1.getD (k+1) 0))) na3 rfl aj.vec iv_row (getS C.1 0 (by first|omega|(simp only[List.length_cons,List.length_nil];omega))) rfl) ?_
  refine Gn 2 rfl (Ga rfl (.add rfl rfl (by omega)) (Ga rfl (.idxS ((k+1)) underlying23 sz3 rfl rfl (K.vec.isSome iv_row (by omega)) (by omega) (by omega)) ?_))
  have ak:=(((ae.le j).cb l (ae.rn (by omega))).le d)
  refine Gd rfl (.vone (v:= .int .i64 ((C.2.1.getD (k+1) 0))) na3 rfl ak.vec iv_row (getS C.2.1 0 (by first|omega|(simp only[List.length_cons,List.length_nil];omega))) rfl) ?_
  refine Ga rfl (.field0 fa41_0 rfl) ?_
  have R:=(((N.le j).cn l (by have:=N.lt;omega)).le d)
  refine Gd rfl (.loadB (v:= .slice Ap np cp) na39 rfl R rfl) (Gn 1 rfl (Ga rfl (.add rfl rfl (by omega)) (Ga rfl (.idxS ((k+1)) underlying39 sz43 rfl rfl (hP.isSome pv1_row (by omega)) (by omega) (by omega)) (Gd rfl (.vone (v:= .int .u64 ((((pts.getD (k+1) 0):Nat):Int))) na43 rfl (hP.le Q) pv1_row (getS pts 0 (by omega)) rfl) (Ga rfl (.field0 fa41_1 rfl) ?_)))))
  refine Gd rfl (.loadB (v:= .slice Ab nb cb) na35 rfl R rfl) (Gn 1 rfl (Ga rfl (.idxS (k) underlying35 sz28 rfl rfl (hB.isSome pv1_row (by omega)) (rfl) (by omega)) (Gd rfl (.vone (v:= .int .u64 ((((bl.getD k 0):Nat):Int))) na28 rfl (hB.le Q) pv1_row (getS bl 0 (by omega)) rfl) (Ga rfl (.buildP (hopV (((xs.drop 1).getD k noEdge).t,((xs.drop 1).getD k noEdge).c,(C.1.getD (k+1) 0),(C.2.1.getD (k+1) 0),(pts.getD (k+1) 0),(bl.getD k 0))) pl109 z109 rfl rfl) (G.ef rfl rfl rfl rfl rfl ?_)))))
  refine Ef.buildSliceV (len:=1) [_] underlying101 el109 rfl (by simp[Value.cells,hopV_row.len]) rfl (by decide) (by decide) ?_
  intro al am aG F e
  refine⟨fun _=>e,?_⟩
  have F:Blk am al 109 (([(((xs.drop 1).getD k noEdge).t,((xs.drop 1).getD k noEdge).c,(C.1.getD (k+1) 0),(C.2.1.getD (k+1) 0),(pts.getD (k+1) 0),(bl.getD k 0))]).map hopV).flatten.toArray:=F
  have aZ:OVec am aF.heap.size 109 hopV 6 (some ⟨al,0,none⟩) 1 1 ([(((xs.drop 1).getD k noEdge).t,((xs.drop 1).getD k noEdge).c,(C.1.getD (k+1) 0),(C.2.1.getD (k+1) 0),(pts.getD (k+1) 0),(bl.getD k 0))]):=F.ovec aG hopV_row rfl rfl (by decide)
  have s:=(((O.le j).cb l (O.rn (by omega))).le (d.trans e))
  refine G.ef rfl rfl rfl rfl rfl (Ef.vpush (a:=(((xs.drop 1).getD k noEdge).t,((xs.drop 1).getD k noEdge).c,(C.1.getD (k+1) 0),(C.2.1.getD (k+1) 0),(pts.getD (k+1) 0),(bl.getD k 0))) underlying101 el109 underlying101 hopV_row rfl s rfl F (by omega) (by unfold maxLen;omega) (by have:=af;have:=j.size;have:=l.size;have:=d.size;have:=e.size;omega) ?_)
  intro aH aI a0 aJ u a1
  refine noT (by kernel_rfl) (Gn 1 rfl (G.nil (E.blkN (E.thenN (WC.region (Wa (.add rfl rfl (by omega)) rfl (Wn 1 rfl (W.nil ?_))))))))
  have aK:=((R.le e).ch u (s.rl (by have:=D.lt;omega)))
  have aL:=((aj.le e).ch u ((Apart.symm (fun q S T=>by have:=(J.row S).2;have:=(s.row T).1;omega))))
  have aM:=((ak.le e).ch u ((Apart.symm (fun q S T=>by have:=(K.row S).2;have:=(s.row T).1;omega))))
  refine E.again (k+1,aH,aI) (.of rfl) ?_ ?_
  ·exact⟨by omega,((Q.trans e).then_ u (fun q hq=>Nat.le_trans f.size (s.row hq).1)),by have:=az;have:=j.size;have:=l.size;have:=d.size;have:=e.size;have:=u.size;omega,aK,aL,aM,(aJ).cast rfl (hops_next _ _ _ _ _ _)⟩
  first|omega|(simp only[];omega)
 refine Cn rfl (dF c2) (WC.exit (E.thenX (E.thenX (E.blkH (E.thenN (Sr (Wn 3 rfl (Wa (.field0 fa41_0 rfl) rfl (Wr (.loadB (v:= .slice Ap np cp) na39 rfl N rfl) rfl (Wn 1 rfl (Wa (.idxS ((n-1)) underlying39 sz43 rfl rfl (hP.isSome pv1_row (by omega)) (by omega) (by omega)) rfl ?_)))))))))))
 refine Wr (.vone (v:= .int .u64 ((((pts.getD (n-1) 0):Nat):Int))) na43 rfl (hP.le o) pv1_row (getS pts 0 (by omega)) rfl) rfl (Wa (.buildP (hopV ((-1),0,a,x,(pts.getD (n-1) 0),0)) pl109 z109 rfl rfl) rfl (W.ef rfl rfl rfl (Ef.buildSliceV (len:=1) [_] underlying101 el109 rfl (by simp[Value.cells,hopV_row.len]) rfl (by decide) (by decide) ?_)))
 intro an ao aO H U
 have H:Blk ao an 109 (([((-1),0,a,x,(pts.getD (n-1) 0),0)]).map hopV).flatten.toArray:=H
 have a2:OVec ao b.heap.size 109 hopV 6 (some ⟨an,0,none⟩) 1 1 ([((-1),0,a,x,(pts.getD (n-1) 0),0)]):=H.ovec aO hopV_row rfl rfl (by decide)
 have ap:=(O.le U)
 refine W.ef rfl rfl rfl (Ef.vpush (a:=((-1),0,a,x,(pts.getD (n-1) 0),0)) underlying101 el109 underlying101 hopV_row rfl ap rfl H (by omega) (by unfold maxLen;omega) (by have:=af;have:=U.size;omega) ?_)
 intro aP aQ a3 aR aS a4
 refine Wn 2 rfl (Nx (Rt (E.retG2 rfl rfl rfl ?_)))
 have hg:hopsG xs a x pts bl=(hopsL xs C.1 C.2.1 pts bl a x,0):=by rw[z,if_neg (by omega),if_neg (by omega)]
 have aT:k=xs.length-1:=by omega
 subst aT
 exact⟨aP,aQ,by rw[hg];simp[hopsL],by rw[hg];exact((aR.mono f.size)).cast (by simp[hopsL]) (by unfold hopsL;rw[hl]),((o.trans U).then_ aS (fun q hq=>Nat.le_trans f.size (ap.row hq).1))⟩
end Go.Proofs.YtocheaahlpiajaaGreatDoor

namespace Go.Proofs.YtocheaahlpiajaaGreatDoor
open Tryz
open Go Go.Sx Go.Hsp Go.Num Go.Osp Go.Gsp
set_option maxRecDepth 20000
theorem ints_ok {A B:Option Addr}{n c m d:Nat}{xs ys:List (Int)}(w:World)(hV:Vec w iv 1 A n xs)(hU:Vec w iv 1 B m ys)(hn:n<=1000000):Calls prog 34 #[.slice A n c,.slice B m d] w fun r w'=>r= .returned (.bool (decide (xs=ys)))/\Le w w':=by
 have hl:=hV.1
 have hm:=hU.1
 refine enter func34 rfl rfl ?_
 have i:=Le.refl w
 refine Sr (Wn 1 rfl (Nx (Sq (Sr (Wn 1 rfl (Wr (.len underlying23 rfl) rfl (Wn 1 rfl (Wr (.len underlying23 rfl) rfl (Wn 1 rfl (Nx ?_))))))))))
 by_cases l:((n:Nat):Int)≠((m:Nat):Int)
 ·refine Cy rfl (dT l) (Sr (Wn 1 rfl (Nx (Rt (E.thenR (E.retG1 rfl rfl ?_))))))
  exact⟨rB (dF (fun h=>by subst h;first|omega|exact absurd rfl (by assumption))).symm,i⟩
 refine Cn rfl (dF l) (Sn (Sq (Sr (Wn 1 rfl (Nx (WC.block (WC.loop (ι:=Nat) (fun k=>[(0,.slice A n c),(1,.slice B m d),(5,.int .i64 (((k:Nat):Int)))]) (fun k f=>(k<=n)/\(∀j,j<k->xs.getD j 0=ys.getD j 0)/\Le w f/\w.heap.size<=f.heap.size) (fun k=>n-k) 0 ?_ ?_ ?_)))))))
 ·exact .of rfl
 ·exact⟨Nat.zero_le _,fun j hj=>absurd hj (Nat.not_lt_zero _),i,Nat.le_refl _⟩
 rintro k f ⟨hk,hz,o,u⟩
 refine Sq (Sr (Wn 2 rfl (Wr (.len underlying23 rfl) rfl (Wn 1 rfl (Nx ?_)))))
 by_cases s:((k:Nat):Int)<((n:Nat):Int)
 ·refine Cy rfl (dT s) (Sn (Sq (WC.block (Sq (WC.draw [0,1,2,3,4,5,6,7,8] mixed (by kernel_rfl) fun x t=>?_)))))
  have b:=o.trans t
  refine Gn 2 rfl (Ga rfl (.idxS (k) underlying23 sz3 rfl rfl (hV.isSome iv_row (by omega)) (rfl) (by omega)) (Gd rfl (.vone (v:= .int .i64 ((xs.getD k 0))) na3 rfl (hV.le b) iv_row (getS xs 0 (by omega)) rfl) (Gn 2 rfl (Ga rfl (.idxS (k) underlying23 sz3 rfl rfl (hU.isSome iv_row (by omega)) (rfl) (by omega)) (Gd rfl (.vone (v:= .int .i64 ((ys.getD k 0))) na3 rfl (hU.le b) iv_row (getS ys 0 (by omega)) rfl) ?_)))))
  refine Gn 1 rfl (G.nil (E.thenN ?_))
  by_cases e:(xs.getD k 0)≠(ys.getD k 0)
  ·refine Cy rfl (dT e) (Sr (Wn 1 rfl (Nx (Rt (E.blkR (E.thenR (E.thenR (E.blkR (E.thenR (E.retG1 rfl rfl ?_))))))))))
   exact⟨rB (dF (fun h=>by subst h;first|omega|exact absurd rfl (by assumption))).symm,b⟩
  refine Cn rfl (dF e) (WC.skip (E.blkN (E.thenN (WC.region (Wn 1 rfl (Wa (.add rfl rfl (by omega)) rfl (Wn 1 rfl (W.nil (E.again (k+1) (.of rfl) ?_ ?_)))))))))
  ·exact⟨by omega,fun j hj=>by rcases Nat.lt_or_ge j k with h|h;exact hz j h;rw[show j=k by omega];first|exact Decidable.not_not.1 e|exact e,b,by have:=u;have:=t.size;omega⟩
  first|omega|(simp only[];omega)
 refine Cn rfl (dF s) (WC.exit (E.thenX (E.thenX (E.blkH (E.thenN (Sr (Wn 1 rfl (Nx (Rt (E.retG1 rfl rfl ?_))))))))))
 exact⟨rB (dT (ext_getD (by omega) (fun j hj=>hz j (by omega)))).symm,o⟩



end Go.Proofs.YtocheaahlpiajaaGreatDoor

namespace Go.Proofs.YtocheaahlpiajaaGreatDoor
open Tryz
open Go Go.Sx Go.Hsp Go.Num Go.Osp Go.Gsp
set_option maxRecDepth 20000
def condV (c:Cnd):List Value:=[.int .i64 c.fr,.int .i64 c.id,.int .i64 c.am,.int .u64 ((c.pt:Nat):Int),.int .i64 c.ex]
theorem condV_row:RowF condV 5:=⟨fun _=>rfl,fun x v hv=>by simp[condV]at hv;rcases hv with rfl|rfl|rfl|rfl|rfl<;>rfl,by decide⟩
def bndV (b:Bnd):List Value:=[.int .i64 b.jam,.int .i64 b.bar,.int .i64 b.nap]
theorem told_ok (h:Hop)(w:World):Calls prog 140 #[.agg (hopV h).toArray] w fun r w'=>r= .returned (.agg (condV (toldC h)).toArray)/\Le w w':=by
 refine enter func140 rfl rfl (Sr (W.ef rfl rfl rfl (Ef.boxA rfl fun i j u (k:Blk j i 109 (hopV h).toArray) l=>?_)))
 have d:=(Le.refl w).trans l
 refine W.ef rfl rfl rfl (Ef.allocA z107 fun e m n (o:Blk m e 107 (condV noCnd).toArray) f=>(Nx (Sr (Wa (.field0 fa109_2 rfl) rfl ?_))))
 have b:=(k.le f)
 refine Wr (.loadB (v:= .int .i64 (h.2.2.1)) na3 rfl b rfl) rfl (Wa (.field0 fa109_4 rfl) rfl (Wr (.loadB (v:= .int .u64 (((h.2.2.2.2.1:Nat):Int))) na43 rfl b rfl) rfl (Wa (.field0 fa109_3 rfl) rfl (Wr (.loadB (v:= .int .i64 (h.2.2.2.1)) na3 rfl b rfl) rfl (Wa (.buildP (condV (⟨0,0,h.2.2.1,h.2.2.2.2.1,h.2.2.2.1⟩)) pl107 z107 rfl rfl) rfl ?_)))))
 refine W.ef0 rfl rfl (Ef.storeAll sz107 (by rfl) rfl rfl o (by simp only[List.size_toArray,condV_row.len]) (condV_row.one (⟨0,0,h.2.2.1,h.2.2.2.2.1,h.2.2.2.1⟩)) ?_)
 intro s c t
 have c:Blk s e 107 (condV (⟨0,0,h.2.2.1,h.2.2.2.2.1,h.2.2.2.1⟩)).toArray:=c
 refine Nx (Rt (E.retG1 rfl (resA rfl c ag107 (by rfl)) ?_))
 exact⟨rfl,((d.trans f).tb t d n)⟩

theorem passed_ok (c:Cnd)(hc:c.pt<18446744073709551616)(w:World):Calls prog 139 #[.agg (condV c).toArray] w fun r w'=>r= .returned (.bool (passedB c))/\Le w w':=by
 refine enter func139 rfl rfl (Sr (W.ef rfl rfl rfl (Ef.boxA rfl fun o h y (i:Blk h o 107 (condV c).toArray) s=>(Wn 1 rfl (Nx (Sr (Wa (.field0 fa107_2 rfl) rfl (Wr (.loadB (v:= .int .i64 (c.am)) na3 rfl i rfl) rfl ?_))))))))
 refine W.cl go144 rfl rfl (hin_ok c.am 1 1125899906842624 h) ?_
 rintro _ t ⟨rfl,j⟩
 have k:=((Le.refl w).trans s).trans j
 by_cases b:(inB c.am 1 1125899906842624)=true
 ·refine Wa (.dec (.move rfl) (b)) rfl (Wg (Any.rd (.field0 fa107_4 rfl) _) rfl ?_)
  have l:=(i.le j)
  refine Wg (.loadB (v:= .int .i64 (c.ex)) na3 rfl l rfl) rfl (W.efg rfl rfl rfl (rfl) rfl rfl (Ef.call go144 rfl rfl (hin_ok c.ex 1 1048576 t) ?_))
  rintro _ u ⟨rfl,m⟩
  refine⟨_,rfl,?_⟩
  have f:=k.trans m
  refine Wn 1 rfl ?_
  by_cases d:(inB c.ex 1 1048576)=true
  ·refine Wa (.dec (.move rfl) (d)) rfl (Wg (Any.rd (.field0 fa107_3 rfl) _) rfl ?_)
   have n:=(l.le m)
   refine Wg (.loadB (v:= .int .u64 (((c.pt:Nat):Int))) na43 rfl n rfl) rfl (Wn 2 rfl ?_)
   by_cases e:((c.pt:Nat):Int)≠1
   ·refine Dt e rfl rfl (Wg (Any.rd (.field0 fa107_3 rfl) _) rfl (Wg (.loadB (v:= .int .u64 (((c.pt:Nat):Int))) na43 rfl n rfl) rfl (W.efg rfl rfl rfl (rfl) rfl rfl (Ef.call go75 rfl rfl (pright_ok c.pt hc u) ?_))))
    rintro _ z ⟨rfl,x⟩
    refine⟨_,rfl,?_⟩
    refine Wn 2 rfl (Nx (Rt (E.retG1 rfl rfl ?_)))
    exact⟨rB (by unfold passedB;rw[Bool.eq_iff_iff];simp only[Bool.and_eq_true,decide_eq_true_eq,Bool.false_eq_true,false_iff];first|(simp[b,d,e];done)|(simp[b,d,e];omega)),(f.trans x)⟩
   refine Df e rfl rfl (Wn 5 rfl (Nx (Rt (E.retG1 rfl rfl ?_))))
   exact⟨rB (by unfold passedB;rw[Bool.eq_iff_iff];simp only[Bool.and_eq_true,decide_eq_true_eq,Bool.false_eq_true,false_iff];first|(simp[b,d,e];done)|(simp[b,d,e];omega)),f⟩
  refine Wa (.dec (.move rfl) ((Bool.eq_false_iff.2 d))) rfl (Wn 10 rfl (Nx (Rt (E.retG1 rfl rfl ?_))))
  exact⟨rB (by unfold passedB;rw[Bool.eq_iff_iff];simp only[Bool.and_eq_true,decide_eq_true_eq,Bool.false_eq_true,false_iff];first|(simp[b,d];done)|(simp[b,d];omega)),f⟩
 refine Wa (.dec (.move rfl) ((Bool.eq_false_iff.2 b))) rfl (Wn 15 rfl (Nx (Rt (E.retG1 rfl rfl ?_))))
 exact⟨rB (by unfold passedB;rw[Bool.eq_iff_iff];simp only[Bool.and_eq_true,decide_eq_true_eq,Bool.false_eq_true,false_iff];first|(simp[b];done)|(simp[b];omega)),k⟩

theorem world_ok (h:Int)(b:Bnd)(w:World):Calls prog 141 #[.int .i64 (h),.agg (bndV b).toArray] w fun r w'=>r= .returned (.bool (worldB h b))/\Le w w':=by
 refine enter func141 rfl rfl (Sr (W.ef rfl rfl rfl (Ef.boxA rfl fun t f D (u:Blk f t 100 (bndV b).toArray) x=>(Wn 1 rfl (Nx (Sr (Wn 1 rfl (W.cl go144 rfl rfl (hin_ok h 0 1048576 f) ?_))))))))
 rintro _ y ⟨rfl,i⟩
 have j:=((Le.refl w).trans x).trans i
 by_cases c:(inB h 0 1048576)=true
 ·refine Wa (.dec (.move rfl) (c)) rfl (Wg (Any.rd (.field0 fa100_0 rfl) _) rfl ?_)
  have k:=(u.le i)
  refine Wg (.loadB (v:= .int .i64 (b.jam)) na3 rfl k rfl) rfl (W.efg rfl rfl rfl (rfl) rfl rfl (Ef.call go144 rfl rfl (hin_ok b.jam 0 1000 y) ?_))
  rintro _ z ⟨rfl,l⟩
  refine⟨_,rfl,?_⟩
  have m:=j.trans l
  refine Wn 1 rfl ?_
  by_cases d:(inB b.jam 0 1000)=true
  ·refine Wa (.dec (.move rfl) (d)) rfl (Wg (Any.rd (.field0 fa100_1 rfl) _) rfl ?_)
   have n:=(k.le l)
   refine Wg (.loadB (v:= .int .i64 (b.bar)) na3 rfl n rfl) rfl (W.efg rfl rfl rfl (rfl) rfl rfl (Ef.call go144 rfl rfl (hin_ok b.bar 0 1000 z) ?_))
   rintro _ A ⟨rfl,o⟩
   refine⟨_,rfl,?_⟩
   have s:=m.trans o
   refine Wn 1 rfl ?_
   by_cases e:(inB b.bar 0 1000)=true
   ·refine Wa (.dec (.move rfl) (e)) rfl (Wg (Any.rd (.field0 fa100_2 rfl) _) rfl (Wg (.loadB (v:= .int .i64 (b.nap)) na3 rfl (n.le o) rfl) rfl (W.efg rfl rfl rfl (rfl) rfl rfl (Ef.call go144 rfl rfl (hin_ok b.nap 0 1000 A) ?_))))
    rintro _ F ⟨rfl,C⟩
    refine⟨_,rfl,?_⟩
    refine Wn 2 rfl (Nx (Rt (E.retG1 rfl rfl ?_)))
    exact⟨rB (by simp[worldB,c,d,e]),(s.trans C)⟩
   refine Wa (.dec (.move rfl) ((Bool.eq_false_iff.2 e))) rfl (Wn 5 rfl (Nx (Rt (E.retG1 rfl rfl ?_))))
   exact⟨rB (by simp[worldB,c,d,e]),s⟩
  refine Wa (.dec (.move rfl) ((Bool.eq_false_iff.2 d))) rfl (Wn 10 rfl (Nx (Rt (E.retG1 rfl rfl ?_))))
  exact⟨rB (by simp[worldB,c,d]),m⟩
 refine Wa (.dec (.move rfl) ((Bool.eq_false_iff.2 c))) rfl (Wn 15 rfl (Nx (Rt (E.retG1 rfl rfl ?_))))
 exact⟨rB (by simp[worldB,c]),j⟩

theorem own_ok (h:Hop)(hp:h.2.2.2.2.1<18446744073709551616)(hr:right h.2.2.2.2.1=true)(w:World):Calls prog 142 #[.agg (hopV h).toArray] w fun r w'=>r= .returned (.int .u64 ((ownP h:Nat):Int))/\Le w w':=by
 refine enter func142 rfl rfl (Sr (W.ef rfl rfl rfl (Ef.boxA rfl fun i d s (e:Blk d i 109 (hopV h).toArray) j=>(Wn 1 rfl (Nx (Sr (Wa (.field0 fa109_4 rfl) rfl (Wr (.loadB (v:= .int .u64 (((h.2.2.2.2.1:Nat):Int))) na43 rfl e rfl) rfl ?_))))))))
 refine Wa (.field0 fa109_5 rfl) rfl (Wr (.loadB (v:= .int .u64 (((h.2.2.2.2.2:Nat):Int))) na28 rfl e rfl) rfl (W.ef rfl rfl rfl (Ef.buildSliceV (len:=1) [_] underlying35 el28 rfl (by simp[Value.cells]) rfl (by decide) (by decide) ?_)))
 intro f b k c l
 have c:Blk b f 28 (([h.2.2.2.2.2]).map pv1).flatten.toArray:=c
 have m:OVec b d.heap.size 28 pv1 1 (some ⟨f,0,none⟩) 1 1 ([h.2.2.2.2.2]):=c.ovec k pv1_row rfl rfl (by decide)
 refine W.cl go76 rfl rfl (pfrom_ok _ hp hr b (Vec.sl (g1:=pv) m.vec) (by decide)) ?_
 rintro _ n ⟨gf,rfl,hgf,bf,o⟩
 have of:OVec n _ 43 pv1 1 (some ⟨gf,0,none⟩) 2 2 (fromP h.2.2.2.2.1 [h.2.2.2.2.2]):=bf.ovec hgf pv1_row (flat_sing (g1:=pv) _).symm rfl (by decide)
 refine Wa (.idxS (0) underlying39 sz43 rfl rfl (of.vec.isSome pv1_row (by omega)) (rfl) (by omega)) rfl (Wr (.vone (v:= .int .u64 ((((ownP h):Nat):Int))) na43 rfl of.vec pv1_row (rfl) rfl) rfl (Wn 1 rfl (Nx (Rt (E.retG1 rfl rfl ?_)))))
 exact⟨rfl,((((Le.refl w).trans j).trans l).trans o)⟩

theorem may_ok2 (x y:Cnd)(p:Pol)(h:Int)(b:Bnd)(hx:x.pt<18446744073709551616)(hy:y.pt<18446744073709551616)(hp:PolI p)(w:World):Calls prog 143 #[.agg (condV x).toArray,.agg (condV y).toArray,.agg (polV p).toArray,.int .i64 (h),.agg (bndV b).toArray] w fun r w'=>r= .returned (.int .i64 (mayE x y p h b))/\Le w w':=by
 refine enter func143 rfl rfl (Sr (W.ef rfl rfl rfl (Ef.boxA rfl fun ab ac aw (ad:Blk ac ab 107 (condV x).toArray) ae=>(W.ef rfl rfl rfl (Ef.boxA rfl fun af ah ax (ai:Blk ah af 107 (condV y).toArray) L=>(W.ef rfl rfl rfl ?_))))))
 refine Ef.boxA rfl fun aj ak ay (al:Blk ak aj 79 (polV p).toArray) I=>(W.ef rfl rfl rfl (Ef.boxA rfl fun an N az (ao:Blk N an 100 (bndV b).toArray) H=>(Wn 1 rfl (Nx (Sq (Sr ?_))))))
 have O:=(al.le H)
 refine Wr (.loadAll ag79 (by rfl) rfl O) rfl ?_
 refine W.cl go206 rfl rfl (hright_ok p N) ?_
 rintro _ ap ⟨rfl,u⟩
 have P:=(((((Le.refl w).trans ae).trans L).trans I).trans H).trans u
 refine Wn 1 rfl ?_
 by_cases c:(polOk p)=true
 ·refine Wa (.dec (.move rfl) (congrArg not (c))) rfl ?_
  have Q:=(ad.le (L.trans (I.trans (H.trans u))))
  refine Wg (.loadAll ag107 (by rfl) rfl Q) rfl ?_
  refine W.efg rfl rfl rfl (rfl) rfl rfl (Ef.call go139 rfl rfl (passed_ok x hx ap) ?_)
  rintro _ aq ⟨rfl,z⟩
  refine⟨_,rfl,?_⟩
  have R:=P.trans z
  refine Wn 2 rfl ?_
  by_cases e:(passedB x)=true
  ·refine Wa (.dec (.move rfl) (congrArg not (e))) rfl ?_
   have S:=(ai.le (I.trans (H.trans (u.trans z))))
   refine Wg (.loadAll ag107 (by rfl) rfl S) rfl ?_
   refine W.efg rfl rfl rfl (rfl) rfl rfl (Ef.call go139 rfl rfl (passed_ok y hy aq) ?_)
   rintro _ ar ⟨rfl,A⟩
   refine⟨_,rfl,?_⟩
   have T:=R.trans A
   refine Wn 2 rfl ?_
   by_cases f:(passedB y)=true
   ·refine Wa (.dec (.move rfl) (congrArg not (f))) rfl (Wn 1 rfl ?_)
    have U:=(ao.le (u.trans (z.trans A)))
    refine Wg (.loadAll ag100 (by rfl) rfl U) rfl ?_
    refine W.efg rfl rfl rfl (rfl) rfl rfl (Ef.call go141 rfl rfl (world_ok h b ar) ?_)
    rintro _ au ⟨rfl,C⟩
    refine⟨_,rfl,?_⟩
    have V:=T.trans C
    refine Wn 2 rfl (Nx ?_)
    by_cases i:(worldB h b)=true
    ·refine Cn rfl (congrArg not (i)) ?_
     have hpx:=passedB_T (by assumption:passedB x=true)
     have hpy:=passedB_T (by assumption:passedB y=true)
     have hwd:=worldB_T (by assumption:worldB h b=true)
     refine Sn (Sr ?_)
     have X:=(O.le (u.trans (z.trans (A.trans C))))
     refine Wr (.loadAll ag79 (by rfl) rfl X) rfl ?_
     refine Wa (.field0 fa107_2 rfl) rfl ?_
     have Y:=(S.le (A.trans C))
     refine Wr (.loadB (v:= .int .i64 (y.am)) na3 rfl Y rfl) rfl (W.cl go103 rfl rfl (hfee_ok p y.am hp au) ?_)
     rintro _ av ⟨rfl,D⟩
     refine Wn 5 rfl (Nx (Sq (WC.block (Sq (WC.block (WC.block (Sq (WC.block (Sq (WC.block (Sq (Sq (Sr (Wa (.field0 fa107_2 rfl) rfl ?_))))))))))))))
     have Z:=(Y.le D)
     refine Wr (.loadB (v:= .int .i64 (y.am)) na3 rfl Z rfl) rfl (Wa (.field0 fa79_3 rfl) rfl ?_)
     have J:=(X.le D)
     refine Wr (.loadB (v:= .int .i64 (p.l)) na3 rfl J rfl) rfl (Wa (.field0 fa79_4 rfl) rfl (Wr (.loadB (v:= .int .i64 (p.m)) na3 rfl J rfl) rfl (W.cl go144 rfl rfl (hin_ok y.am p.l p.m av) ?_)))
     rintro _ aA ⟨rfl,F⟩
     have s:=(V.trans D).trans F
     refine Wn 2 rfl (Nx ?_)
     by_cases j:(inB y.am p.l p.m)=true
     ·refine Cn rfl (congrArg not (j)) (Sn (Sq (Sr (Wn 2 rfl ?_))))
      by_cases k:((feeG p y.am).2)=true
      ·refine Wa (.dec (.move rfl) (congrArg not (k))) rfl (Wg (Any.rd (.field0 fa107_2 rfl) _) rfl ?_)
       have aa:=(Q.le (z.trans (A.trans (C.trans (D.trans F)))))
       refine Wg (.loadB (v:= .int .i64 (x.am)) na3 rfl aa rfl) rfl (Wg (Any.rd (.field0 fa107_2 rfl) _) rfl ?_)
       have K:=(Z.le F)
       refine Wg (.loadB (v:= .int .i64 (y.am)) na3 rfl K rfl) rfl (Wg (Any.rd (.sub rfl rfl (by omega)) _) rfl (Wn 4 rfl (Nx ?_)))
       by_cases n:(x.am-y.am)<((feeG p y.am).1)
       ·refine Cy rfl (dT n) (WC.exit (E.thenX (E.thenX (E.blkX rfl (E.thenX (E.blkH (E.thenN (Sq (Sr (Wn 1 rfl (Nx (Rt (E.thenR (E.blkR (E.blkR (E.thenR (E.blkR (E.thenR (E.retG1 rfl rfl ?_)))))))))))))))))))
        exact⟨by unfold mayE;first|(simp[c,e,f,i,j,k,n];done)|(simp[c,e,f,i,j,k,n];omega),s⟩
       refine Cn rfl (dF n) (Sn (Sq (Sr (Wa (.field0 fa107_4 rfl) rfl (Wr (.loadB (v:= .int .i64 (x.ex)) na3 rfl aa rfl) rfl (Wa (.field0 fa107_4 rfl) rfl (Wr (.loadB (v:= .int .i64 (y.ex)) na3 rfl K rfl) rfl ?_)))))))
       refine Wa (.sub rfl rfl (by omega)) rfl (Wa (.field0 fa79_2 rfl) rfl (Wr (.loadB (v:= .int .i64 (p.d)) na3 rfl (J.le F) rfl) rfl (Wn 2 rfl (Nx ?_))))
       by_cases o:(x.ex-y.ex)<p.d
       ·refine Cy rfl (dT o) (WC.exit (E.thenX (E.thenX (E.blkX rfl (E.thenX (E.blkX rfl (E.thenX (E.blkH (E.blkN (E.thenN (Sq (Sr (Wn 1 rfl (Nx (Rt (E.thenR (E.blkR (E.thenR (E.retG1 rfl rfl ?_)))))))))))))))))))
        exact⟨by unfold mayE;first|(simp[c,e,f,i,j,k,n,o];done)|(simp[c,e,f,i,j,k,n,o];omega),s⟩
       refine Cn rfl (dF o) (Sn (Sr (Wa (.field0 fa107_4 rfl) rfl (Wr (.loadB (v:= .int .i64 (y.ex)) na3 rfl K rfl) rfl (Wn 1 rfl (Wa (.sub rfl rfl (by omega)) rfl ?_))))))
       refine Wa (.field0 fa100_2 rfl) rfl (Wr (.loadB (v:= .int .i64 (b.nap)) na3 rfl (U.le (C.trans (D.trans F))) rfl) rfl (Wn 2 rfl (Nx ?_)))
       by_cases t:(y.ex-h)<=b.nap
       ·refine Cy rfl (dT t) (WC.exit (E.thenX (E.blkX rfl (E.thenX (E.blkX rfl (E.thenX (E.blkX rfl (E.blkH (E.thenN (Sq (Sr (Wn 1 rfl (Nx (Rt (E.thenR (E.blkR (E.thenR (E.retG1 rfl rfl ?_))))))))))))))))))
        exact⟨by unfold mayE;first|(simp[c,e,f,i,j,k,n,o,t];done)|(simp[c,e,f,i,j,k,n,o,t];omega),s⟩
       refine Cn rfl (dF t) (Sn (WC.exit (E.blkX rfl (E.thenX (E.blkX rfl (E.thenX (E.blkX rfl (E.blkX rfl (E.thenX (E.blkH (E.thenN (Sr (Wn 1 rfl (Nx (Rt (E.retG1 rfl rfl ?_))))))))))))))))
       exact⟨by unfold mayE;first|(simp[c,e,f,i,j,k,n,o,t];done)|(simp[c,e,f,i,j,k,n,o,t];omega),s⟩
      refine Wa (.dec (.move rfl) (congrArg not ((Bool.eq_false_iff.2 k)))) rfl (Wn 9 rfl (Nx (WC.condT rfl (WC.exit (E.thenX (E.thenX (E.blkX rfl (E.thenX (E.blkH (E.thenN (Sq (Sr (Wn 1 rfl (Nx (Rt (E.thenR (E.blkR (E.blkR (E.thenR (E.blkR (E.thenR (E.retG1 rfl rfl ?_))))))))))))))))))))))
      exact⟨by unfold mayE;first|(simp[c,e,f,i,j,k];done)|(simp[c,e,f,i,j,k];omega),s⟩
     refine Cy rfl (congrArg not ((Bool.eq_false_iff.2 j))) (WC.exit (E.thenX (E.thenX (E.blkH (E.thenN (Sq (Sr (Wn 1 rfl (Nx (Rt (E.thenR (E.blkR (E.thenR (E.blkR (E.blkR (E.thenR (E.blkR (E.thenR (E.retG1 rfl rfl ?_)))))))))))))))))))
     exact⟨by unfold mayE;first|(simp[c,e,f,i,j];done)|(simp[c,e,f,i,j];omega),s⟩
    refine Cy rfl (congrArg not ((Bool.eq_false_iff.2 i))) (Sr (Wn 1 rfl (Nx (Rt (E.thenR (E.retG1 rfl rfl ?_))))))
    exact⟨by unfold mayE;first|(simp[c,e,f,i];done)|(simp[c,e,f,i];omega),V⟩
   refine Wa (.dec (.move rfl) (congrArg not ((Bool.eq_false_iff.2 f)))) rfl (Wn 5 rfl (Nx (WC.condT rfl (Sr (Wn 1 rfl (Nx (Rt (E.thenR (E.retG1 rfl rfl ?_)))))))))
   exact⟨by unfold mayE;first|(simp[c,e,f];done)|(simp[c,e,f];omega),T⟩
  refine Wa (.dec (.move rfl) (congrArg not ((Bool.eq_false_iff.2 e)))) rfl (Wn 10 rfl (Nx (WC.condT rfl (Sr (Wn 1 rfl (Nx (Rt (E.thenR (E.retG1 rfl rfl ?_)))))))))
  exact⟨by unfold mayE;first|(simp[c,e];done)|(simp[c,e];omega),R⟩
 refine Wa (.dec (.move rfl) (congrArg not ((Bool.eq_false_iff.2 c)))) rfl (Wn 15 rfl (Nx (WC.condT rfl (Sr (Wn 1 rfl (Nx (Rt (E.thenR (E.retG1 rfl rfl ?_)))))))))
 exact⟨by unfold mayE;first|(simp[c];done)|(simp[c];omega),P⟩

theorem hnext_ok (h:Hop)(x:Cnd)(p:Pol)(ht:Int)(b:Bnd)(hx:x.pt<18446744073709551616)(hy:(toldC h).pt<18446744073709551616)(hp:PolI p)(w:World):Calls prog 55 #[.agg (hopV h).toArray,.agg (condV x).toArray,.agg (polV p).toArray,.int .i64 (ht),.agg (bndV b).toArray] w fun r w'=>r= .returned (.tuple #[.agg (condV (nextE h x p ht b).1).toArray,.int .i64 (nextE h x p ht b).2])/\Le w w':=by
 refine enter func55 rfl rfl (Sr (W.ef rfl rfl rfl (Ef.boxA rfl fun ac ad aU (ae:Blk ad ac 109 (hopV h).toArray) af=>(W.ef rfl rfl rfl (Ef.boxA rfl fun ah ai aV (N:Blk ai ah 107 (condV x).toArray) O=>(W.ef rfl rfl rfl ?_))))))
 refine Ef.boxA rfl fun aj ak aW (P:Blk ak aj 79 (polV p).toArray) y=>(W.ef rfl rfl rfl (Ef.boxA rfl fun al am aX (Q:Blk am al 100 (bndV b).toArray) s=>?_))
 have m:=((((Le.refl w).trans af).trans O).trans y).trans s
 refine W.ef rfl rfl rfl (Ef.allocA z107 fun n R t (d:Blk R n 107 (condV noCnd).toArray) l=>(Wn 1 rfl (Nx (Sr ?_))))
 have A:=(ae.le (O.trans (y.trans (s.trans l))))
 refine Wr (.loadAll ag109 (by rfl) rfl A) rfl ?_
 refine W.cl go140 rfl rfl (told_ok h R) ?_
 rintro _ aY ⟨rfl,c⟩
 have S:=(m.trans l).trans c
 refine W.ef rfl rfl rfl (Ef.allocA z107 fun T an ao (ap:Blk an T 107 (condV noCnd).toArray) e=>(W.ef0 rfl rfl (Ef.storeAll sz107 (by rfl) rfl rfl ap (by simp only[List.size_toArray,condV_row.len]) (condV_row.one (toldC h)) ?_)))
 intro U z f
 have z:Blk U T 107 (condV (toldC h)).toArray:=z
 refine Nx (Sr ?_)
 have V:=((N.le (y.trans (s.trans (l.trans (c.trans e))))).cn f (by have:=N.lt;have:=y.size;have:=s.size;have:=l.size;have:=c.size;omega))
 refine Wr (.loadAll ag107 (by rfl) rfl V) rfl ?_
 refine Wr (.loadAll ag107 (by rfl) rfl z) rfl ?_
 refine Wr (.loadAll ag79 (by rfl) rfl ((P.le (s.trans (l.trans (c.trans e)))).cn f (by have:=P.lt;have:=s.size;have:=l.size;have:=c.size;omega))) rfl ?_
 refine Wn 1 rfl (Wr (.loadAll ag100 (by rfl) rfl ((Q.le (l.trans (c.trans e))).cn f (by have:=Q.lt;have:=l.size;have:=c.size;omega))) rfl ?_)
 refine W.cl go143 rfl rfl (may_ok2 x (toldC h) p ht b hx hy hp U) ?_
 rintro _ aq ⟨rfl,i⟩
 refine Wn 1 rfl (Nx (Sq (WC.block (Sr (Wa (.field0 fa109_0 rfl) rfl ?_)))))
 have X:=(((A.le (c.trans e)).cn f (by have:=A.lt;have:=c.size;omega)).le i)
 refine Wr (.loadB (v:= .int .i64 (h.1)) na3 rfl X rfl) rfl (W.cl go144 rfl rfl (hin_ok h.1 0 11 aq) ?_)
 rintro _ ar ⟨rfl,j⟩
 have Y:=(((S.trans e).tb f S ao).trans i).trans j
 refine Wn 1 rfl ?_
 by_cases Z:(inB h.1 0 11)=true
 ·refine Wa (.dec (.move rfl) (congrArg not (Z))) rfl (Wg (Any.rd (.field0 fa109_1 rfl) _) rfl ?_)
  have aa:=(X.le j)
  refine Wg (.loadB (v:= .int .i64 (h.2.1)) na3 rfl aa rfl) rfl (W.efg rfl rfl rfl (rfl) rfl rfl (Ef.call go144 rfl rfl (hin_ok h.2.1 0 39 ar) ?_))
  rintro _ aZ ⟨rfl,k⟩
  refine⟨_,rfl,?_⟩
  have C:=Y.trans k
  refine Wn 2 rfl ?_
  by_cases ab:(inB h.2.1 0 39)=true
  ·refine Wa (.dec (.move rfl) (congrArg not (ab))) rfl (Wn 4 rfl (Nx ?_))
   by_cases c0:(mayE x (toldC h) p ht b)=1
   ·refine Cy rfl (dT c0) (Sr (Wa (.buildP (condV (⟨0,0,0,0,0⟩)) pl107 z107 rfl rfl) rfl ?_))
    have au:=(((d.le (c.trans e)).cn f (by have:=d.lt;have:=c.size;omega)).le (i.trans (j.trans k)))
    refine W.ef0 rfl rfl (Ef.storeAll sz107 (by rfl) rfl rfl au (by simp only[List.size_toArray,condV_row.len]) (condV_row.one (⟨0,0,0,0,0⟩)) ?_)
    intro av D aw
    have D:Blk av n 107 (condV (⟨0,0,0,0,0⟩)).toArray:=D
    have ax:=C.tb aw m t
    refine Wn 1 rfl (Nx (Rt (E.blkR (E.thenR (E.retG2 rfl (resA rfl D ag107 (by rfl)) rfl ?_)))))
    have hnx:nextE h x p ht b=(noCnd,1):=by unfold nextE;rw[if_neg (fun hh=>by first|exact absurd hh.1 (by assumption)|exact absurd hh.2.1 (by assumption)|exact hh.2.2 (by assumption))]
    exact⟨by rw[hnx];first|done|rfl,ax⟩
   refine Cn rfl (dF c0) ?_
   have hpy:=passedB_T (mayE_in (by assumption:¬mayE x (toldC h) p ht b=1)).2.2.1
   refine Sq (WC.draw [0,1,2,3,4,5] mixed (by kernel_rfl) fun w5 o=>(Ga rfl (.field0 fa107_3 rfl) (Gd rfl (.loadB (v:= .int .u64 (((x.pt:Nat):Int))) na43 rfl (V.le (i.trans (j.trans (k.trans o)))) rfl) (Gd rfl (.loadAll ag109 (by rfl) rfl (aa.le (k.trans o))) ?_))))
   refine G.ef rfl rfl rfl rfl rfl (Ef.call go142 rfl rfl (own_ok h hy hpy.2.2.2 w5) ?_)
   rintro _ a0 ⟨rfl,u⟩
   refine⟨_,rfl,?_⟩
   refine⟨fun _=>u,?_⟩
   have F:=(C.trans o).trans u
   refine Gn 2 rfl (G.nil (E.thenN ?_))
   by_cases c1:((x.pt:Nat):Int)≠((ownP h:Nat):Int)
   ·refine Cy rfl (dT c1) (Sr (Wa (.buildP (condV (⟨0,0,0,0,0⟩)) pl107 z107 rfl rfl) rfl ?_))
    have ay:=(((d.le (c.trans e)).cn f (by have:=d.lt;have:=c.size;omega)).le (i.trans (j.trans (k.trans (o.trans u)))))
    refine W.ef0 rfl rfl (Ef.storeAll sz107 (by rfl) rfl rfl ay (by simp only[List.size_toArray,condV_row.len]) (condV_row.one (⟨0,0,0,0,0⟩)) ?_)
    intro az H aA
    have H:Blk az n 107 (condV (⟨0,0,0,0,0⟩)).toArray:=H
    have aB:=F.tb aA m t
    refine Wn 1 rfl (Nx (Rt (E.blkR (E.thenR (E.retG2 rfl (resA rfl H ag107 (by rfl)) rfl ?_)))))
    have hnx:nextE h x p ht b=(noCnd,23):=by unfold nextE;rw[if_pos ⟨by assumption,by assumption,by assumption⟩,if_neg (by omega)]
    exact⟨by rw[hnx];first|done|rfl,aB⟩
   refine Cn rfl (dF c1) (Sr (Wn 3 rfl (Nx ?_)))
   by_cases c2:(mayE x (toldC h) p ht b)≠0
   ·refine Cy rfl (dT c2) (Sr (Wa (.buildP (condV (⟨0,0,0,0,0⟩)) pl107 z107 rfl rfl) rfl (Wn 1 rfl ?_)))
    have aC:=(((d.le (c.trans e)).cn f (by have:=d.lt;have:=c.size;omega)).le (i.trans (j.trans (k.trans (o.trans u)))))
    refine W.ef0 rfl rfl (Ef.storeAll sz107 (by rfl) rfl rfl aC (by simp only[List.size_toArray,condV_row.len]) (condV_row.one (⟨0,0,0,0,0⟩)) ?_)
    intro aE I aF
    have I:Blk aE n 107 (condV (⟨0,0,0,0,0⟩)).toArray:=I
    have aG:=F.tb aF m t
    refine Wn 1 rfl (Nx (Rt (E.blkR (E.thenR (E.retG2 rfl (resA rfl I ag107 (by rfl)) rfl ?_)))))
    have hnx:nextE h x p ht b=(noCnd,mayE x (toldC h) p ht b):=by unfold nextE;rw[if_pos ⟨by assumption,by assumption,by assumption⟩,if_pos (by omega),if_neg (by assumption)]
    exact⟨by rw[hnx];first|done|rfl,aG⟩
   refine Cn rfl (dF c2) (WC.skip (E.blkN (E.thenN (Sr (Wr (.loadAll ag107 (by rfl) rfl (z.le (i.trans (j.trans (k.trans (o.trans u)))))) rfl ?_)))))
   have aH:=(((d.le (c.trans e)).cn f (by have:=d.lt;have:=c.size;omega)).le (i.trans (j.trans (k.trans (o.trans u)))))
   refine W.ef0 rfl rfl (Ef.storeAll sz107 (by rfl) rfl rfl aH (by simp only[List.size_toArray,condV_row.len]) (condV_row.one (toldC h)) ?_)
   intro aI J aJ
   have J:Blk aI n 107 (condV (toldC h)).toArray:=J
   have aK:=F.tb aJ m t
   refine Wn 1 rfl (Nx (Rt (E.retG2 rfl (resA rfl J ag107 (by rfl)) rfl ?_)))
   have hnx:nextE h x p ht b=(toldC h,0):=by unfold nextE;rw[if_pos ⟨by assumption,by assumption,by assumption⟩,if_pos (by omega),if_pos (by omega)]
   exact⟨by rw[hnx];first|done|rfl,aK⟩
  refine Wa (.dec (.move rfl) (congrArg not ((Bool.eq_false_iff.2 ab)))) rfl (Wn 4 rfl (Nx (WC.condT rfl (Sr (Wa (.buildP (condV (⟨0,0,0,0,0⟩)) pl107 z107 rfl rfl) rfl ?_)))))
  have aL:=(((d.le (c.trans e)).cn f (by have:=d.lt;have:=c.size;omega)).le (i.trans (j.trans k)))
  refine W.ef0 rfl rfl (Ef.storeAll sz107 (by rfl) rfl rfl aL (by simp only[List.size_toArray,condV_row.len]) (condV_row.one (⟨0,0,0,0,0⟩)) ?_)
  intro aM K aO
  have K:Blk aM n 107 (condV (⟨0,0,0,0,0⟩)).toArray:=K
  have aP:=C.tb aO m t
  refine Wn 1 rfl (Nx (Rt (E.blkR (E.thenR (E.retG2 rfl (resA rfl K ag107 (by rfl)) rfl ?_)))))
  have hnx:nextE h x p ht b=(noCnd,1):=by unfold nextE;rw[if_neg (fun hh=>by first|exact absurd hh.1 (by assumption)|exact absurd hh.2.1 (by assumption)|exact hh.2.2 (by assumption))]
  exact⟨by rw[hnx];first|done|rfl,aP⟩
 refine Wa (.dec (.move rfl) (congrArg not ((Bool.eq_false_iff.2 Z)))) rfl (Wn 10 rfl (Nx (WC.condT rfl (Sr (Wa (.buildP (condV (⟨0,0,0,0,0⟩)) pl107 z107 rfl rfl) rfl ?_)))))
 have aQ:=(((d.le (c.trans e)).cn f (by have:=d.lt;have:=c.size;omega)).le (i.trans j))
 refine W.ef0 rfl rfl (Ef.storeAll sz107 (by rfl) rfl rfl aQ (by simp only[List.size_toArray,condV_row.len]) (condV_row.one (⟨0,0,0,0,0⟩)) ?_)
 intro aR L aS
 have L:Blk aR n 107 (condV (⟨0,0,0,0,0⟩)).toArray:=L
 have aT:=Y.tb aS m t
 refine Wn 1 rfl (Nx (Rt (E.blkR (E.thenR (E.retG2 rfl (resA rfl L ag107 (by rfl)) rfl ?_)))))
 have hnx:nextE h x p ht b=(noCnd,1):=by unfold nextE;rw[if_neg (fun hh=>by first|exact absurd hh.1 (by assumption)|exact absurd hh.2.1 (by assumption)|exact hh.2.2 (by assumption))]
 exact⟨by rw[hnx];first|done|rfl,aT⟩

theorem hlast_ok (h:Hop)(x:Cnd)(ht:Int)(b:Bnd)(hx:x.pt<18446744073709551616)(hy:(toldC h).pt<18446744073709551616)(w:World):Calls prog 54 #[.agg (hopV h).toArray,.agg (condV x).toArray,.int .i64 (ht),.agg (bndV b).toArray] w fun r w'=>r= .returned (.int .i64 (lastE h x ht b))/\Le w w':=by
 refine enter func54 rfl rfl (Sr (W.ef rfl rfl rfl (Ef.boxA rfl fun R S ae (T:Blk S R 109 (hopV h).toArray) U=>(W.ef rfl rfl rfl (Ef.boxA rfl fun V X af (Y:Blk X V 107 (condV x).toArray) D=>(W.ef rfl rfl rfl ?_))))))
 refine Ef.boxA rfl fun Z F ah (aa:Blk F Z 100 (bndV b).toArray) z=>?_
 have H:=(((Le.refl w).trans U).trans D).trans z
 refine Wn 1 rfl (Nx (Sq (WC.block (Sr (Wa (.field0 fa109_0 rfl) rfl ?_)))))
 have A:=(T.le (D.trans z))
 refine Wr (.loadB (v:= .int .i64 (h.1)) na3 rfl A rfl) rfl (Wn 1 rfl ?_)
 by_cases c:h.1≠(-1)
 ·refine Dt c rfl rfl (Wn 17 rfl (Nx (WC.condT rfl (Sr (Wn 1 rfl (Nx (Rt (E.blkR (E.thenR (E.retG1 rfl rfl ?_))))))))))
  exact⟨by unfold lastE;first|(simp[c];done)|(simp[c];omega)|(have hne:x.pt≠ownP h:=by omega;simp[c,hne];done)|(have hne:x.pt=ownP h:=by omega;simp[c,hne];first|done|omega),H⟩
 refine Df c rfl rfl (Wg (.loadAll ag109 (by rfl) rfl A) rfl ?_)
 refine W.efg rfl rfl rfl (rfl) rfl rfl (Ef.call go140 rfl rfl (told_ok h F) ?_)
 rintro _ ab ⟨rfl,o⟩
 refine⟨_,rfl,?_⟩
 refine W.efg rfl rfl rfl (rfl) rfl rfl (Ef.call go139 rfl rfl (passed_ok (toldC h) hy ab) ?_)
 rintro _ ac ⟨rfl,s⟩
 refine⟨_,rfl,?_⟩
 have I:=(H.trans o).trans s
 refine Wn 2 rfl ?_
 by_cases d:(passedB (toldC h))=true
 ·refine Wa (.dec (.move rfl) (congrArg not (d))) rfl ?_
  have J:=(Y.le (z.trans (o.trans s)))
  refine Wg (.loadAll ag107 (by rfl) rfl J) rfl ?_
  refine W.efg rfl rfl rfl (rfl) rfl rfl (Ef.call go139 rfl rfl (passed_ok x hx ac) ?_)
  rintro _ ad ⟨rfl,t⟩
  refine⟨_,rfl,?_⟩
  have K:=I.trans t
  refine Wn 2 rfl ?_
  by_cases e:(passedB x)=true
  ·refine Wa (.dec (.move rfl) (congrArg not (e))) rfl (Wn 1 rfl ?_)
   have L:=(aa.le (o.trans (s.trans t)))
   refine Wg (.loadAll ag100 (by rfl) rfl L) rfl ?_
   refine W.efg rfl rfl rfl (rfl) rfl rfl (Ef.call go141 rfl rfl (world_ok ht b ad) ?_)
   rintro _ ai ⟨rfl,u⟩
   refine⟨_,rfl,?_⟩
   have N:=K.trans u
   refine Wn 3 rfl (Nx ?_)
   by_cases f:(worldB ht b)=true
   ·refine Cn rfl (congrArg not (f)) ?_
    have hpy:=passedB_T (by assumption:passedB (toldC h)=true)
    have hpx:=passedB_T (by assumption:passedB x=true)
    have hwd:=worldB_T (by assumption:worldB ht b=true)
    refine Sq (WC.draw [0,1,2,3,4,5] mixed (by kernel_rfl) fun w3 y=>(Ga rfl (.field0 fa107_3 rfl) ?_))
    have O:=(J.le (t.trans (u.trans y)))
    refine Gd rfl (.loadB (v:= .int .u64 (((x.pt:Nat):Int))) na43 rfl O rfl) ?_
    have P:=(A.le (o.trans (s.trans (t.trans (u.trans y)))))
    refine Gd rfl (.loadAll ag109 (by rfl) rfl P) ?_
    refine G.ef rfl rfl rfl rfl rfl (Ef.call go142 rfl rfl (own_ok h hy hpy.2.2.2 w3) ?_)
    rintro _ aj ⟨rfl,m⟩
    refine⟨_,rfl,?_⟩
    refine⟨fun _=>m,?_⟩
    have n:=(N.trans y).trans m
    refine Gn 2 rfl (G.nil (E.thenN ?_))
    by_cases i:((x.pt:Nat):Int)≠((ownP h:Nat):Int)
    ·refine Cy rfl (dT i) (Sr (Wn 1 rfl (Nx (Rt (E.blkR (E.thenR (E.retG1 rfl rfl ?_)))))))
     exact⟨by unfold lastE;first|(simp[c,d,e,f,i];done)|(simp[c,d,e,f,i];omega)|(have hne:x.pt≠ownP h:=by omega;simp[c,d,e,f,i,hne];done)|(have hne:x.pt=ownP h:=by omega;simp[c,d,e,f,i,hne];first|done|omega),n⟩
    refine Cn rfl (dF i) (Sr (Wa (.field0 fa107_2 rfl) rfl ?_))
    have C:=(O.le m)
    refine Wr (.loadB (v:= .int .i64 (x.am)) na3 rfl C rfl) rfl (Wa (.field0 fa109_2 rfl) rfl ?_)
    have Q:=(P.le m)
    refine Wr (.loadB (v:= .int .i64 (h.2.2.1)) na3 rfl Q rfl) rfl (Wn 2 rfl (Nx ?_))
    by_cases j:x.am<h.2.2.1
    ·refine Cy rfl (dT j) (Sr (Wn 1 rfl (Nx (Rt (E.blkR (E.thenR (E.retG1 rfl rfl ?_)))))))
     exact⟨by unfold lastE;first|(simp[c,d,e,f,i,j];done)|(simp[c,d,e,f,i,j];omega)|(have hne:x.pt≠ownP h:=by omega;simp[c,d,e,f,i,j,hne];done)|(have hne:x.pt=ownP h:=by omega;simp[c,d,e,f,i,j,hne];first|done|omega),n⟩
    refine Cn rfl (dF j) (Sr (Wa (.field0 fa107_4 rfl) rfl (Wr (.loadB (v:= .int .i64 (x.ex)) na3 rfl C rfl) rfl (Wa (.field0 fa109_3 rfl) rfl (Wr (.loadB (v:= .int .i64 (h.2.2.2.1)) na3 rfl Q rfl) rfl ?_)))))
    refine Wn 1 rfl ?_
    by_cases k:x.ex<h.2.2.2.1
    ·refine Dt k rfl rfl (Wn 9 rfl (Nx (WC.condT rfl (Sr (Wn 1 rfl (Nx (Rt (E.blkR (E.thenR (E.retG1 rfl rfl ?_))))))))))
     exact⟨by unfold lastE;first|(simp[c,d,e,f,i,j,k];done)|(simp[c,d,e,f,i,j,k];omega)|(have hne:x.pt≠ownP h:=by omega;simp[c,d,e,f,i,j,k,hne];done)|(have hne:x.pt=ownP h:=by omega;simp[c,d,e,f,i,j,k,hne];first|done|omega),n⟩
    refine Df k rfl rfl (Wg (Any.rd (.field0 fa107_4 rfl) _) rfl (Wg (.loadB (v:= .int .i64 (x.ex)) na3 rfl C rfl) rfl (Wn 1 rfl (Wg (Any.rd (.sub rfl rfl (by omega)) _) rfl (Wg (Any.rd (.field0 fa100_2 rfl) _) rfl ?_)))))
    refine Wg (.loadB (v:= .int .i64 (b.nap)) na3 rfl (L.le (u.trans (y.trans m))) rfl) rfl (Wn 3 rfl (Nx ?_))
    by_cases l:(x.ex-ht)<=b.nap
    ·refine Cy rfl (dT l) (Sr (Wn 1 rfl (Nx (Rt (E.blkR (E.thenR (E.retG1 rfl rfl ?_)))))))
     exact⟨by unfold lastE;first|(simp[c,d,e,f,i,j,k,l];done)|(simp[c,d,e,f,i,j,k,l];omega)|(have hne:x.pt≠ownP h:=by omega;simp[c,d,e,f,i,j,k,l,hne];done)|(have hne:x.pt=ownP h:=by omega;simp[c,d,e,f,i,j,k,l,hne];first|done|omega),n⟩
    refine Cn rfl (dF l) (WC.skip (E.blkN (E.thenN (Sr (Wn 1 rfl (Nx (Rt (E.retG1 rfl rfl ?_))))))))
    exact⟨by unfold lastE;first|(simp[c,d,e,f,i,j,k,l];done)|(simp[c,d,e,f,i,j,k,l];omega)|(have hne:x.pt≠ownP h:=by omega;simp[c,d,e,f,i,j,k,l,hne];done)|(have hne:x.pt=ownP h:=by omega;simp[c,d,e,f,i,j,k,l,hne];first|done|omega),n⟩
   refine Cy rfl (congrArg not ((Bool.eq_false_iff.2 f))) (Sr (Wn 1 rfl (Nx (Rt (E.blkR (E.thenR (E.retG1 rfl rfl ?_)))))))
   exact⟨by unfold lastE;first|(simp[c,d,e,f];done)|(simp[c,d,e,f];omega)|(have hne:x.pt≠ownP h:=by omega;simp[c,d,e,f,hne];done)|(have hne:x.pt=ownP h:=by omega;simp[c,d,e,f,hne];first|done|omega),N⟩
  refine Wa (.dec (.move rfl) (congrArg not ((Bool.eq_false_iff.2 e)))) rfl (Wn 6 rfl (Nx (WC.condT rfl (Sr (Wn 1 rfl (Nx (Rt (E.blkR (E.thenR (E.retG1 rfl rfl ?_))))))))))
  exact⟨by unfold lastE;first|(simp[c,d,e];done)|(simp[c,d,e];omega)|(have hne:x.pt≠ownP h:=by omega;simp[c,d,e,hne];done)|(have hne:x.pt=ownP h:=by omega;simp[c,d,e,hne];first|done|omega),K⟩
 refine Wa (.dec (.move rfl) (congrArg not ((Bool.eq_false_iff.2 d)))) rfl (Wn 11 rfl (Nx (WC.condT rfl (Sr (Wn 1 rfl (Nx (Rt (E.blkR (E.thenR (E.retG1 rfl rfl ?_))))))))))
 exact⟨by unfold lastE;first|(simp[c,d];done)|(simp[c,d];omega)|(have hne:x.pt≠ownP h:=by omega;simp[c,d,hne];done)|(have hne:x.pt=ownP h:=by omega;simp[c,d,hne];first|done|omega),I⟩
end Go.Proofs.YtocheaahlpiajaaGreatDoor

