/- RouteSigned: for every input the law answers true and leaves its arguments as they were. -/
import Derived.Test.YtocheaahlpiajaaGreatDoorRouteSignedM
set_option linter.unusedVariables false
set_option linter.unusedSimpArgs false
namespace Go.Proofs.YtocheaahlpiajaaGreatDoor
open Tryz
open Go Go.Sx Go.Hsp Go.Num Go.Osp Go.Gsp Go.Asp
set_option maxRecDepth 20000
def sigV (s:Asp.Sig):List Value:=[.int .u64 (s.r:Nat),.int .u64 (s.s:Nat)]
theorem allP_lt (l:List Nat):allP l<18446744073709551616:=by
  have key:∀(l:List Nat) (o:Nat),o<M->l.foldl (fun o p=>o*taken p%M) o<M:=by
    intro l
    induction l with
    |nil=>intro o h;exact h
    |cons p l ih=>intro o h;exact ih _ (Nat.mod_lt _ (by decide))
  exact Nat.lt_trans (key l 1 (by decide)) (by decide)
theorem allP_snoc {xs:List Nat}{k:Nat}(h:k<xs.length):allP (xs.take (k+1))=allP (xs.take k)*taken (xs.getD k 0)%M:=by
  rw[List.take_add_one,getS xs 0 h]
  simp[allP,-List.getD_eq_getElem?_getD]
theorem negP_lt (p:Nat):negP p<18446744073709551616:=Nat.lt_trans (pw_lt _ _ (by decide)) (by decide)
theorem scale_lt' (p k:Nat):scale p k<18446744073709551616:=Nat.lt_trans (scale_lt p k) (by decide)
theorem all3 {a b c T:Nat}(h1:a<T)(h2:b<T)(h3:c<T):∀x∈[a,b,c],x<T:=by
  intro x hx
  simp only[List.mem_cons,List.not_mem_nil,or_false]at hx
  rcases hx with rfl|rfl|rfl<;>assumption
theorem seight_ok (m:Nat)(w:World):Calls prog 328 #[.int .u64 ((m:Nat):Int)] w fun e w'=>∃g,e= .returned (.slice (some ⟨g,0,none⟩) 8 8)/\w.heap.size<=g/\Blk w' g 5 ((be8 m).map u8v).toArray/\Le w w':=by
 refine enter func328 rfl rfl ?_
 have h:=Le.refl w
 refine Sr (Wn 1 rfl (Nx (Sr (W.ef rfl rfl rfl (Ef.makeSlice 8 8 underlying26 el5 rfl rfl rfl rfl (by decide) (by decide) (by decide) fun b v d i j=>?_)))))
 have l:=h.trans j
 refine Wn 1 rfl (Nx (Sq (Sr (Wn 1 rfl (Wr (.len underlying26 rfl) rfl (Wn 1 rfl (Nx (WC.block (WC.loop (ι:=Nat) (fun k=>[(0,.int .u64 ((m:Nat):Int)),(3,.slice (some ⟨b,0,none⟩) 8 8),(7,.int .i64 8),(8,.int .i64 (k:Int))]) (fun k wl=>k<=8/\Le w wl/\Blk wl b 5 (((be8To m k)++List.replicate (8-k) 0#8).map u8v).toArray) (fun k=>8-k) 0 ?_ ?_ ?_)))))))))
 ·exact .of rfl
 ·exact⟨by omega,l,i.cast (made_u8 8)⟩
 rintro k wl ⟨f,Ll,c⟩
 have hbl:(be8To m k).length=k:=by simp[be8To,be8_length];omega
 refine Sr (Wn 1 rfl (Nx (Sq (WC.cond rfl (fun n=>?_) (fun n=>?_)))))
 ·refine Sn (Sq (WC.block (Sr (Wn 2 rfl (Nx (WC.region (Wn 4 rfl (Wa (.mul rfl rfl (by omega)) rfl (Wa (.sub rfl rfl (by omega)) rfl (Wa (.shrN m (56-8*k) rfl rfl rfl (by omega) (by show 56-8*k<=64;omega)) rfl ?_))))))))))
  refine Wr (.toU8 (m>>>(56-8*k)) (isS underlying27) underlying5 rfl rfl) rfl (Wa (.idxB1 (k) underlying26 sz5 rfl rfl (rfl) (by omega)) rfl (W.ef0 rfl rfl (Ef.store sz5 rfl rfl (c) (by simp;omega) (rfl) ?_)))
  intro o s t
  have u:Le w o:=Ll.then_ t (fun q hq=>by cases hq;exact d)
  refine W.nil (E.blkN (E.thenN (WC.region (Wa (.add rfl rfl (by omega)) rfl (Wn 1 rfl (W.nil (E.again (k+1) (.of rfl) ?_ ?_)))))))
  ·exact⟨by omega,u,s.cast (by rw[fill_set u8v (be8To m k) 0#8 _ 8 k hbl (by omega),be8To_succ m k (by omega)])⟩
  first|omega|(simp only[];omega)
 have f:k=8:=by omega
 subst f
 have c:Blk wl b 5 ((be8 m).map u8v).toArray:=c
 refine WC.exit (E.thenX (E.thenX (E.blkH (E.thenN (Sr (Wn 2 rfl (Nx (Rt (E.ret1 rfl rfl ?_)))))))))
 exact⟨b,rfl,d,c,Ll⟩

theorem chal_ok (rr p:Nat)(m:List (BitVec 8))(hm:m.length=32)(w:World):Calls prog 290 #[.int .u64 (((rr:Nat):Int)),.int .u64 (((p:Nat):Int)),.agg (m.map u8v).toArray] w fun r w'=>r= .returned (.int .u64 ((chalB rr p m:Nat):Int))/\Le w w':=by
 refine enter func290 rfl rfl (WC.sr (W.ef rfl rfl rfl (Ef.boxA rfl fun f l H (o:Blk l f 30 (m.map u8v).toArray) t=>(W.run 1 rfl (W.nx (WC.seq (WC.draw [0,2,4,1,3,5,6,7,8] mixed (by kernel_rfl) fun u h=>(G.run 2 rfl ?_))))))))
 refine Ga rfl (.cutArr underlying30 sz5 rfl) (G.ef rfl rfl rfl rfl rfl (Ef.call go328 rfl rfl (seight_ok rr u) ?_))
 rintro _ x ⟨y,rfl,I,z,d⟩
 refine⟨_,rfl,?_⟩
 refine⟨fun _=>d,?_⟩
 refine G.ef rfl rfl rfl rfl rfl (Ef.call go328 rfl rfl (seight_ok p x) ?_)
 rintro _ J ⟨A,rfl,K,C,c⟩
 refine⟨_,rfl,?_⟩
 refine⟨fun _=>c,?_⟩
 refine G.ef rfl rfl rfl rfl rfl (Ef.buildSliceN [_,_,_] underlying157 el26 rfl (by intro v hv;simp at hv;rcases hv with rfl|rfl|rfl<;>rfl) rfl (by decide) (by decide) ?_)
 intro D i L e b
 refine⟨fun _=>b,?_⟩
 have e:Blk i D 26 #[.slice (some ⟨y,0,none⟩) 8 8,.slice (some ⟨A,0,none⟩) 8 8,.slice (some ⟨f,0,none⟩) 32 32]:=e
 refine G.ef rfl rfl rfl rfl rfl (Ef.call go21 rfl rfl (tag_ok _ nSig i (ps:=[be8 rr,be8 p,m]) rfl (e.sl (s:=1) (n:=3) rfl) (.cons ((z.le (c.trans b)).sb (be8_length _)) (.cons ((C.le b).sb (be8_length _)) (.cons ((o.le (h.trans (d.trans (c.trans b)))).sb hm) (.nil _)))) (by rw[tagLen3,(be8_length _),(be8_length _),hm];decide)) ?_)
 rintro _ F ⟨rfl,j⟩
 refine⟨_,rfl,?_⟩
 refine⟨fun _=>j,?_⟩
 refine G.ef rfl rfl rfl rfl rfl (Ef.call go169 rfl rfl (from_ok (tag nSig [be8 rr,be8 p,m]) (tag_length _ _) F) ?_)
 rintro _ N ⟨rfl,k⟩
 refine⟨_,rfl,?_⟩
 refine⟨fun _=>k,?_⟩
 refine G.run 1 rfl (G.nil (E.thenN (WC.ret (E.retG1 rfl rfl ?_))))
 exact⟨rfl,((((((((Le.refl w).trans t).trans h).trans d).trans c).trans b).trans j).trans k)⟩







theorem neg_ok (p:Nat)(hp:p<18446744073709551616)(w:World):Calls prog 291 #[.int .u64 (((p:Nat):Int))] w fun r w'=>r= .returned (.int .u64 ((negP p:Nat):Int))/\Le w w':=by
 refine enter func291 rfl rfl (Sr (Wn 1 rfl (Nx (Sr (Wn 1 rfl (W.cl go172 rfl rfl (taken_ok p (by first|assumption|omega|decide) w) ?_))))))
 rintro _ b ⟨rfl,c⟩
 refine W.cl go170 rfl rfl (power_ok (taken p) 2305843009213688668 (taken_lt _) (by decide) b) ?_
 rintro _ e ⟨rfl,d⟩
 refine Wn 1 rfl (Nx (Rt (E.retG1 rfl rfl ?_)))
 exact⟨rfl,(((Le.refl w).trans c).trans d)⟩

theorem all_ok {A:Option Addr}{n c:Nat}{xs:List Nat}(w:World)(hV:Vec w pv1 1 A n xs)(hs:∀x∈xs,x<18446744073709551616)(hn:n<=1000000):Calls prog 245 #[.slice A n c] w fun r w'=>r= .returned (.int .u64 ((allP xs:Nat):Int))/\Le w w':=by
 have hl:=hV.1
 refine enter func245 rfl rfl (Sr (Wn 1 rfl (Nx (Sr (Wn 1 rfl (Nx (Sq (Sr (Wn 1 rfl (Wr (.len underlying39 rfl) rfl (Wn 1 rfl (Nx (WC.block (WC.loop (ι:=Nat) (fun k=>[(3,.int .u64 ((((allP (xs.take k)):Nat):Int))),(6,.slice A n c),(7,.int .i64 (((n:Nat):Int))),(8,.int .i64 (((k:Nat):Int)))]) (fun k b=>(k<=n)/\Le w b/\w.heap.size<=b.heap.size) (fun k=>n-k) 0 ?_ ?_ ?_))))))))))))))
 ·exact .of rfl
 ·exact⟨Nat.zero_le _,(Le.refl w),Nat.le_refl _⟩
 rintro k b ⟨hk,d,i⟩
 refine Sr (Wn 1 rfl (Nx (Sq ?_)))
 by_cases e:((k:Nat):Int)<((n:Nat):Int)
 ·refine Cy rfl (dT e) (Sn (Sq (WC.block (Sr (Wa (.idxS (k) underlying39 sz43 rfl rfl (hV.isSome pv1_row (by omega)) (rfl) (by omega)) rfl (Wr (.vone (v:= .int .u64 ((((xs.getD k 0):Nat):Int))) na43 rfl (hV.le d) pv1_row (getS xs 0 (by omega)) rfl) rfl (Wn 1 rfl (Nx (WC.region (Wn 2 rfl (W.cl go172 rfl rfl (taken_ok (xs.getD k 0) (getD_lt hs (by decide) _) b) ?_)))))))))))
  rintro _ j ⟨rfl,f⟩
  refine W.cl go244 rfl rfl (times_ok (allP (xs.take k)) (taken (xs.getD k 0)) (allP_lt _) (taken_lt _) j) ?_
  rintro _ l ⟨rfl,h⟩
  refine Wn 1 rfl (W.nil (E.blkN (E.thenN (WC.region (Wa (.add rfl rfl (by omega)) rfl (Wn 1 rfl (W.nil (E.again (k+1) (.cons' rfl (int_eq (by rw[allP_snoc (by omega)])) (.of rfl)) ?_ ?_))))))))
  ·exact⟨by omega,((d.trans f).trans h),by have:=i;have:=f.size;have:=h.size;omega⟩
  first|omega|(simp only[];omega)
 refine Cn rfl (dF e) (WC.exit (E.thenX (E.thenX (E.blkH (E.thenN (Sr (Wn 2 rfl (Nx (Rt (E.retG1 rfl rfl ?_))))))))))
 exact⟨by rw[List.take_of_length_le (by omega)],d⟩

theorem checks_ok (p:Nat)(m:List (BitVec 8))(hm:m.length=32)(t:Nat)(s:Asp.Sig)(hp:p<18446744073709551616)(ht:t<18446744073709551616)(hr:s.r<18446744073709551616)(w:World):Calls prog 238 #[.int .u64 (((p:Nat):Int)),.agg (m.map u8v).toArray,.int .u64 (((t:Nat):Int)),.agg (sigV s).toArray] w fun r w'=>r= .returned (.bool (checksB p m t s))/\Le w w':=by
 refine enter func238 rfl rfl (Sr (W.ef rfl rfl rfl (Ef.boxA rfl fun R S aj (T:Blk S R 30 (m.map u8v).toArray) U=>(W.ef rfl rfl rfl (Ef.boxA rfl fun V F ak (X:Blk F V 138 (sigV s).toArray) H=>?_)))))
 have I:=((Le.refl w).trans U).trans H
 refine Wn 1 rfl (Nx (Sq (Sr (Wn 2 rfl ?_))))
 by_cases b:((p:Nat):Int)=1
 ·refine Dt b rfl rfl (Wn 21 rfl (Nx (WC.condT rfl (Sr (Wn 1 rfl (Nx (Rt (E.thenR (E.retG1 rfl rfl ?_)))))))))
  exact⟨(by first|rfl|(simp[checksB,b];done)|(simp[checksB,b];omega)|(simp[checksB,b];split<;>first|(exfalso;omega)|(simp;done)|(simp;omega))|(have f:¬p=1:=(by omega);simp[checksB,f,Int.natCast_inj,b];done)),I⟩
 refine Df b rfl rfl (Wn 1 rfl (W.efg rfl rfl rfl (rfl) rfl rfl (Ef.call go75 rfl rfl (pright_ok p (by first|assumption|omega|decide) F) ?_)))
 rintro _ Y ⟨rfl,i⟩
 refine⟨_,rfl,?_⟩
 have J:=I.trans i
 refine Wn 2 rfl ?_
 by_cases c:(right p)=true
 ·refine Wa (.dec (.move rfl) (congrArg not (c))) rfl (Wn 1 rfl (W.efg rfl rfl rfl (rfl) rfl rfl (Ef.call go75 rfl rfl (pright_ok t (by first|assumption|omega|decide) Y) ?_)))
  rintro _ Z ⟨rfl,j⟩
  refine⟨_,rfl,?_⟩
  have K:=J.trans j
  refine Wn 2 rfl ?_
  by_cases d:(right t)=true
  ·refine Wa (.dec (.move rfl) (congrArg not (d))) rfl (Wg (Any.rd (.field0 fa138_0 rfl) _) rfl ?_)
   have L:=(X.le (i.trans j))
   refine Wg (.loadB (v:= .int .u64 (((s.r:Nat):Int))) na43 rfl L rfl) rfl (W.efg rfl rfl rfl (rfl) rfl rfl (Ef.call go75 rfl rfl (pright_ok s.r (by first|assumption|omega|decide) Z) ?_))
   rintro _ aa ⟨rfl,k⟩
   refine⟨_,rfl,?_⟩
   have N:=K.trans k
   refine Wn 2 rfl ?_
   by_cases e:(right s.r)=true
   ·refine Wa (.dec (.move rfl) (congrArg not (e))) rfl (Wg (Any.rd (.field0 fa138_1 rfl) _) rfl ?_)
    have O:=(L.le k)
    refine Wg (.loadB (v:= .int .u64 (((s.s:Nat):Int))) na28 rfl O rfl) rfl (W.efg rfl rfl rfl (rfl) rfl rfl (Ef.call go134 rfl rfl (fright_ok s.s aa) ?_))
    rintro _ al ⟨rfl,l⟩
    refine⟨_,rfl,?_⟩
    have P:=N.trans l
    refine Wn 2 rfl (Nx ?_)
    by_cases h:s.s<q
    ·refine Cn rfl (congrArg not (dT h)) (Sn (Sq (WC.draw [0,1,2,3,4,5,6,9,7,8,10,11,12,13] mixed (by kernel_rfl) fun w3 n=>(Ga rfl (.field0 fa138_0 rfl) ?_))))
     have o:=(O.le (l.trans n))
     refine Gd rfl (.loadB (v:= .int .u64 (((s.r:Nat):Int))) na43 rfl o rfl) (Gn 1 rfl (Ga rfl (.field0 fa138_0 rfl) (Gd rfl (.loadB (v:= .int .u64 (((s.r:Nat):Int))) na43 rfl o rfl) (Gn 1 rfl (Gd rfl (.loadAll ag30 (by simp[hm]) rfl (T.le (H.trans (i.trans (j.trans (k.trans (l.trans n))))))) ?_)))))
     refine Gn 1 rfl (G.ef rfl rfl rfl rfl rfl (Ef.call go290 rfl rfl (chal_ok s.r p m hm w3) ?_))
     rintro _ ab ⟨rfl,u⟩
     refine⟨_,rfl,?_⟩
     refine⟨fun _=>u,?_⟩
     refine G.ef rfl rfl rfl rfl rfl (Ef.call go77 rfl rfl (scale_ok p (chalB s.r p m) (by first|assumption|omega|decide) ab) ?_)
     rintro _ ac ⟨rfl,x⟩
     refine⟨_,rfl,?_⟩
     refine⟨fun _=>x,?_⟩
     refine G.ef rfl rfl rfl rfl rfl (Ef.call go291 rfl rfl (neg_ok t (by first|assumption|omega|decide) ac) ?_)
     rintro _ ad ⟨rfl,y⟩
     refine⟨_,rfl,?_⟩
     refine⟨fun _=>y,?_⟩
     refine G.ef rfl rfl rfl rfl rfl (Ef.buildSliceV (len:=3) [_,_,_] underlying39 el43 rfl (by simp[Value.cells]) rfl (by decide) (by decide) ?_)
     intro Q z ae A C
     refine⟨fun _=>C,?_⟩
     have A:Blk z Q 43 (([s.r,scale p (chalB s.r p m),negP t]).map pv1).flatten.toArray:=A
     have af:OVec z ad.heap.size 43 pv1 1 (some ⟨Q,0,none⟩) 3 3 ([s.r,scale p (chalB s.r p m),negP t]):=A.ovec ae pv1_row rfl rfl (by decide)
     refine G.ef rfl rfl rfl rfl rfl (Ef.call go245 rfl rfl (all_ok z af.vec (all3 hr (scale_lt' _ _) (negP_lt _)) (by decide)) ?_)
     rintro _ ah ⟨rfl,D⟩
     refine⟨_,rfl,?_⟩
     refine⟨fun _=>D,?_⟩
     refine Gn 1 rfl (G.nil (E.thenN (Sr (Wa (.field0 fa138_1 rfl) rfl (Wr (.loadB (v:= .int .u64 (((s.s:Nat):Int))) na28 rfl (o.le (u.trans (x.trans (y.trans (C.trans D))))) rfl) rfl (W.cl go20 rfl rfl (base_ok s.s ah) ?_))))))
     rintro _ am ⟨rfl,ai⟩
     refine Wn 3 rfl (Nx (Rt (E.retG1 rfl rfl ?_)))
     exact⟨(by first|rfl|(simp[checksB,b,c,d,e,h];done)|(simp[checksB,b,c,d,e,h];omega)|(simp[checksB,b,c,d,e,h];split<;>first|(exfalso;omega)|(simp;done)|(simp;omega))|(have f:¬p=1:=(by omega);simp[checksB,f,Int.natCast_inj,b,c,d,e,h];done)),(((((((P.trans n).trans u).trans x).trans y).trans C).trans D).trans ai)⟩
    refine Cy rfl (congrArg not (dF h)) (Sr (Wn 1 rfl (Nx (Rt (E.thenR (E.retG1 rfl rfl ?_))))))
    exact⟨(by first|rfl|(simp[checksB,b,c,d,e,h];done)|(simp[checksB,b,c,d,e,h];omega)|(simp[checksB,b,c,d,e,h];split<;>first|(exfalso;omega)|(simp;done)|(simp;omega))|(have f:¬p=1:=(by omega);simp[checksB,f,Int.natCast_inj,b,c,d,e,h];done)),P⟩
   refine Wa (.dec (.move rfl) (congrArg not ((Bool.eq_false_iff.2 e)))) rfl (Wn 5 rfl (Nx (WC.condT rfl (Sr (Wn 1 rfl (Nx (Rt (E.thenR (E.retG1 rfl rfl ?_)))))))))
   exact⟨(by first|rfl|(simp[checksB,b,c,d,e];done)|(simp[checksB,b,c,d,e];omega)|(simp[checksB,b,c,d,e];split<;>first|(exfalso;omega)|(simp;done)|(simp;omega))|(have f:¬p=1:=(by omega);simp[checksB,f,Int.natCast_inj,b,c,d,e];done)),N⟩
  refine Wa (.dec (.move rfl) (congrArg not ((Bool.eq_false_iff.2 d)))) rfl (Wn 11 rfl (Nx (WC.condT rfl (Sr (Wn 1 rfl (Nx (Rt (E.thenR (E.retG1 rfl rfl ?_)))))))))
  exact⟨(by first|rfl|(simp[checksB,b,c,d];done)|(simp[checksB,b,c,d];omega)|(simp[checksB,b,c,d];split<;>first|(exfalso;omega)|(simp;done)|(simp;omega))|(have f:¬p=1:=(by omega);simp[checksB,f,Int.natCast_inj,b,c,d];done)),K⟩
 refine Wa (.dec (.move rfl) (congrArg not ((Bool.eq_false_iff.2 c)))) rfl (Wn 16 rfl (Nx (WC.condT rfl (Sr (Wn 1 rfl (Nx (Rt (E.thenR (E.retG1 rfl rfl ?_)))))))))
 exact⟨(by first|rfl|(simp[checksB,b,c];done)|(simp[checksB,b,c];omega)|(simp[checksB,b,c];split<;>first|(exfalso;omega)|(simp;done)|(simp;omega))|(have f:¬p=1:=(by omega);simp[checksB,f,Int.natCast_inj,b,c];done)),J⟩

theorem verify_ok (p:Nat)(m:List (BitVec 8))(hm:m.length=32)(s:Asp.Sig)(hp:p<18446744073709551616)(hr:s.r<18446744073709551616)(w:World):Calls prog 163 #[.int .u64 (((p:Nat):Int)),.agg (m.map u8v).toArray,.agg (sigV s).toArray] w fun r w'=>r= .returned (.bool (verifyB p m s))/\Le w w':=by
 refine enter func163 rfl rfl (Sr (W.ef rfl rfl rfl (Ef.boxA rfl fun d e l (f:Blk e d 30 (m.map u8v).toArray) h=>(W.ef rfl rfl rfl (Ef.boxA rfl fun i b n (j:Blk b i 138 (sigV s).toArray) c=>(Wn 1 rfl (Nx (Sr (Wn 1 rfl ?_)))))))))
 refine Wr (.loadAll ag30 (by simp[hm]) rfl (f.le c)) rfl ?_
 refine Wr (.loadAll ag138 (by rfl) rfl j) rfl ?_
 refine W.cl go238 rfl rfl (checks_ok p m hm 1 s (by first|assumption|omega|decide) (by first|assumption|omega|decide) hr b) ?_
 rintro _ o ⟨rfl,k⟩
 refine Wn 1 rfl (Nx (Rt (E.retG1 rfl rfl ?_)))
 exact⟨rfl,((((Le.refl w).trans h).trans c).trans k)⟩
end Go.Proofs.YtocheaahlpiajaaGreatDoor

namespace Go.Proofs.YtocheaahlpiajaaGreatDoor
open Tryz
open Go Go.Sx Go.Hsp Go.Num Go.Osp Go.Gsp Go.Asp
set_option maxRecDepth 20000
theorem len_snoc (xs:List (BitVec 8))(b:BitVec 8):xs.length+1=(xs++[b]).length:=by simp
theorem rowN_pos (n:Nat):0<(rowN n).length:=by rw[rowN];split<;>simp
theorem rowN_end {n:Nat}(h:n<128):rowN n=[BitVec.ofNat 8 n]:=by rw[rowN,dif_pos h]
theorem rowN_more {n:Nat}(h:¬n<128):rowN n=BitVec.ofNat 8 (n%128+128)::rowN (n/128):=by rw[rowN,dif_neg h]
theorem laid_ok {A B:Option Addr}{n m c d:Nat}{xs ys:List (BitVec 8)}(w:World)(hV:Vec w byteV 1 A n xs)(hn:n<=100000)(hU:Vec w byteV 1 B m ys)(hm:m<=100000)(h0:0<m):Calls prog 292 #[.slice A n c,.slice B m d] w fun r w'=>∃A' c',r= .returned (.slice A' (xs++ys).length c')/\OVec w' w.heap.size 5 byteV 1 A' (xs++ys).length c' (xs++ys)/\Le w w':=by
 have hl:=hV.1
 have o:=hU.1
 refine enter func292 rfl rfl (Sr (Wn 1 rfl (Nx (Sr (Wn 2 rfl (W.ef rfl rfl rfl (Ef.buildSliceN [_,_] underlying157 el26 rfl (by intro v hv;simp at hv;rcases hv with rfl|rfl<;>rfl) rfl (by decide) (by decide) ?_)))))))
 intro h f t e i
 have b:=(Le.refl w).trans i
 have e:Blk f h 26 #[.slice A n c,.slice B m d]:=e
 refine W.cl go128 rfl rfl (concat_ok f (e.sl (s:=1) (n:=2) rfl) (.cons (byte_sb (hV.le b)) (.cons (byte_sb (hU.le b)) (.nil _))) (by simp;omega) (by simp;omega) (by decide)) ?_
 rintro _ u ⟨x,y,rfl,j,k⟩
 have l:=byte_ovec j
 refine Wn 1 rfl (Nx (Rt (E.retG1 rfl rfl ?_)))
 exact⟨_,_,by simp only[List.flatten_cons,List.flatten_nil,List.append_nil],(l.mono b.size).cast (by simp) (by simp),(b.trans k)⟩

theorem row_ok (n:Nat)(hn:n<=9223372036854775807)(w:World):Calls prog 293 #[.int .i64 (((n:Nat):Int))] w fun r w'=>∃A' c',r= .returned (.slice A' (rowN n).length c')/\OVec w' w.heap.size 5 byteV 1 A' (rowN n).length c' (rowN n)/\Le w w':=by
 have hrl:=rowN_length n (by omega)
 refine enter func293 rfl rfl ?_
 have c:=Le.refl w
 refine Sr (Wn 1 rfl (Nx (Sr (Wn 1 rfl (Nx (Sq (WC.block (WC.loop (ι:=Nat×(List (BitVec 8))×(Option Addr)×Nat) (fun⟨a,xs,Aa,ca⟩=>[(0,.int .i64 (((a:Nat):Int))),(3,.slice Aa xs.length ca)]) (fun⟨a,xs,Aa,ca⟩ b=>(a<=n)/\(xs++rowN a=rowN n)/\Le w b/\w.heap.size<=b.heap.size/\OVec b w.heap.size 5 byteV 1 Aa xs.length ca xs) (fun⟨a,xs,Aa,ca⟩=>a) (n,[],none,0) ?_ ?_ ?_))))))))
 ·exact .of rfl
 ·exact⟨Nat.le_refl _,rfl,c,Nat.le_refl _,(OVec.nil w w.heap.size 5 byteV 1 none)⟩
 rintro⟨a,xs,Aa,ca⟩ b ⟨ha,hx,i,y,j⟩
 have k:w.heap.size<=b.heap.size:=by omega
 have hxl:xs.length+(rowN a).length=(rowN n).length:=by rw[<-hx,List.length_append]
 have hrp:=rowN_pos a
 refine Sq (Sr (Wn 2 rfl (Nx ?_)))
 by_cases l:128<=((a:Nat):Int)
 ·refine Cy rfl (dT l) (Sn (Sq (WC.block (WC.region (Wn 2 rfl (Wa (.rem rfl rfl (by omega)) rfl (Wa (.add rfl rfl (by omega)) rfl (Wr (.toU8 ((a%128)+128) (isS underlying3) underlying5 rfl (by omega)) rfl (W.ef rfl rfl rfl ?_)))))))))
  refine Ef.buildSliceV (len:=1) [_] underlying26 el5 rfl (by simp[Value.cells,u8v]) rfl (by decide) (by decide) ?_
  intro m o z d e
  have d:Blk o m 5 (([BitVec.ofNat 8 ((a%128)+128)]).map byteV).flatten.toArray:=d
  have J:OVec o b.heap.size 5 byteV 1 (some ⟨m,0,none⟩) 1 1 ([BitVec.ofNat 8 ((a%128)+128)]):=d.ovec z byteV_row rfl rfl (by decide)
  have s:=(j.le e)
  refine W.ef rfl rfl rfl (Ef.vpush (a:=(BitVec.ofNat 8 ((a%128)+128))) underlying26 el5 underlying26 byteV_row rfl s rfl d (by omega) (by unfold maxLen;omega) (by have:=k;have:=e.size;omega) ?_)
  intro A C K D t L
  refine Wn 1 rfl (W.nil (E.blkN (E.thenN (WC.region (Wn 1 rfl (Wa (.quo rfl rfl (by omega)) rfl (Wn 1 rfl (W.nil (E.again (a/128,(xs++[BitVec.ofNat 8 (a%128+128)]),A,C) (.cons' rfl (int_eq (by omega)) (.cons' rfl (slice_eq (len_snoc xs (BitVec.ofNat 8 (a%128+128)))) (.nil _))) ?_ ?_)))))))))
  ·exact⟨by omega,by rw[<-hx,rowN_more (n:=a) (by omega)];simp,((i.trans e).then_ t (fun q hq=>Nat.le_trans c.size (s.row hq).1)),by have:=y;have:=e.size;have:=t.size;omega,(D.cast (len_snoc xs (BitVec.ofNat 8 (a%128+128))) rfl)⟩
  first|omega|(simp only[];omega)
 refine Cn rfl (dF l) (WC.exit (E.thenX (E.thenX (E.blkH (E.thenN (Sr (Wn 2 rfl (Wr (.toU8 a (isS underlying3) underlying5 rfl rfl) rfl (W.ef rfl rfl rfl (Ef.buildSliceV (len:=1) [_] underlying26 el5 rfl (by simp[Value.cells,u8v]) rfl (by decide) (by decide) ?_))))))))))
 intro u v F f h
 have f:Blk v u 5 (([BitVec.ofNat 8 a]).map byteV).flatten.toArray:=f
 have N:OVec v b.heap.size 5 byteV 1 (some ⟨u,0,none⟩) 1 1 ([BitVec.ofNat 8 a]):=f.ovec F byteV_row rfl rfl (by decide)
 have x:=(j.le h)
 refine W.ef rfl rfl rfl (Ef.vpush (a:=(BitVec.ofNat 8 a)) underlying26 el5 underlying26 byteV_row rfl x rfl f (by omega) (by unfold maxLen;omega) (by have:=k;have:=h.size;omega) ?_)
 intro O P Q H I R
 refine Wn 1 rfl (Nx (Rt (E.retG1 rfl rfl ?_)))
 have hend:xs++[BitVec.ofNat 8 a]=rowN n:=by rw[<-hx,rowN_end (n:=a) (by omega)]
 exact⟨_,_,by rw[<-hend,List.length_append];rfl,(H.mono c.size).cast (by rw[<-hend,List.length_append];rfl) hend,((i.trans h).then_ I (fun q hq=>Nat.le_trans c.size (x.row hq).1))⟩

theorem put_ok (i:Nat)(hi:i<=9223372036854775807){A:Option Addr}{n c:Nat}{xs:List (BitVec 8)}(w:World)(hV:Vec w byteV 1 A n xs)(hn:n<=100000):Calls prog 239 #[.slice A n c,.int .i64 (((i:Nat):Int))] w fun r w'=>∃A' c',r= .returned (.slice A' (xs++rowN i).length c')/\OVec w' w.heap.size 5 byteV 1 A' (xs++rowN i).length c' (xs++rowN i)/\Le w w':=by
 have hl:=hV.1
 refine enter func239 rfl rfl (Sr (Wn 1 rfl (Nx (Sq (Sr (Wn 2 rfl (Nx (Cn rfl (dF (by omega)) (Sn (Sr (Wn 2 rfl (W.cl go293 rfl rfl (row_ok i (by omega) w) ?_))))))))))))
 rintro _ d ⟨k,l,rfl,e,f⟩
 have b:=(Le.refl w).trans f
 have m:=rowN_length i (by omega)
 have o:=rowN_pos i
 refine W.cl go292 rfl rfl (laid_ok d (hV.le b) (by omega) e.vec (by omega) (by omega)) ?_
 rintro _ s ⟨t,u,rfl,h,j⟩
 refine Wn 1 rfl (Nx (Rt (E.retG1 rfl rfl ?_)))
 exact⟨_,_,rfl,(h.mono b.size),(b.trans j)⟩
end Go.Proofs.YtocheaahlpiajaaGreatDoor

namespace Go.Proofs.YtocheaahlpiajaaGreatDoor
open Tryz
open Go Go.Sx Go.Hsp Go.Num Go.Osp Go.Gsp Go.Asp
set_option maxRecDepth 20000
def adV (a:Asp.Ad):List Value:=[.int .i64 a.e.f,.int .i64 a.e.t,.int .i64 a.e.c,.int .i64 a.e.r,.int .i64 a.e.pol.b,.int .i64 a.e.pol.p,.int .i64 a.e.pol.d,.int .i64 a.e.pol.l,.int .i64 a.e.pol.m,.int .i64 a.no,.bool a.gone,.int .u64 (a.sg.r:Nat),.int .u64 (a.sg.s:Nat)]
theorem adV_row:RowF adV 13:=⟨fun _=>rfl,fun x v hv=>by simp[adV]at hv;rcases hv with rfl|rfl|rfl|rfl|rfl|rfl|rfl|rfl|rfl|rfl|rfl|rfl|rfl<;>rfl,by decide⟩
def idxI (pr:Int->Bool)(xs:List Int):Int:=if xs.any pr then(xs.findIdx pr:Int)else-1
theorem idxI_at {pr:Int->Bool}{xs:List Int}{k:Nat}(hk:k<xs.length)(hb:∀j,j<k->¬pr (xs.getD j 0)=true)(h:pr (xs.getD k 0)=true):(k:Int)=idxI pr xs:=by
  have hx:xs.getD k 0=xs[k]:=by simp[List.getD,hk]
  have:xs.findIdx pr=k:=by
    rw[List.findIdx_eq hk]
    exact⟨by rw[<-hx];exact h,fun j hj=>by have:=hb j hj;simpa[List.getD,show j<xs.length by omega]using this⟩
  rw[idxI,if_pos (by rw[List.any_eq_true];exact⟨xs[k],List.getElem_mem hk,by rw[<-hx];exact h⟩),this]
theorem idxI_no {pr:Int->Bool}{xs:List Int}{k:Nat}(hk:xs.length<=k)(hb:∀j,j<k->j<xs.length->¬pr (xs.getD j 0)=true): -1=idxI pr xs:=by
  rw[idxI,if_neg]
  rw[List.any_eq_true]
  rintro⟨y,hy,hp⟩
  obtain⟨j,hj,rfl⟩:=List.mem_iff_getElem.1 hy
  exact hb j (by omega) hj (by simpa[List.getD,hj]using hp)
theorem idxI_any (pr:Int->Bool)(xs:List Int):decide (idxI pr xs≥0)=xs.any pr:=by
  unfold idxI;split
  · rename_i h;rw[h];exact decide_eq_true (by omega)
  · rename_i h;rw[Bool.not_eq_true]at h;rw[h];rfl
theorem all_not (lo hi:Int)(xs:List Int):(!xs.any fun n=> !inB n lo hi)=xs.all fun n=>inB n lo hi:=by
  rw[List.all_eq_not_any_not]
theorem rowsN_snoc {ns:List Int}:∀{k:Nat},k<ns.length->rowsN (ns.take (k+1))=rowsN (ns.take k)++rowN (ns.getD k 0).toNat:=by
  induction ns with
  |nil=>intro k h;simp at h
  |cons a l ih=>
    intro k h
    cases k with
    |zero=>simp[rowsN]
    |succ k=>
      have:=ih (k:=k) (by simpa using h)
      rw[List.take_succ_cons,List.take_succ_cons,rowsN,rowsN,this,List.append_assoc];rfl
theorem rowsN_len {ns:List Int}(h:∀k,ns.getD k 0<=1125899906842624):∀k,(rowsN (ns.take k)).length<=10*k
  |0=>by simp[rowsN]
  |k+1=>by
    have ih:=rowsN_len h k
    by_cases hk:k<ns.length
    · rw[rowsN_snoc hk,List.length_append]
      have:=rowN_length (ns.getD k 0).toNat (by have:=h k;omega)
      omega
    · rw[List.take_of_length_le (by omega),<-List.take_of_length_le (show ns.length<=k by omega)];omega
theorem adNums_in {e:Gsp.Edge}{no:Int}{g:Bool}(h:mayA e no=true)(k:Nat):0<=(adNums e no g).getD k 0/\(adNums e no g).getD k 0<=1125899906842624:=by
  obtain⟨b,c⟩:=mayA_T h
  have d:=edgeA_T b
  unfold adNums
  rcases k with _|_|_|_|_|_|_|_|_|_|_|k<;>simp<;>(try split)<;>omega
theorem within1_ok (n lo hi:Int){g1 g2:Nat}(w:World)(hg1:Blk w g1 3 #[.int .i64 lo])(hg2:Blk w g2 3 #[.int .i64 hi]):Calls prog 233 #[.int .i64 (n),.pointer (some ⟨g1,0,none⟩),.pointer (some ⟨g2,0,none⟩)] w fun r w'=>r= .returned (.bool (!inB n lo hi))/\Le w w':=by
 refine enter func233 rfl rfl ?_
 have b:=Le.refl w
 refine Sr (Wn 1 rfl (Nx (Sr (Wn 1 rfl (Wr (.loadB (v:= .int .i64 (lo)) na3 rfl (hg1.le b) rfl) rfl (Wn 1 rfl ?_))))))
 by_cases c:n<lo
 ·refine Dt c rfl rfl (Wn 5 rfl (Nx (Rt (E.retG1 rfl rfl ?_))))
  exact⟨rB (by rw[Bool.eq_iff_iff];simp[inB];omega),b⟩
 refine Df c rfl rfl (Wn 1 rfl (Wg (.loadB (v:= .int .i64 (hi)) na3 rfl (hg2.le b) rfl) rfl (Wn 3 rfl (Nx (Rt (E.retG1 rfl rfl ?_))))))
 exact⟨rB (by rw[Bool.eq_iff_iff];simp[inB];omega),b⟩

theorem indexi_ok {A:Option Addr}{n c:Nat}{xs:List Int}{F:Nat}{caps:Array Value}(pr:Int->Bool)(hgo:IsGo prog F)(w:World)(hV:Vec w iv 1 A n xs)(hn:n<=1000000)(hf:∀(i:Int) (w1:World),Le w w1->Calls prog F (#[.int .i64 i]++caps) w1 fun r w2=>r= .returned (.bool (pr i))/\Le w1 w2):Calls prog 234 #[.slice A n c,.func (.func F) #[] caps] w fun r w'=>r= .returned (.int .i64 (idxI pr xs))/\Le w w':=by
 have hl:=hV.1
 refine enter func234 rfl rfl (Sr (Wn 1 rfl (Nx (Sq (Sr (Wn 1 rfl (Wr (.len underlying23 rfl) rfl (Wn 1 rfl (Nx (WC.block (WC.loop (ι:=Nat) (fun k=>[(0,.slice A n c),(1,.func (.func F) #[] caps),(7,.int .i64 (((n:Nat):Int))),(8,.int .i64 (((k:Nat):Int)))]) (fun k e=>(k<=n)/\(∀j,j<k->¬pr (xs.getD j 0)=true)/\Le w e/\w.heap.size<=e.heap.size) (fun k=>n-k) 0 ?_ ?_ ?_)))))))))))
 ·exact .of rfl
 ·exact⟨Nat.zero_le _,fun j hj=>absurd hj (Nat.not_lt_zero _),(Le.refl w),Nat.le_refl _⟩
 rintro k e ⟨hk,hz,b,o⟩
 refine Sr (Wn 1 rfl (Nx (Sq ?_)))
 by_cases f:((k:Nat):Int)<((n:Nat):Int)
 ·refine Cy rfl (dT f) (Sn (Sq (WC.block (Sr (Wn 2 rfl (Nx (Sr (Wn 3 rfl (Wa (.idxS (k) underlying23 sz3 rfl rfl (hV.isSome iv_row (by omega)) (rfl) (by omega)) rfl (Wr (.vone (v:= .int .i64 ((xs.getD k 0))) na3 rfl (hV.le b) iv_row (getS xs 0 (by omega)) rfl) rfl (W.ef rfl rfl rfl (Ef.callC hgo rfl rfl rfl (hf _ _ b) ?_))))))))))))
  rintro _ t ⟨rfl,l⟩
  refine⟨_,rfl,?_⟩
  have m:=b.trans l
  refine Nx ?_
  by_cases d:(pr (xs.getD k 0))=true
  ·refine Cy rfl (d) (Sr (Wn 2 rfl (Nx (Rt (E.blkR (E.thenR (E.thenR (E.blkR (E.thenR (E.retG1 rfl rfl ?_))))))))))
   exact⟨by rw[idxI_at (by omega) hz d],m⟩
  refine Cn rfl ((Bool.eq_false_iff.2 d)) (WC.skip (E.blkN (E.thenN (WC.region (Wa (.add rfl rfl (by omega)) rfl (Wn 1 rfl (W.nil (E.again (k+1) (.of rfl) ?_ ?_))))))))
  ·exact⟨by omega,fun j hj=>by rcases Nat.lt_or_ge j k with h|h;exact hz j h;rw[show j=k by omega];exact d,m,by have:=o;have:=l.size;omega⟩
  first|omega|(simp only[];omega)
 refine Cn rfl (dF f) (WC.exit (E.thenX (E.thenX (E.blkH (E.thenN (Sr (Wn 1 rfl (Nx (Rt (E.retG1 rfl rfl ?_))))))))))
 exact⟨by rw[idxI_no (k:=k) (by omega) (fun j s _=>hz j s)],b⟩

theorem contains_ok {A:Option Addr}{n c:Nat}{xs:List Int}{F:Nat}{caps:Array Value}(pr:Int->Bool)(hgo:IsGo prog F)(w:World)(hV:Vec w iv 1 A n xs)(hn:n<=1000000)(hf:∀(i:Int) (w1:World),Le w w1->Calls prog F (#[.int .i64 i]++caps) w1 fun r w2=>r= .returned (.bool (pr i))/\Le w1 w2):Calls prog 232 #[.slice A n c,.func (.func F) #[] caps] w fun r w'=>r= .returned (.bool (xs.any pr))/\Le w w':=by
 have hl:=hV.1
 refine enter func232 rfl rfl ?_
 have b:=Le.refl w
 refine Sr (Wn 1 rfl (Nx (Sr (Wn 2 rfl (W.cl go234 rfl rfl (indexi_ok pr hgo w (hV.le b) hn hf) ?_)))))
 rintro _ f ⟨rfl,d⟩
 have e:=b.trans d
 refine Wn 2 rfl (Nx (Rt (E.retG1 rfl rfl ?_)))
 exact⟨by rw[<-idxI_any],e⟩

theorem within_ok (lo hi:Int){A:Option Addr}{n c:Nat}{xs:List Int}(w:World)(hV:Vec w iv 1 A n xs)(hn:n<=1000000):Calls prog 153 #[.int .i64 (lo),.int .i64 (hi),.slice A n c] w fun r w'=>r= .returned (.bool (xs.all fun n=>inB n lo hi))/\Le w w':=by
 have hl:=hV.1
 refine enter func153 rfl rfl (Sr (W.ef rfl rfl rfl (Ef.box rfl fun f h t (i:Blk h f 3 #[.int .i64 (lo)]) j=>(W.ef rfl rfl rfl (Ef.box rfl fun k b u (l:Blk b k 3 #[.int .i64 (hi)]) d=>?_)))))
 have e:=((Le.refl w).trans j).trans d
 refine Wn 1 rfl (Nx (Sr (Wn 1 rfl (Wa (.makeFunc rfl) rfl (W.cl go232 rfl rfl (contains_ok (fun n=> !inB n lo hi) go233 b (hV.le e) (by omega) (fun n m hl=>within1_ok n lo hi m ((i.le d).le hl) (l.le hl))) ?_)))))
 rintro _ v ⟨rfl,o⟩
 have s:=e.trans o
 refine Wn 2 rfl (Nx (Rt (E.retG1 rfl rfl ?_)))
 exact⟨by rw[<-all_not],s⟩

theorem withinc1_ok (lo hi:Int){A:Option Addr}{c:Nat}{a:Int}(w:World)(hV:Vec w iv 1 A 1 [a]):Calls prog 153 #[.int .i64 lo,.int .i64 hi,.slice A 1 c] w fun r w'=>r= .returned (.bool (inB a lo hi))/\Le w w':=by
  have:=within_ok lo hi (c:=c) w hV (by decide)
  simpa using this
theorem withinc2_ok (lo hi:Int){A:Option Addr}{c:Nat}{a b:Int}(w:World)(hV:Vec w iv 1 A 2 [a,b]):Calls prog 153 #[.int .i64 lo,.int .i64 hi,.slice A 2 c] w fun r w'=>r= .returned (.bool (inB a lo hi&&inB b lo hi))/\Le w w':=by
  have:=within_ok lo hi (c:=c) w hV (by decide)
  simpa using this

theorem aright_ok (e:Gsp.Edge)(w:World):Calls prog 231 #[.agg (edgeV e).toArray] w fun r w'=>r= .returned (.bool (edgeA e))/\Le w w':=by
 refine enter func231 rfl rfl (Sr (W.ef rfl rfl rfl (Ef.boxA rfl fun aI aJ a9 (y:Blk aJ aI 81 (edgeV e).toArray) aK=>?_)))
 have L1:=(Le.refl w).trans aK
 refine Wn 1 rfl (Nx (Sr (Wa (.field0 fa81_4 rfl) rfl (Wr (.bpart (polV e.pol) ag79 rfl (by decide) rfl y rfl) rfl (W.ef rfl rfl rfl (Ef.allocA z79 fun al aL aM (aO:Blk aL al 79 (polV noPol).toArray) am=>(W.ef0 rfl rfl ?_)))))))
 refine Ef.storeAll sz79 (by rfl) rfl rfl aO (by simp only[List.size_toArray,polV_row.len]) (polV_row.one e.pol) ?_
 intro an z ao
 have z:Blk an al 79 (polV e.pol).toArray:=z
 refine Nx (Sr (Wa (.field0 fa81_0 rfl) rfl ?_))
 have A:=((y.le am).cn ao (by have:=y.lt;omega))
 refine Wr (.loadB (v:= .int .i64 (e.f)) na3 rfl A rfl) rfl (Wa (.field0 fa81_1 rfl) rfl (Wr (.loadB (v:= .int .i64 (e.t)) na3 rfl A rfl) rfl (W.ef rfl rfl rfl (Ef.buildSliceV (len:=2) [_,_] underlying23 el3 rfl (by simp[Value.cells]) rfl (by decide) (by decide) ?_))))
 intro ap C aP D F
 have D:Blk C ap 3 (([e.f,e.t]).map iv).flatten.toArray:=D
 have aQ:OVec C an.heap.size 3 iv 1 (some ⟨ap,0,none⟩) 2 2 ([e.f,e.t]):=D.ovec aP iv_row rfl rfl (by decide)
 refine W.cl go153 rfl rfl (withinc2_ok 0 11 C aQ.vec) ?_
 rintro _ aR ⟨rfl,H⟩
 have I:=(((L1.trans am).tb ao L1 aM).trans F).trans H
 by_cases h:(inB e.f 0 11&&inB e.t 0 11)=true
 ·refine Wa (.dec (.move rfl) (h)) rfl (Wg (Any.rd (.field0 fa81_0 rfl) _) rfl ?_)
  have x:=(A.le (F.trans H))
  refine Wg (.loadB (v:= .int .i64 (e.f)) na3 rfl x rfl) rfl (Wg (Any.rd (.field0 fa81_1 rfl) _) rfl (Wg (.loadB (v:= .int .i64 (e.t)) na3 rfl x rfl) rfl (Wn 2 rfl ?_)))
  by_cases i:e.f≠e.t
  ·refine Dt i rfl rfl (Wg (Any.rd (.field0 fa81_2 rfl) _) rfl (Wg (.loadB (v:= .int .i64 (e.c)) na3 rfl x rfl) rfl (W.efg rfl rfl rfl (rfl) rfl rfl (Ef.buildSliceV (len:=1) [_] underlying23 el3 rfl (by simp[Value.cells]) rfl (by decide) (by decide) ?_))))
   intro aq J aS K L
   have K:Blk J aq 3 (([e.c]).map iv).flatten.toArray:=K
   have aT:OVec J aR.heap.size 3 iv 1 (some ⟨aq,0,none⟩) 1 1 ([e.c]):=K.ovec aS iv_row rfl rfl (by decide)
   refine W.efg rfl rfl rfl (rfl) rfl rfl (Ef.call go153 rfl rfl (withinc1_ok 0 39 J aT.vec) ?_)
   rintro _ aU ⟨rfl,N⟩
   refine⟨_,rfl,?_⟩
   have L9:=(I.trans L).trans N
   refine Wn 1 rfl ?_
   by_cases j:(inB e.c 0 39)=true
   ·refine Wa (.dec (.move rfl) (j)) rfl (Wg (Any.rd (.field0 fa81_3 rfl) _) rfl ?_)
    have ar:=(x.le (L.trans N))
    refine Wg (.loadB (v:= .int .i64 (e.r)) na3 rfl ar rfl) rfl (W.efg rfl rfl rfl (rfl) rfl rfl (Ef.buildSliceV (len:=1) [_] underlying23 el3 rfl (by simp[Value.cells]) rfl (by decide) (by decide) ?_))
    intro au O aV P Q
    have P:Blk O au 3 (([e.r]).map iv).flatten.toArray:=P
    have aW:OVec O aU.heap.size 3 iv 1 (some ⟨au,0,none⟩) 1 1 ([e.r]):=P.ovec aV iv_row rfl rfl (by decide)
    refine W.efg rfl rfl rfl (rfl) rfl rfl (Ef.call go153 rfl rfl (withinc1_ok 1 1125899906842624 O aW.vec) ?_)
    rintro _ aX ⟨rfl,R⟩
    refine⟨_,rfl,?_⟩
    have av:=(L9.trans Q).trans R
    refine Wn 1 rfl ?_
    by_cases k:(inB e.r 1 1125899906842624)=true
    ·refine Wa (.dec (.move rfl) (k)) rfl (Wg (Any.rd (.field0 fa79_0 rfl) _) rfl ?_)
     have aw:=(z.le (F.trans (H.trans (L.trans (N.trans (Q.trans R))))))
     refine Wg (.loadB (v:= .int .i64 (e.pol.b)) na3 rfl aw rfl) rfl (W.efg rfl rfl rfl (rfl) rfl rfl (Ef.buildSliceV (len:=1) [_] underlying23 el3 rfl (by simp[Value.cells]) rfl (by decide) (by decide) ?_))
     intro ax S aY T U
     have T:Blk S ax 3 (([e.pol.b]).map iv).flatten.toArray:=T
     have aZ:OVec S aX.heap.size 3 iv 1 (some ⟨ax,0,none⟩) 1 1 ([e.pol.b]):=T.ovec aY iv_row rfl rfl (by decide)
     refine W.efg rfl rfl rfl (rfl) rfl rfl (Ef.call go153 rfl rfl (withinc1_ok 0 1125899906842624 S aZ.vec) ?_)
     rintro _ a0 ⟨rfl,V⟩
     refine⟨_,rfl,?_⟩
     have ay:=(av.trans U).trans V
     refine Wn 1 rfl ?_
     by_cases n:(inB e.pol.b 0 1125899906842624)=true
     ·refine Wa (.dec (.move rfl) (n)) rfl (Wg (Any.rd (.field0 fa79_1 rfl) _) rfl ?_)
      have az:=(aw.le (U.trans V))
      refine Wg (.loadB (v:= .int .i64 (e.pol.p)) na3 rfl az rfl) rfl (W.efg rfl rfl rfl (rfl) rfl rfl (Ef.buildSliceV (len:=1) [_] underlying23 el3 rfl (by simp[Value.cells]) rfl (by decide) (by decide) ?_))
      intro aA X a1 Y Z
      have Y:Blk X aA 3 (([e.pol.p]).map iv).flatten.toArray:=Y
      have a2:OVec X a0.heap.size 3 iv 1 (some ⟨aA,0,none⟩) 1 1 ([e.pol.p]):=Y.ovec a1 iv_row rfl rfl (by decide)
      refine W.efg rfl rfl rfl (rfl) rfl rfl (Ef.call go153 rfl rfl (withinc1_ok 0 1000000 X a2.vec) ?_)
      rintro _ a3 ⟨rfl,aa⟩
      refine⟨_,rfl,?_⟩
      have aB:=(ay.trans Z).trans aa
      refine Wn 1 rfl ?_
      by_cases o:(inB e.pol.p 0 1000000)=true
      ·refine Wa (.dec (.move rfl) (o)) rfl (Wg (Any.rd (.field0 fa79_2 rfl) _) rfl ?_)
       have aC:=(az.le (Z.trans aa))
       refine Wg (.loadB (v:= .int .i64 (e.pol.d)) na3 rfl aC rfl) rfl (W.efg rfl rfl rfl (rfl) rfl rfl (Ef.buildSliceV (len:=1) [_] underlying23 el3 rfl (by simp[Value.cells]) rfl (by decide) (by decide) ?_))
       intro aE ab a4 ac ad
       have ac:Blk ab aE 3 (([e.pol.d]).map iv).flatten.toArray:=ac
       have a5:OVec ab a3.heap.size 3 iv 1 (some ⟨aE,0,none⟩) 1 1 ([e.pol.d]):=ac.ovec a4 iv_row rfl rfl (by decide)
       refine W.efg rfl rfl rfl (rfl) rfl rfl (Ef.call go153 rfl rfl (withinc1_ok 1 4096 ab a5.vec) ?_)
       rintro _ a6 ⟨rfl,ae⟩
       refine⟨_,rfl,?_⟩
       have aF:=(aB.trans ad).trans ae
       refine Wn 1 rfl ?_
       by_cases s:(inB e.pol.d 1 4096)=true
       ·refine Wa (.dec (.move rfl) (s)) rfl (Wg (Any.rd (.field0 fa79_4 rfl) _) rfl ?_)
        have af:=(aC.le (ad.trans ae))
        refine Wg (.loadB (v:= .int .i64 (e.pol.m)) na3 rfl af rfl) rfl (Wg (Any.rd (.field0 fa79_3 rfl) _) rfl (Wg (.loadB (v:= .int .i64 (e.pol.l)) na3 rfl af rfl) rfl (W.efg rfl rfl rfl (rfl) rfl rfl (Ef.buildSliceV (len:=1) [_] underlying23 el3 rfl (by simp[Value.cells]) rfl (by decide) (by decide) ?_))))
        intro aG ah a7 ai aj
        have ai:Blk ah aG 3 (([e.pol.l]).map iv).flatten.toArray:=ai
        have a8:OVec ah a6.heap.size 3 iv 1 (some ⟨aG,0,none⟩) 1 1 ([e.pol.l]):=ai.ovec a7 iv_row rfl rfl (by decide)
        refine W.efg rfl rfl rfl (rfl) rfl rfl (Ef.call go153 rfl rfl (withinc1_ok 1 e.pol.m ah a8.vec) ?_)
        rintro _ ba ⟨rfl,ak⟩
        refine⟨_,rfl,?_⟩
        have aH:=(aF.trans aj).trans ak
        refine Wn 1 rfl ?_
        by_cases u:(inB e.pol.l 1 e.pol.m)=true
        ·refine Wa (.dec (.move rfl) (u)) rfl (Wg (Any.rd (.field0 fa79_4 rfl) _) rfl (Wg (.loadB (v:= .int .i64 (e.pol.m)) na3 rfl (af.le (aj.trans ak)) rfl) rfl (Wg (Any.rd (.field0 fa81_3 rfl) _) rfl (Wg (.loadB (v:= .int .i64 (e.r)) na3 rfl (ar.le (Q.trans (R.trans (U.trans (V.trans (Z.trans (aa.trans (ad.trans (ae.trans (aj.trans ak)))))))))) rfl) rfl (Wn 3 rfl (Nx (Rt ?_)))))))
         refine E.retG1 rfl rfl ?_
         exact⟨(by first|rfl|(simp[edgeA,h,i,j,k,n,o,s,u];done)|(simp[edgeA,h,i,j,k,n,o,s,u];omega)|(simp[edgeA,h,i,j,k,n,o,s,u];split<;>first|(exfalso;omega)|(simp;done)|(simp;omega))),aH⟩
        refine Wa (.dec (.move rfl) ((Bool.eq_false_iff.2 u))) rfl (Wn 7 rfl (Nx (Rt (E.retG1 rfl rfl ?_))))
        exact⟨(by first|rfl|(simp[edgeA,h,i,j,k,n,o,s,u];done)|(simp[edgeA,h,i,j,k,n,o,s,u];omega)|(simp[edgeA,h,i,j,k,n,o,s,u];split<;>first|(exfalso;omega)|(simp;done)|(simp;omega))),aH⟩
       refine Wa (.dec (.move rfl) ((Bool.eq_false_iff.2 s))) rfl (Wn 15 rfl (Nx (Rt (E.retG1 rfl rfl ?_))))
       exact⟨(by first|rfl|(simp[edgeA,h,i,j,k,n,o,s];done)|(simp[edgeA,h,i,j,k,n,o,s];omega)|(simp[edgeA,h,i,j,k,n,o,s];split<;>first|(exfalso;omega)|(simp;done)|(simp;omega))),aF⟩
      refine Wa (.dec (.move rfl) ((Bool.eq_false_iff.2 o))) rfl (Wn 21 rfl (Nx (Rt (E.retG1 rfl rfl ?_))))
      exact⟨(by first|rfl|(simp[edgeA,h,i,j,k,n,o];done)|(simp[edgeA,h,i,j,k,n,o];omega)|(simp[edgeA,h,i,j,k,n,o];split<;>first|(exfalso;omega)|(simp;done)|(simp;omega))),aB⟩
     refine Wa (.dec (.move rfl) ((Bool.eq_false_iff.2 n))) rfl (Wn 27 rfl (Nx (Rt (E.retG1 rfl rfl ?_))))
     exact⟨(by first|rfl|(simp[edgeA,h,i,j,k,n];done)|(simp[edgeA,h,i,j,k,n];omega)|(simp[edgeA,h,i,j,k,n];split<;>first|(exfalso;omega)|(simp;done)|(simp;omega))),ay⟩
    refine Wa (.dec (.move rfl) ((Bool.eq_false_iff.2 k))) rfl (Wn 33 rfl (Nx (Rt (E.retG1 rfl rfl ?_))))
    exact⟨(by first|rfl|(simp[edgeA,h,i,j,k];done)|(simp[edgeA,h,i,j,k];omega)|(simp[edgeA,h,i,j,k];split<;>first|(exfalso;omega)|(simp;done)|(simp;omega))),av⟩
   refine Wa (.dec (.move rfl) ((Bool.eq_false_iff.2 j))) rfl (Wn 39 rfl (Nx (Rt (E.retG1 rfl rfl ?_))))
   exact⟨(by first|rfl|(simp[edgeA,h,i,j];done)|(simp[edgeA,h,i,j];omega)|(simp[edgeA,h,i,j];split<;>first|(exfalso;omega)|(simp;done)|(simp;omega))),L9⟩
  refine Df i rfl rfl (Wn 45 rfl (Nx (Rt (E.retG1 rfl rfl ?_))))
  exact⟨(by first|rfl|(simp[edgeA,h,i];done)|(simp[edgeA,h,i];omega)|(simp[edgeA,h,i];split<;>first|(exfalso;omega)|(simp;done)|(simp;omega))),I⟩
 refine Wa (.dec (.move rfl) ((Bool.eq_false_iff.2 h))) rfl (Wn 52 rfl (Nx (Rt (E.retG1 rfl rfl ?_))))
 exact⟨(by first|rfl|(simp[edgeA,h];done)|(simp[edgeA,h];omega)|(simp[edgeA,h];split<;>first|(exfalso;omega)|(simp;done)|(simp;omega))),I⟩

theorem amay_ok (e:Gsp.Edge)(no:Int)(w:World):Calls prog 152 #[.agg (edgeV e).toArray,.int .i64 (no)] w fun r w'=>r= .returned (.bool (mayA e no))/\Le w w':=by
 refine enter func152 rfl rfl (Sr (W.ef rfl rfl rfl (Ef.boxA rfl fun j f v (k:Blk f j 81 (edgeV e).toArray) l=>(Wn 1 rfl (Nx (Sr (Wr (.loadAll ag81 (by rfl) rfl k) rfl ?_)))))))
 refine W.cl go231 rfl rfl (aright_ok e f) ?_
 rintro _ m ⟨rfl,n⟩
 have h:=((Le.refl w).trans l).trans n
 by_cases b:(edgeA e)=true
 ·refine Wa (.dec (.move rfl) (b)) rfl (Wn 1 rfl (W.efg rfl rfl rfl (rfl) rfl rfl (Ef.buildSliceV (len:=1) [_] underlying23 el3 rfl (by simp[Value.cells]) rfl (by decide) (by decide) ?_)))
  intro i c o d s
  have d:Blk c i 3 (([no]).map iv).flatten.toArray:=d
  have t:OVec c m.heap.size 3 iv 1 (some ⟨i,0,none⟩) 1 1 ([no]):=d.ovec o iv_row rfl rfl (by decide)
  refine W.efg rfl rfl rfl (rfl) rfl rfl (Ef.call go153 rfl rfl (withinc1_ok 1 1048576 c t.vec) ?_)
  rintro _ x ⟨rfl,u⟩
  refine⟨_,rfl,?_⟩
  refine Wn 2 rfl (Nx (Rt (E.retG1 rfl rfl ?_)))
  exact⟨(by first|rfl|(simp[mayA,b];done)|(simp[mayA,b];omega)|(simp[mayA,b];split<;>first|(exfalso;omega)|(simp;done)|(simp;omega))),((h.trans s).trans u)⟩
 refine Wa (.dec (.move rfl) ((Bool.eq_false_iff.2 b))) rfl (Wn 5 rfl (Nx (Rt (E.retG1 rfl rfl ?_))))
 exact⟨(by first|rfl|(simp[mayA,b];done)|(simp[mayA,b];omega)|(simp[mayA,b];split<;>first|(exfalso;omega)|(simp;done)|(simp;omega))),h⟩

theorem alike_ok (a b:Gsp.Edge)(w:World):Calls prog 154 #[.agg (edgeV a).toArray,.agg (edgeV b).toArray] w fun r w'=>r= .returned (.bool (alikeE a b))/\Le w w':=by
 refine enter func154 rfl rfl (Sr (W.ef rfl rfl rfl (Ef.boxA rfl fun m n y (o:Blk n m 81 (edgeV a).toArray) s=>(W.ef rfl rfl rfl (Ef.boxA rfl fun u x z (i:Blk x u 81 (edgeV b).toArray) l=>?_)))))
 have k:=((Le.refl w).trans s).trans l
 refine Wn 1 rfl (Nx (Sr (Wa (.field0 fa81_3 rfl) rfl ?_)))
 have j:=(o.le l)
 refine Wr (.loadB (v:= .int .i64 (a.r)) na3 rfl j rfl) rfl (Wa (.field0 fa81_3 rfl) rfl (Wr (.loadB (v:= .int .i64 (b.r)) na3 rfl i rfl) rfl (Wn 1 rfl ?_)))
 by_cases c:a.r=b.r
 ·refine Dt c rfl rfl (Wg (Any.rd (.field0 fa81_0 rfl) _) rfl (Wg (.loadB (v:= .int .i64 (a.f)) na3 rfl j rfl) rfl (Wg (Any.rd (.field0 fa81_0 rfl) _) rfl (Wg (.loadB (v:= .int .i64 (b.f)) na3 rfl i rfl) rfl (Wn 1 rfl ?_)))))
  by_cases d:a.f=b.f
  ·refine Wg (Any.rd (.dec (.move rfl) (dT d)) _) rfl (Wg (Any.rd (.field0 fa81_1 rfl) _) rfl (Wg (.loadB (v:= .int .i64 (a.t)) na3 rfl j rfl) rfl (Wg (Any.rd (.field0 fa81_1 rfl) _) rfl (Wg (.loadB (v:= .int .i64 (b.t)) na3 rfl i rfl) rfl (Wn 1 rfl ?_)))))
   refine Wg (Any.rd (.pickT rfl rfl rfl) _) rfl ?_
   by_cases h:a.t=b.t
   ·refine Wg (Any.rd (.dec (.move rfl) (dT h)) _) rfl (Wn 6 rfl (W.skipu rfl rfl rfl rfl rfl (W.skipu rfl rfl rfl rfl rfl (W.skipu rfl rfl rfl rfl rfl (W.skipu rfl rfl rfl rfl rfl ?_)))))
    refine W.skipu rfl rfl rfl rfl rfl (Wn 1 rfl (Wg (Any.rd (.pickT rfl rfl rfl) _) rfl (Wn 2 rfl (Nx (Rt (E.retG1 rfl rfl ?_))))))
    exact⟨(by first|rfl|(simp[alikeE,c,d,h];done)|(simp[alikeE,c,d,h];omega)|(simp[alikeE,c,d,h];split<;>first|(exfalso;omega)|(simp;done)|(simp;omega))),k⟩
   refine Wg (Any.rd (.dec (.move rfl) (dF h)) _) rfl (Wg (Any.rd (.field0 fa81_0 rfl) _) rfl (Wg (.loadB (v:= .int .i64 (a.f)) na3 rfl j rfl) rfl (Wg (Any.rd (.field0 fa81_1 rfl) _) rfl (Wg (.loadB (v:= .int .i64 (b.t)) na3 rfl i rfl) rfl (Wn 1 rfl ?_)))))
   by_cases e:a.f=b.t
   ·refine Wg (Any.rd (.dec (.move rfl) (dT e)) _) rfl (Wg (Any.rd (.field0 fa81_1 rfl) _) rfl (Wg (.loadB (v:= .int .i64 (a.t)) na3 rfl j rfl) rfl (Wg (Any.rd (.field0 fa81_0 rfl) _) rfl (Wg (.loadB (v:= .int .i64 (b.f)) na3 rfl i rfl) rfl (Wn 1 rfl ?_)))))
    refine Wg (Any.rd (.pickT rfl rfl rfl) _) rfl (Wg (Any.rd (.pickF rfl rfl rfl) _) rfl (Wn 2 rfl (Nx (Rt (E.retG1 rfl rfl ?_)))))
    exact⟨(by first|rfl|(simp[alikeE,c,d,h,e];done)|(simp[alikeE,c,d,h,e];omega)|(simp[alikeE,c,d,h,e];split<;>first|(exfalso;omega)|(simp;done)|(simp;omega))),k⟩
   refine Wg (Any.rd (.dec (.move rfl) (dF e)) _) rfl (Wn 5 rfl (Wg (Any.rd (.pickF rfl rfl rfl) _) rfl (Wg (Any.rd (.pickF rfl rfl rfl) _) rfl (Wn 2 rfl (Nx (Rt (E.retG1 rfl rfl ?_)))))))
   exact⟨(by first|rfl|(simp[alikeE,c,d,h,e];done)|(simp[alikeE,c,d,h,e];omega)|(simp[alikeE,c,d,h,e];split<;>first|(exfalso;omega)|(simp;done)|(simp;omega))),k⟩
  refine Wg (Any.rd (.dec (.move rfl) (dF d)) _) rfl (Wn 5 rfl (Wg (Any.rd (.pickF rfl rfl rfl) _) rfl (Wn 1 rfl (Wg (Any.rd (.field0 fa81_0 rfl) _) rfl (Wg (.loadB (v:= .int .i64 (a.f)) na3 rfl j rfl) rfl ?_)))))
  refine Wg (Any.rd (.field0 fa81_1 rfl) _) rfl (Wg (.loadB (v:= .int .i64 (b.t)) na3 rfl i rfl) rfl (Wn 1 rfl ?_))
  by_cases e:a.f=b.t
  ·refine Wg (Any.rd (.dec (.move rfl) (dT e)) _) rfl (Wg (Any.rd (.field0 fa81_1 rfl) _) rfl (Wg (.loadB (v:= .int .i64 (a.t)) na3 rfl j rfl) rfl (Wg (Any.rd (.field0 fa81_0 rfl) _) rfl (Wg (.loadB (v:= .int .i64 (b.f)) na3 rfl i rfl) rfl (Wn 1 rfl ?_)))))
   refine Wg (Any.rd (.pickT rfl rfl rfl) _) rfl (Wg (Any.rd (.pickF rfl rfl rfl) _) rfl (Wn 2 rfl (Nx (Rt (E.retG1 rfl rfl ?_)))))
   exact⟨(by first|rfl|(simp[alikeE,c,d,e];done)|(simp[alikeE,c,d,e];omega)|(simp[alikeE,c,d,e];split<;>first|(exfalso;omega)|(simp;done)|(simp;omega))),k⟩
  refine Wg (Any.rd (.dec (.move rfl) (dF e)) _) rfl (Wn 5 rfl (Wg (Any.rd (.pickF rfl rfl rfl) _) rfl (Wg (Any.rd (.pickF rfl rfl rfl) _) rfl (Wn 2 rfl (Nx (Rt (E.retG1 rfl rfl ?_)))))))
  exact⟨(by first|rfl|(simp[alikeE,c,d,e];done)|(simp[alikeE,c,d,e];omega)|(simp[alikeE,c,d,e];split<;>first|(exfalso;omega)|(simp;done)|(simp;omega))),k⟩
 refine Df c rfl rfl (Wn 6 rfl (W.skipu rfl rfl rfl rfl rfl (W.skipu rfl rfl rfl rfl rfl (W.skipu rfl rfl rfl rfl rfl (W.skipu rfl rfl rfl rfl rfl (W.skipu rfl rfl rfl rfl rfl ?_))))))
 refine Wn 2 rfl (W.skipu rfl rfl rfl rfl rfl (W.skipu rfl rfl rfl rfl rfl (W.skipu rfl rfl rfl rfl rfl (W.skipu rfl rfl rfl rfl rfl (W.skipu rfl rfl rfl rfl rfl ?_)))))
 refine W.skipu rfl rfl rfl rfl rfl (W.skipu rfl rfl rfl rfl rfl (W.skipu rfl rfl rfl rfl rfl (W.skipu rfl rfl rfl rfl rfl (W.skipu rfl rfl rfl rfl rfl (W.skipu rfl rfl rfl rfl rfl ?_)))))
 refine W.skipu rfl rfl rfl rfl rfl (Wn 3 rfl (Nx (Rt (E.retG1 rfl rfl ?_))))
 exact⟨(by first|rfl|(simp[alikeE,c];done)|(simp[alikeE,c];omega)|(simp[alikeE,c];split<;>first|(exfalso;omega)|(simp;done)|(simp;omega))),k⟩

theorem asum_ok (e:Gsp.Edge)(no:Int)(gone:Bool)(w:World):Calls prog 164 #[.agg (edgeV e).toArray,.int .i64 (no),.bool (gone)] w fun r w'=>r= .returned (.agg ((sumA e no gone).map u8v).toArray)/\Le w w':=by
 refine enter func164 rfl rfl (Sr (W.ef rfl rfl rfl (Ef.boxA rfl fun H ak aF (al:Blk ak H 81 (edgeV e).toArray) am=>?_)))
 have I:=(Le.refl w).trans am
 refine W.ef rfl rfl rfl (Ef.allocA z30 fun o V X (J:Blk V o 30 ((List.replicate 32 (0:BitVec 8)).map u8v).toArray) Y=>(Nx (Sq (Sr ?_))))
 have Z:=(al.le Y)
 refine Wr (.loadAll ag81 (by rfl) rfl Z) rfl ?_
 refine Wn 1 rfl (W.cl go152 rfl rfl (amay_ok e no V) ?_)
 rintro _ aG ⟨rfl,x⟩
 have K:=(I.trans Y).trans x
 refine Wn 1 rfl (Nx ?_)
 by_cases c0:(mayA e no)=true
 ·refine Cn rfl (congrArg not (c0)) ?_
  have hnn:=fun k=>adNums_in (g:=gone) (show mayA e no=true by assumption) k
  have hrl:=rowsN_len (fun k=>(hnn k).2)
  refine Sn (Sr (Wa (.field0 fa81_4 rfl) rfl ?_))
  have L:=(Z.le x)
  refine Wr (.bpart (polV e.pol) ag79 rfl (by decide) rfl L rfl) rfl (W.ef rfl rfl rfl (Ef.allocA z79 fun z an ao (ap:Blk an z 79 (polV noPol).toArray) N=>(W.ef0 rfl rfl (Ef.storeAll sz79 (by rfl) rfl rfl ap (by simp only[List.size_toArray,polV_row.len]) (polV_row.one e.pol) ?_))))
  intro aa A O
  have A:Blk aa z 79 (polV e.pol).toArray:=A
  have L7:=(K.trans N).tb O K ao
  refine Wn 1 rfl (Nx ?_)
  have f8:=((L.le N).cn O (by have:=L.lt;omega))
  have f9:=((J.le (x.trans N)).cn O (by have:=J.lt;have:=x.size;omega))
  refine WC.cut (ι:=Nat) (fun u0=>[(1,.int .i64 (no)),(3,.pointer (some ⟨H,0,none⟩)),(6,.pointer (some ⟨o,0,none⟩)),(7,.pointer (some ⟨z,0,none⟩)),(8,.int .i64 ((if gone=true then 1 else 0)))]) (fun u0 i=>(u0=u0)/\Le w i/\aa.heap.size<=i.heap.size/\Blk i H 81 (edgeV e).toArray/\Blk i o 30 ((List.replicate 32 (0:BitVec 8)).map u8v).toArray/\Blk i z 79 (polV e.pol).toArray) ?_ ?_
  ·refine Sr (Wn 1 rfl (Nx ?_))
   by_cases c1:gone=true
   ·refine Cy rfl (c1) (WC.region (Wn 1 rfl (W.nil (E.meet 0 (.cons rfl (.cons rfl (.cons rfl (.cons rfl (.cons' rfl (int_eq (by simp[*])) (.nil _)))))) ?_))))
    exact⟨rfl,L7,Nat.le_refl _,f8,f9,A⟩
   refine Cn rfl ((Bool.eq_false_iff.2 c1)) (WC.skip (E.meet 0 (.cons rfl (.cons rfl (.cons rfl (.cons rfl (.cons' rfl (int_eq (by simp[*])) (.nil _)))))) ?_))
   exact⟨rfl,L7,Nat.le_refl _,f8,f9,A⟩
  rintro u0 i ⟨_hu,aq,aH,C,ar,y⟩
  refine Sr (Wn 1 rfl (Nx (Sq (Sr (Wa (.field0 fa81_0 rfl) rfl (Wr (.loadB (v:= .int .i64 (e.f)) na3 rfl C rfl) rfl (Wa (.field0 fa81_1 rfl) rfl (Wr (.loadB (v:= .int .i64 (e.t)) na3 rfl C rfl) rfl (Wa (.field0 fa81_2 rfl) rfl ?_)))))))))
  refine Wr (.loadB (v:= .int .i64 (e.c)) na3 rfl C rfl) rfl (Wa (.field0 fa81_3 rfl) rfl (Wr (.loadB (v:= .int .i64 (e.r)) na3 rfl C rfl) rfl (Wa (.field0 fa79_0 rfl) rfl (Wr (.loadB (v:= .int .i64 (e.pol.b)) na3 rfl y rfl) rfl (Wa (.field0 fa79_1 rfl) rfl ?_)))))
  refine Wr (.loadB (v:= .int .i64 (e.pol.p)) na3 rfl y rfl) rfl (Wa (.field0 fa79_2 rfl) rfl (Wr (.loadB (v:= .int .i64 (e.pol.d)) na3 rfl y rfl) rfl (Wa (.field0 fa79_3 rfl) rfl (Wr (.loadB (v:= .int .i64 (e.pol.l)) na3 rfl y rfl) rfl (Wa (.field0 fa79_4 rfl) rfl ?_)))))
  refine Wr (.loadB (v:= .int .i64 (e.pol.m)) na3 rfl y rfl) rfl (Wn 2 rfl (W.ef rfl rfl rfl (Ef.buildSliceV (len:=11) [_,_,_,_,_,_,_,_,_,_,_] underlying23 el3 rfl (by simp[Value.cells]) rfl (by decide) (by decide) ?_)))
  intro D u au P Q
  have P:Blk u D 3 (([e.f,e.t,e.c,e.r,e.pol.b,e.pol.p,e.pol.d,e.pol.l,e.pol.m,no,(if gone=true then 1 else 0)]).map iv).flatten.toArray:=P
  have ab:OVec u i.heap.size 3 iv 1 (some ⟨D,0,none⟩) 11 11 ([e.f,e.t,e.c,e.r,e.pol.b,e.pol.p,e.pol.d,e.pol.l,e.pol.m,no,(if gone=true then 1 else 0)]):=P.ovec au iv_row rfl rfl (by decide)
  have av:=ab.cast (m':=11) (ys:=(adNums e no gone)) (rfl) (rfl)
  refine Wr (.len underlying23 rfl) rfl (Wn 1 rfl (Nx (WC.block ?_)))
  refine WC.loop (ι:=Nat×(Option Addr)×Nat) (fun⟨k,Aa,ca⟩=>[(6,.pointer (some ⟨o,0,none⟩)),(9,.slice Aa ((rowsN ((adNums e no gone).take k)).length) ca),(40,.slice (some ⟨D,0,none⟩) 11 11),(41,.int .i64 (11)),(42,.int .i64 (((k:Nat):Int)))]) (fun⟨k,Aa,ca⟩ j=>(k<=11)/\Le w j/\u.heap.size<=j.heap.size/\Blk j o 30 ((List.replicate 32 (0:BitVec 8)).map u8v).toArray/\OVec j u.heap.size 5 byteV 1 Aa ((rowsN ((adNums e no gone).take k)).length) ca (rowsN ((adNums e no gone).take k))/\OVec j i.heap.size 3 iv 1 (some ⟨D,0,none⟩) 11 11 (adNums e no gone)) (fun⟨k,Aa,ca⟩=>11-k) (0,none,0) ?_ ?_ ?_
  ·exact .of rfl
  ·exact⟨Nat.zero_le _,(aq.trans Q),Nat.le_refl _,(ar.le Q),(OVec.nil u u.heap.size 5 byteV 1 none),av⟩
  rintro⟨k,Aa,ca⟩ j ⟨hk,ac,ad,ae,af,ah⟩
  have aI:u.heap.size<=j.heap.size:=by omega
  have aJ:i.heap.size<=j.heap.size:=by have:=Q.size;omega
  have hrk:=hrl k
  have hnl:(adNums e no gone).length=11:=rfl
  have hsn:=fun h=>rowsN_snoc (ns:=(adNums e no gone)) (k:=k) h
  refine Sr (Wn 1 rfl (Nx (Sq ?_)))
  by_cases c2:((k:Nat):Int)<11
  ·refine Cy rfl (dT c2) (Sn (Sq (WC.block (Sr (Wa (.idxS (k) underlying23 sz3 rfl rfl (ab.vec.isSome iv_row (by omega)) (rfl) (by omega)) rfl (Wr (.vone (v:= .int .i64 (((adNums e no gone).getD k 0))) na3 rfl ah.vec iv_row (getS (adNums e no gone) 0 (by first|omega|(simp only[List.length_cons,List.length_nil];omega))) rfl) rfl ?_))))))
   refine Wn 1 rfl (Nx (WC.region (Wn 2 rfl (W.cl go239 rfl rfl ((by have q:=put_ok (((adNums e no gone).getD k 0)).toNat (by have:=(hnn k).2;omega) (c:=ca) j af.vec (by omega);rw[Int.toNat_of_nonneg (hnn k).1]at q;exact q)) ?_))))
   rintro _ aK ⟨aw,ax,rfl,ay,F⟩
   refine Wn 1 rfl (W.nil (E.blkN (E.thenN (WC.region (Wa (.add rfl rfl (by omega)) rfl (Wn 1 rfl (W.nil (E.again (k+1,aw,ax) (.cons rfl (.cons' rfl (slice_eq (by rw[hsn (by omega)])) (.of rfl))) ?_ ?_))))))))
   ·exact⟨by omega,(ac.trans F),by have:=ad;have:=F.size;omega,(ae.le F),((ay.mono ad).cast (by rw[hsn (by omega)]) (by rw[hsn (by omega)])),(ah.le F)⟩
   first|omega|(simp only[];omega)
  refine Cn rfl (dF c2) (WC.exit (E.thenX (E.thenX (E.blkH (E.thenN (Sr (Wn 1 rfl (W.ef rfl rfl rfl (Ef.buildSliceN [_] underlying157 el26 rfl (by intro v hv;simp at hv;rcases hv with rfl<;>rfl) rfl (by decide) (by decide) ?_)))))))))
  intro az ai aL R S
  have R:Blk ai az 26 #[.slice Aa ((rowsN ((adNums e no gone).take k)).length) ca]:=R
  refine W.cl go21 rfl rfl (tag_ok _ nAd ai (ps:=[(rowsN ((adNums e no gone).take k))]) rfl (R.sl (s:=1) (n:=1) rfl) (.cons (byte_sb (af.le S).vec) (.nil _)) (by rw[tagLen1];show 16+2+_<=_;omega)) ?_
  rintro _ aM ⟨rfl,aj⟩
  refine W.ef0 rfl rfl (Ef.storeAll sz30 (by simp[(tag_length _ _),List.length_replicate]) rfl rfl (ae.le (S.trans aj)) (by simp[(tag_length _ _),List.length_replicate]) (all_u8v _) ?_)
  intro aA T aB
  have T:Blk aA o 30 ((tag nAd [(rowsN ((adNums e no gone).take k))]).map u8v).toArray:=T
  refine Nx (Rt (E.retG1 rfl (resA rfl T ag30 (by simp[(tag_length _ _)])) ?_))
  exact⟨by rw[sumA,if_pos (by assumption),List.take_of_length_le (by omega)],(((ac.trans S).trans aj).tb aB I X)⟩
 refine Cy rfl (congrArg not ((Bool.eq_false_iff.2 c0))) (Sr (Wa (.buildA (cells:=((List.replicate 32 (0:BitVec 8)).map u8v).toArray) underlying30 sz5 z30 rfl rfl) rfl (W.ef0 rfl rfl (Ef.storeAll sz30 (by simp[List.length_replicate,List.length_replicate]) rfl rfl (J.le x) (by simp[List.length_replicate,List.length_replicate]) (all_u8v _) ?_))))
 intro aC U aE
 have U:Blk aC o 30 ((List.replicate 32 (0:BitVec 8)).map u8v).toArray:=U
 refine Nx (Rt (E.thenR (E.retG1 rfl (resA rfl U ag30 (by simp[List.length_replicate])) ?_)))
 exact⟨by rw[sumA,if_neg (by assumption)],(K.tb aE I X)⟩



theorem averify_ok (p:Nat)(a:Asp.Ad)(hp:p<18446744073709551616)(hr:a.sg.r<18446744073709551616)(w:World):Calls prog 70 #[.int .u64 (((p:Nat):Int)),.agg (adV a).toArray] w fun r w'=>r= .returned (.bool (verifyA p a))/\Le w w':=by
 refine enter func70 rfl rfl (WC.sr (W.ef rfl rfl rfl (Ef.boxA rfl fun l m x (n:Blk m l 140 (adV a).toArray) o=>(W.run 1 rfl (W.nx (WC.seq (WC.draw [0,1,2,3,4,5,6,7,8,9,10,11,12,14,15,13,16,17,18] mixed (by kernel_rfl) fun s h=>(Ga rfl (.field0 fa140_0 rfl) ?_))))))))
 have d:=(n.le h)
 refine Gd rfl (.bpart (edgeV a.e) ag81 rfl (by decide) rfl d rfl) (Ga rfl (.field0 fa140_1 rfl) (Gd rfl (.loadB (v:= .int .i64 (a.no)) na3 rfl d rfl) (G.ef rfl rfl rfl rfl rfl (Ef.call go152 rfl rfl (amay_ok a.e a.no s) ?_))))
 rintro _ t ⟨rfl,f⟩
 refine⟨_,rfl,?_⟩
 refine⟨fun _=>f,?_⟩
 have i:=(((Le.refl w).trans o).trans h).trans f
 by_cases b:(mayA a.e a.no)=true
 ·refine Ga rfl (.dec (.move rfl) (b)) (G.run 1 rfl (Gag rfl (.field0 fa140_0 rfl) ?_))
  have c:=(d.le f)
  refine Gdg rfl (.bpart (edgeV a.e) ag81 rfl (by decide) rfl c rfl) (Gag rfl (.field0 fa140_1 rfl) (Gdg rfl (.loadB (v:= .int .i64 (a.no)) na3 rfl c rfl) (Gag rfl (.field0 fa140_2 rfl) (Gdg rfl (.loadB (v:= .bool (a.gone)) na4 rfl c rfl) (Gag rfl (.field0 fa140_3 rfl) ?_)))))
  refine Gdg rfl (.bpart (sigV a.sg) ag138 rfl (by decide) rfl c rfl) (G.efg rfl rfl rfl rfl rfl (rfl) rfl rfl (Ef.call go164 rfl rfl (asum_ok a.e a.no a.gone t) ?_))
  rintro _ u ⟨rfl,j⟩
  refine⟨_,rfl,?_⟩
  refine⟨fun _=>j,?_⟩
  refine G.efg rfl rfl rfl rfl rfl (rfl) rfl rfl (Ef.call go163 rfl rfl (verify_ok p (sumA a.e a.no a.gone) (sumA_length _ _ _) a.sg hp hr u) ?_)
  rintro _ y ⟨rfl,k⟩
  refine⟨_,rfl,?_⟩
  refine⟨fun _=>k,?_⟩
  refine G.run 2 rfl (G.nil (E.thenN (WC.ret (E.retG1 rfl rfl ?_))))
  exact⟨(by first|rfl|(simp[verifyA,b];done)|(simp[verifyA,b];omega)|(simp[verifyA,b];split<;>first|(exfalso;omega)|(simp;done)|(simp;omega))),((i.trans j).trans k)⟩
 refine Ga rfl (.dec (.move rfl) ((Bool.eq_false_iff.2 b))) (G.run 13 rfl (G.nil (E.thenN (WC.ret (E.retG1 rfl rfl ?_)))))
 exact⟨(by first|rfl|(simp[verifyA,b];done)|(simp[verifyA,b];omega)|(simp[verifyA,b];split<;>first|(exfalso;omega)|(simp;done)|(simp;omega))),i⟩
end Go.Proofs.YtocheaahlpiajaaGreatDoor

namespace Go.Proofs.YtocheaahlpiajaaGreatDoor
open Tryz
open Go Go.Sx Go.Hsp Go.Num Go.Osp Go.Gsp Go.Asp
set_option maxRecDepth 20000
theorem filt_T {pr:Int->Bool}(xs:List Int)(k:Nat)(hk:k<xs.length)(h:pr (xs.getD k 0)=true):(xs.take (k+1)).filter pr=(xs.take k).filter pr++[xs.getD k 0]:=by
  rw[List.take_add_one,getS xs 0 hk,List.filter_append]
  simp[List.filter_cons,-List.getD_eq_getElem?_getD,h]
theorem filt_F {pr:Int->Bool}(xs:List Int)(k:Nat)(hk:k<xs.length)(h:pr (xs.getD k 0)=false):(xs.take (k+1)).filter pr=(xs.take k).filter pr:=by
  rw[List.take_add_one,getS xs 0 hk,List.filter_append]
  simp[List.filter_cons,-List.getD_eq_getElem?_getD,h]
theorem filt_no {pr:Int->Bool}{xs:List Int}(h:idxI pr xs= -1):xs.filter (fun i=> !pr i)=xs:=by
  rw[List.filter_eq_self]
  intro a ha
  unfold idxI at h
  split at h
  · omega
  · rename_i hn
    rw[List.any_eq_true]at hn
    cases e:pr a
    · rfl
    · exact absurd ⟨a,ha,e⟩ hn
theorem filt_one {pr:Int->Bool}{xs:List Int}(h:¬idxI pr xs= -1):∃i:Nat,idxI pr xs=i/\i<xs.length/\pr (xs.getD i 0)=true/\xs.take i=(xs.take (i+1)).filter (fun i=> !pr i):=by
  unfold idxI at h ⊢
  split at h
  · rename_i hy
    have hlt:xs.findIdx pr<xs.length:=List.findIdx_lt_length_of_exists (by simpa using hy)
    have hat:pr (xs.getD (xs.findIdx pr) 0)=true:=by
      have:=List.findIdx_getElem (w:=hlt);simpa[List.getD,hlt]using this
    refine⟨_,if_pos hy,hlt,hat,?_⟩
    rw[filt_F xs _ hlt (by rw[hat];rfl),eq_comm,List.filter_eq_self]
    intro a ha
    obtain⟨j,hj,rfl⟩:=List.mem_iff_getElem.1 ha
    have b:j<xs.findIdx pr:=by simp at hj;omega
    have:=List.not_of_lt_findIdx b
    simpa using this
  · exact absurd rfl h
theorem take_set {ys:List Int}{i:Nat}{v:Int}(h:i<ys.length):(ys.set i v).take (i+1)=ys.take i++[v]:=by
  rw[List.take_add_one,List.take_set,List.set_eq_of_length_le (by simp;omega)]
  simp[h]
theorem giclone_ok {Aq:Option Addr}{n cq:Nat}{xs:List Int}(w:World)(hO:Vec w iv 1 Aq n xs)(hn:n<=1000000):Calls prog 156 #[.slice Aq n cq] w fun r w'=>∃(A:Option Addr) (c:Nat),r= .returned (.slice A n c)/\OVec w' w.heap.size 3 iv 1 A n c xs/\Le w w':=by
 refine enter func156 rfl rfl ?_
 have b:=Le.refl w
 refine Sr (Wn 1 rfl (Nx (Sq (Sr (Wn 1 rfl (Wa (.isNil underlying23 rfl) rfl (Nx ?_)))))))
 by_cases d:Aq.isNone=true
 ·refine Cy rfl (d) (Sr (Wn 1 rfl (Nx (Rt (E.thenR (E.retG1 rfl rfl ?_))))))
  have j:n=0:=(by rcases Nat.eq_zero_or_pos n with h|h;exact h;have:=hO.isSome iv_row h;rw[Option.isNone_iff_eq_none]at d;rw[d]at this;cases this);subst j;have hx:=List.length_eq_zero_iff.1 hO.1;subst hx;exact⟨none,0,rfl,OVec.nil _ _ _ _ _ _,b⟩
 refine Cn rfl ((Bool.eq_false_iff.2 d)) (Sn (Sr (W.ef rfl rfl rfl (Ef.buildSlice0 underlying23 el3 fun k l u v e=>?_))))
 have f:=b.trans e
 have i:OVec l w.heap.size 3 iv 1 (some ⟨k,0,none⟩) 0 0 []:=OVec.nil _ _ _ _ _ _
 refine Wn 1 rfl (W.ef rfl rfl rfl (Ef.vcat underlying23 el3 underlying23 iv_row rfl i rfl (hO.le f) (by omega) (by unfold maxLen;omega) (by have:=e.size;omega) ?_))
 intro m o x s t y
 refine Wn 1 rfl (Nx (Rt (E.retG1 rfl rfl ?_)))
 exact⟨m,o,by rw[Nat.zero_add],(by simpa using(s.mono b.size)),(f.then_ t (fun q hq=>Nat.le_trans b.size (i.row hq).1))⟩

theorem gpclone_ok {Aq:Option Addr}{n cq:Nat}{xs:List Nat}(w:World)(hO:Vec w pv1 1 Aq n xs)(hn:n<=1000000):Calls prog 151 #[.slice Aq n cq] w fun r w'=>∃(A:Option Addr) (c:Nat),r= .returned (.slice A n c)/\OVec w' w.heap.size 43 pv1 1 A n c xs/\Le w w':=by
 refine enter func151 rfl rfl ?_
 have b:=Le.refl w
 refine Sr (Wn 1 rfl (Nx (Sq (Sr (Wn 1 rfl (Wa (.isNil underlying39 rfl) rfl (Nx ?_)))))))
 by_cases d:Aq.isNone=true
 ·refine Cy rfl (d) (Sr (Wn 1 rfl (Nx (Rt (E.thenR (E.retG1 rfl rfl ?_))))))
  have j:n=0:=(by rcases Nat.eq_zero_or_pos n with h|h;exact h;have:=hO.isSome pv1_row h;rw[Option.isNone_iff_eq_none]at d;rw[d]at this;cases this);subst j;have hx:=List.length_eq_zero_iff.1 hO.1;subst hx;exact⟨none,0,rfl,OVec.nil _ _ _ _ _ _,b⟩
 refine Cn rfl ((Bool.eq_false_iff.2 d)) (Sn (Sr (W.ef rfl rfl rfl (Ef.buildSlice0 underlying39 el43 fun k l u v e=>?_))))
 have f:=b.trans e
 have i:OVec l w.heap.size 43 pv1 1 (some ⟨k,0,none⟩) 0 0 []:=OVec.nil _ _ _ _ _ _
 refine Wn 1 rfl (W.ef rfl rfl rfl (Ef.vcat underlying39 el43 underlying39 pv1_row rfl i rfl (hO.le f) (by omega) (by unfold maxLen;omega) (by have:=e.size;omega) ?_))
 intro m o x s t y
 refine Wn 1 rfl (Nx (Rt (E.retG1 rfl rfl ?_)))
 exact⟨m,o,by rw[Nat.zero_add],(by simpa using(s.mono b.size)),(f.then_ t (fun q hq=>Nat.le_trans b.size (i.row hq).1))⟩

theorem take1_ok (i h:Int)(hh:0<=h/\h<=1048576){g1:Nat}(w:World)(hg1:Blk w g1 3 #[.int .i64 h]):Calls prog 157 #[.int .i64 (i),.pointer (some ⟨g1,0,none⟩)] w fun r w'=>r= .returned (.bool (decide (i<=h-100)))/\Le w w':=by
 refine enter func157 rfl rfl ?_
 have b:=Le.refl w
 refine Sr (Wn 1 rfl (Nx (Sr (Wn 1 rfl (Wr (.loadB (v:= .int .i64 (h)) na3 rfl (hg1.le b) rfl) rfl (Wa (.sub rfl rfl (by omega)) rfl (Wn 2 rfl (Nx (Rt (E.retG1 rfl rfl ?_))))))))))
 exact⟨rfl,b⟩

theorem delf_ok {base:Nat}{A:Option Addr}{n c:Nat}{xs:List Int}{F:Nat}{caps:Array Value}(pr:Int->Bool)(hgo:IsGo prog F)(w:World)(hO:OVec w base 3 iv 1 A n c xs)(hn:n<=1000000)(hf:∀(i:Int) (w1:World),Ch w w1 (rowOf A c)->Calls prog F (#[.int .i64 i]++caps) w1 fun r w2=>r= .returned (.bool (pr i))/\Le w1 w2):Calls prog 155 #[.slice A n c,.func (.func F) #[] caps] w fun r w'=>r= .returned (.slice A (xs.filter (fun i=> !pr i)).length c)/\OVec w' base 3 iv 1 A (xs.filter (fun i=> !pr i)).length c (xs.filter (fun i=> !pr i))/\Ch w w' (rowOf A c):=by
 have hl:=hO.1
 refine enter func155 rfl rfl ?_
 have l:=Ch.refl w (rowOf A c)
 refine Sr (Wn 1 rfl (Nx (Sr (Wn 2 rfl (W.cl go234 rfl rfl (indexi_ok pr hgo w hO.vec hn (fun i w1 hl=>hf i w1 (l.trans (hl.ch _)))) ?_)))))
 rintro _ I ⟨rfl,h⟩
 have m:=l.trans (h.ch _)
 refine Wn 1 rfl (Nx (Sq (Sr (Wn 2 rfl (Nx ?_)))))
 by_cases s:(idxI pr xs)=(-1)
 ·refine Cy rfl (dT s) ?_
  have hno:=filt_no (by assumption)
  refine Sr (Wn 2 rfl (Nx (Rt (E.thenR ?_))))
  have J:=(hO.le h)
  refine E.retG1 rfl rfl ?_
  exact⟨by rw[hno,hl],J.cast (by rw[hno,hl]) hno.symm,m⟩
 refine Cn rfl (dF s) ?_
 obtain⟨i0,t,Q,R,K⟩:=filt_one (by assumption)
 refine Sn (Sq (Sr (Wa (.as (.move rfl) (int_eq (b:=((i0:Nat):Int)) t)) rfl (Wa (.add rfl rfl (by omega)) rfl (Wn 1 rfl (Nx (WC.block (WC.loop (ι:=Nat×Nat×(List Int)) (fun⟨i,j,ys⟩=>[(0,.slice A n c),(1,.func (.func F) #[] caps),(5,.int .i64 (((i:Nat):Int))),(6,.int .i64 (((j:Nat):Int)))]) (fun⟨i,j,ys⟩ f=>(i<j/\j<=n)/\(ys.length=n)/\(ys.take i=(xs.take j).filter (fun i=> !pr i))/\(∀q,j<=q->ys.getD q 0=xs.getD q 0)/\Ch w f (rowOf A c)/\I.heap.size<=f.heap.size/\OVec f base 3 iv 1 A n c ys) (fun⟨i,j,ys⟩=>n-j) (i0,i0+1,xs) ?_ ?_ ?_))))))))
 ·exact .cons rfl (.cons rfl (.cons' rfl (int_eq t) (.cons rfl (.nil _))))
 ·exact⟨by omega,hl,K,fun q _=>rfl,m,Nat.le_refl _,(hO.le h)⟩
 rintro⟨i,j,ys⟩ f ⟨hij,hyl,hya,hyb,k,u,d⟩
 refine Sq (Sr (Wn 2 rfl (Wr (.len underlying23 rfl) rfl (Wn 1 rfl (Nx ?_)))))
 by_cases x:((j:Nat):Int)<((n:Nat):Int)
 ·refine Cy rfl (dT x) (Sn (Sq (WC.block (Sr (Wn 2 rfl (Wa (.idxS (j) underlying23 sz3 rfl rfl (hO.vec.isSome iv_row (by omega)) (rfl) (by omega)) rfl (Wr (.vone (v:= .int .i64 ((ys.getD j 0))) na3 rfl d.vec iv_row (getS ys 0 (by omega)) rfl) rfl (Wn 1 rfl (Nx (Sr (Wn 2 rfl (W.ef rfl rfl rfl (Ef.callC hgo rfl rfl rfl (hf _ _ k) ?_)))))))))))))
  rintro _ S ⟨rfl,e⟩
  refine⟨_,rfl,?_⟩
  have y:=k.trans (e.ch _)
  refine Wn 1 rfl (Nx ?_)
  by_cases z:(pr (ys.getD j 0))=true
  ·refine Cn rfl (congrArg not (z)) (WC.skip (E.blkN (E.thenN (WC.region (Wn 1 rfl (Wa (.add rfl rfl (by omega)) rfl (Wn 1 rfl (W.nil (E.again (i,j+1,ys) (.of rfl) ?_ ?_)))))))))
   ·exact⟨by omega,hyl,by rw[hya,filt_F xs j (by omega) (by rw[<-hyb j (Nat.le_refl _)];have hq:pr (ys.getD j 0)=true:=(by assumption);rw[hq];rfl)],fun q hq=>hyb q (by omega),y,by have:=u;have:=e.size;omega,(d.le e)⟩
   first|omega|(simp only[];omega)
  refine Cy rfl (congrArg not ((Bool.eq_false_iff.2 z))) (Sr (Wn 3 rfl (Wa (.idxS (i) underlying23 sz3 rfl rfl (hO.vec.isSome iv_row (by omega)) (rfl) (by omega)) rfl (W.ef0 rfl rfl (Ef.vset (j:=i) (o:=0) (ys.getD j 0) sz3 rfl (by omega) rfl (d.le e) iv_row (getS ys 0 (by omega)) (by decide) rfl rfl fun T L C=>(Nx (WC.region (Wn 1 rfl ?_))))))))
  refine Wa (.add rfl rfl (by omega)) rfl (Wn 1 rfl (W.nil (E.blkN (E.thenN (WC.region (Wn 1 rfl (Wa (.add rfl rfl (by omega)) rfl (Wn 1 rfl (W.nil (E.again (i+1,j+1,(ys.set i (ys.getD j 0))) (.of rfl) ?_ ?_))))))))))
  ·exact⟨by omega,by rw[List.length_set];exact hyl,by rw[take_set (by omega),hya,hyb j (Nat.le_refl _),<-filt_T xs j (by omega) (by rw[<-hyb j (Nat.le_refl _)];have hq:¬pr (ys.getD j 0)=true:=(by assumption);simp[-List.getD_eq_getElem?_getD,hq])],fun q hq=>by rw[List.getD_eq_getElem?_getD,List.getElem?_set_ne (by omega),<-List.getD_eq_getElem?_getD];exact hyb q (by omega),(y.trans C),by have:=u;have:=e.size;have:=C.size;omega,L⟩
  first|omega|(simp only[];omega)
 refine Cn rfl (dF x) (WC.exit (E.thenX (E.thenX (E.blkH (E.thenN (Sr (Wn 2 rfl ?_)))))))
 have U:=d.cap
 have N:=d.vec.cutL c i (by omega) (by omega) iv_row
 have V:=N.1
 refine Wa (.cutL (i) underlying23 sz3 rfl rfl (rfl) (by omega) (by omega)) rfl (W.ef0 rfl rfl (Ef.vclear (j:=i) 0 underlying23 el3 rfl rfl rfl d iv_row (by omega) fun X D O=>?_))
 have P:=k.trans O
 refine Nx (Sr (Wn 2 rfl ?_))
 have Y:=D.cap
 have H:=D.front i (by omega) iv_row
 have Z:=H.1
 refine Wa (.cutH (i) underlying23 sz3 rfl rfl (rfl) (by omega)) rfl (Wn 1 rfl (Nx (Rt (E.retG1 rfl rfl ?_))))
 have hfin:(ys.take i++List.replicate (n-i) 0).take i=(xs.filter (fun i=> !pr i)):=by rw[List.take_append_of_le_length (by simp;omega),List.take_take,Nat.min_self,hya,List.take_of_length_le (by omega)]
 have hlen:i=(xs.filter (fun i=> !pr i)).length:=by rw[<-hfin];simp;omega
 exact⟨by rw[<-hlen],H.cast hlen hfin,P⟩
end Go.Proofs.YtocheaahlpiajaaGreatDoor

