/- RouteSigned: for every input the law answers true and leaves its arguments as they were. -/
import Derived.Test.YtocheaahlpiajaaGreatDoorRouteSignedQ
import Derived.Laws.Cover3
set_option linter.unusedVariables false
set_option linter.unusedSimpArgs false
namespace Go.Sx
theorem Any.notNil {P:Program}{env:Env}{n:Nat}{d:Option Nat}{T:TypeId}{p:String}{af:Array Edge}{gd:Option (Nat×Bool)}{t e ty:TypeId}{x:Operand}{A:Option Addr}{l c:Nat}(ht:P.underlying t=some (.slice e))(hx:ev env x=some (.slice A l c)):
    Any P env n ⟨d,.binOp .neq t x (.const (.slice none 0 0)) ty,T,p,af,gd⟩ (.bool !A.isNone):=
  .bin hx rfl (fun _=>rfl) fun w=>run_neq_slice_nil w t e A l c ht
end Go.Sx
namespace Go.Proofs.YtocheaahlpiajaaGreatDoor
open Tryz
open Go Go.Sx Go.Num Go.Gsp Go.Nsp Go.Msp Go.Rtp
set_option maxRecDepth 20000
set_option maxHeartbeats 4000000
def BestC (w:World)(bs gb:Nat)(b:Fnd)(Aw:Option Addr)(cw:Nat)(An:Option Addr)(cn:Nat)(Ad:Option Addr)(cd:Nat):Prop:=
  Blk w gb 190 #[.slice Aw b.way.length cw,.slice An (digs b.odds.n).length cn,.slice Ad (digs b.odds.d).length cd,.int .i64 b.sent]/\OVec w bs 81 edgeV 9 Aw b.way.length cw b.way/\OVec w bs 273 dv 1 An (digs b.odds.n).length cn (digs b.odds.n)/\OVec w bs 273 dv 1 Ad (digs b.odds.d).length cd (digs b.odds.d)/\(b.way=[]->Aw=none)/\b.way.length<=8/\(digs b.odds.n).length<=100/\(digs b.odds.d).length<=100
def BestAt (w:World)(bs gb:Nat)(b:Fnd):Prop:=∃Aw cw An cn Ad cd,BestC w bs gb b Aw cw An cn Ad cd
structure LookE (w:World)(base gp:Nat)(F:Nat->Prop)(m:MF)(Ag:Option Addr)(ng cg:Nat)(g:List Gsp.Edge)(fr to a x:Int)(b2 b3 b4 gb b6 b7 b8 b9:Nat):Prop where
  h2:Blk w b2 55 #[.pointer (some ⟨gp,0,none⟩)]
  h3:Blk w b3 3 #[.int .i64 a]
  h4:Blk w b4 3 #[.int .i64 x]
  h6:Blk w b6 3 #[.int .i64 fr]
  h7:Blk w b7 32 #[.slice Ag ng cg]
  h8:Blk w b8 3 #[.int .i64 to]
  h9:Blk w b9 191 #[.func (.func 115) #[] #[.pointer (some ⟨b2,0,none⟩),.pointer (some ⟨b3,0,none⟩),.pointer (some ⟨b4,0,none⟩),.pointer (some ⟨gb,0,none⟩),.pointer (some ⟨b6,0,none⟩),.pointer (some ⟨b7,0,none⟩),.pointer (some ⟨b8,0,none⟩),.pointer (some ⟨b9,0,none⟩)]]
  hP:MPool w base gp F m
  hg:Vec w edgeV 9 Ag ng g
  n2:b2≠gb
  n3:b3≠gb
  n4:b4≠gb
  n6:b6≠gb
  n7:b7≠gb
  n8:b8≠gb
  n9:b9≠gb
  hPg:∀k,F k->¬k=gb
  hgg:∀q,blkOf Ag=some q->0<ng->q<w.heap.size->¬q=gb
  hng:ng<=1000000
theorem LookE.chP {w w':World}{base gp:Nat}{F:Nat->Prop}{m:MF}{Ag:Option Addr}{ng cg:Nat}{g:List Gsp.Edge}{fr to a x:Int}{b2 b3 b4 gb b6 b7 b8 b9:Nat}(h:LookE w base gp F m Ag ng cg g fr to a x b2 b3 b4 gb b6 b7 b8 b9)(hc:ChP w w' (fun k=>k=gb)):LookE w' base gp F m Ag ng cg g fr to a x b2 b3 b4 gb b6 b7 b8 b9:=
  ⟨h.h2.chP hc h.n2,h.h3.chP hc h.n3,h.h4.chP hc h.n4,h.h6.chP hc h.n6,h.h7.chP hc h.n7,h.h8.chP hc h.n8,h.h9.chP hc h.n9,h.hP.chP hc h.hPg,h.hg.chP hc h.hgg,h.n2,h.n3,h.n4,h.n6,h.n7,h.n8,h.n9,h.hPg,fun q b c _=>h.hgg q b c (h.hg.blk_lt edgeV_row c b),h.hng⟩
theorem lookR_cut {g:List Gsp.Edge}{m:MF}{fr to a x:Int}{k:Nat}{way:List Gsp.Edge}{at_:Int}{b:Fnd}(h:cutR way (oddsR m way a x) b):lookR g m fr to a x (k+1) way at_ b=b:=by rw[lookR,if_pos h]
theorem lookR_new {g:List Gsp.Edge}{m:MF}{fr to a x:Int}{k:Nat}{way:List Gsp.Edge}{at_:Int}{b:Fnd}(h:¬cutR way (oddsR m way a x) b)(h1:at_=fr)(h2:b.way=[]\/betterR (fndR way (oddsR m way a x)) b=true):lookR g m fr to a x (k+1) way at_ b=fndR way (oddsR m way a x):=by rw[lookR,if_neg h,if_pos h1,if_pos h2]
theorem lookR_old {g:List Gsp.Edge}{m:MF}{fr to a x:Int}{k:Nat}{way:List Gsp.Edge}{at_:Int}{b:Fnd}(h:¬cutR way (oddsR m way a x) b)(h1:at_=fr)(h2:¬(b.way=[]\/betterR (fndR way (oddsR m way a x)) b=true)):lookR g m fr to a x (k+1) way at_ b=b:=by rw[lookR,if_neg h,if_pos h1,if_neg h2]
theorem lookR_end {g:List Gsp.Edge}{m:MF}{fr to a x:Int}{k:Nat}{way:List Gsp.Edge}{at_:Int}{b:Fnd}(h:¬cutR way (oddsR m way a x) b)(h1:at_≠fr)(h2:way.length=8):lookR g m fr to a x (k+1) way at_ b=b:=by rw[lookR,if_neg h,if_neg h1,if_pos h2]
theorem lookR_go {g:List Gsp.Edge}{m:MF}{fr to a x:Int}{k:Nat}{way:List Gsp.Edge}{at_:Int}{b:Fnd}(h:¬cutR way (oddsR m way a x) b)(h1:at_≠fr)(h2:way.length≠8):lookR g m fr to a x (k+1) way at_ b=(inG g at_).foldl (stepR (lookR g m fr to a x k) way to) b:=by rw[lookR,if_neg h,if_neg h1,if_neg h2]
theorem not_cut1 {way:List Gsp.Edge}{r:Fr×Int×Int}{b:Fnd}{n:Nat}(h:¬0<((n:Nat):Int))(hl:way.length=n):¬cutR way r b:=fun hc=>hc.1 (List.eq_nil_of_length_eq_zero (by omega))
theorem not_cut2 {way:List Gsp.Edge}{r:Fr×Int×Int}{b:Fnd}(h1:¬r.2.2≠0)(h2:¬(((digs r.1.n).length:Nat):Int)=0)(h3:b.way=[]\/¬cmpF (takF r.1) (takF b.odds)<0):¬cutR way r b:=by
  rintro⟨_,h|h|h⟩
  · exact h1 h
  · rw[h,digs_zero]at h2;exact h2 rfl
  · rcases h3 with k|k
    · exact h.1 k
    · exact k h.2
theorem cut_of {way:List Gsp.Edge}{r:Fr×Int×Int}{b:Fnd}{n:Nat}(h:0<((n:Nat):Int))(hl:way.length=n)(hc:r.2.2≠0\/(((digs r.1.n).length:Nat):Int)=0\/(b.way≠[]/\cmpF (takF r.1) (takF b.odds)<0)):cutR way r b:=by
  refine⟨fun hh=>by rw[hh]at hl;simp at hl;omega,?_⟩
  rcases hc with k|k|k
  · exact .inl k
  · exact .inr (.inl (Nat.eq_zero_of_not_pos fun hp=>by have:=digs_len_pos hp;omega))
  · exact .inr (.inr k)
theorem fold_next {α:Type}{f:Fnd->α->Fnd}{b:Fnd}{l:List α}{z:α}{k:Nat}(hk:k<l.length):(l.take (k+1)).foldl f b=f ((l.take k).foldl f b) (l.getD k z):=by
  rw[List.take_add_one,List.foldl_append]
  simp[List.getD,hk]
theorem seen_ok (y:Gsp.Edge){ge:Nat}{e:Gsp.Edge}(w:World)(hge:Blk w ge 81 (edgeV e).toArray):Calls prog 120 #[.agg (edgeV y).toArray,.pointer (some ⟨ge,0,none⟩)] w fun r w'=>r= .returned (.bool (decide (y.f=e.f)))/\Le w w':=by
 refine enter func120 rfl rfl (Sr (W.ef rfl rfl rfl (Ef.boxA rfl fun c d j (h:Blk d c 81 (edgeV y).toArray) i=>?_)))
 have b:=(Le.refl w).trans i
 refine Wn 1 rfl (Nx (Sr (Wa (.field0 fa81_0 rfl) rfl (Wr (.loadB (v:= .int .i64 (y.f)) na3 rfl h rfl) rfl (Wa (.field0 fa81_0 rfl) rfl (Wr (.loadB (v:= .int .i64 (e.f)) na3 rfl (hge.le b) rfl) rfl (Wn 2 rfl (Nx (Rt ?_)))))))))
 refine E.retG1 rfl rfl ?_
 exact⟨rB (by simp[]),b⟩

theorem rtcontains_ok {A:Option Addr}{n c:Nat}{xs:List Gsp.Edge}{F:Nat}{caps:Array Value}(pr:Gsp.Edge->Bool)(hgo:IsGo prog F)(w:World)(hV:Vec w edgeV 9 A n xs)(hn:n<=1000000)(hf:∀(e:Gsp.Edge) (w1:World),Le w w1->Calls prog F (#[.agg (edgeV e).toArray]++caps) w1 fun r w2=>r= .returned (.bool (pr e))/\Le w1 w2):Calls prog 119 #[.slice A n c,.func (.func F) #[] caps] w fun r w'=>r= .returned (.bool (xs.any pr))/\Le w w':=by
 refine enter func119 rfl rfl ?_
 have b:=Le.refl w
 refine Sr (Wn 1 rfl (Nx (Sr (Wn 2 rfl (W.cl go221 rfl rfl (index_ok pr hgo w (hV.le b) (by omega) (fun e w1 hl=>hf e w1 (b.trans hl))) ?_)))))
 rintro _ f ⟨rfl,d⟩
 refine Wn 2 rfl (Nx (Rt (E.retG1 rfl rfl ?_)))
 exact⟨rB (by unfold idxE;cases hx:xs.any pr<;>simp),(b.trans d)⟩

theorem look_step {bs base gp ng cg b2 b3 b4 gb b6 b7 b8 b9:Nat}{F:Nat->Prop}{m:MF}{Ag:Option Addr}{g:List Gsp.Edge}{fr to a x:Int}{k:Nat}{A:Option Addr}{n c:Nat}{way:List Gsp.Edge}(at_:Int){b:Fnd}{Aw An Ad:Option Addr}{cw cn cd:Nat}(w:World)(hE:LookE w base gp F m Ag ng cg g fr to a x b2 b3 b4 gb b6 b7 b8 b9)(ih:∀(way':List Gsp.Edge) {A':Option Addr} {n' c':Nat} (hk1:1<=k) (at':Int) (b':Fnd) (w1:World),ChP w w1 (fun k=>k=gb)->OVec w1 bs 81 edgeV 9 A' n' c' way'->n'+k=9->1<=n'->rowOf A' c'≠some gb->BestAt w1 bs gb b'->Calls prog 115 #[.slice A' n' c',.int .i64 at',.pointer (some ⟨b2,0,none⟩),.pointer (some ⟨b3,0,none⟩),.pointer (some ⟨b4,0,none⟩),.pointer (some ⟨gb,0,none⟩),.pointer (some ⟨b6,0,none⟩),.pointer (some ⟨b7,0,none⟩),.pointer (some ⟨b8,0,none⟩),.pointer (some ⟨b9,0,none⟩)] w1 fun r w2=>r= .returned (.tuple #[])/\BestAt w2 bs gb (lookR g m fr to a x k way' at' b')/\ChP w1 w2 (fun k=>k=gb))(hbs0:bs<=w.heap.size)(hW:OVec w bs 81 edgeV 9 A n c way)(hWg:rowOf A c≠some gb)(hnk:n+k=8)(hB:BestC w bs gb b Aw cw An cn Ad cd)(hWn:n=0->A=none)(hfr:n=0->at_≠fr):Calls prog 115 #[.slice A n c,.int .i64 (at_),.pointer (some ⟨b2,0,none⟩),.pointer (some ⟨b3,0,none⟩),.pointer (some ⟨b4,0,none⟩),.pointer (some ⟨gb,0,none⟩),.pointer (some ⟨b6,0,none⟩),.pointer (some ⟨b7,0,none⟩),.pointer (some ⟨b8,0,none⟩),.pointer (some ⟨b9,0,none⟩)] w fun r w'=>r= .returned (.tuple #[])/\BestAt w' bs gb (lookR g m fr to a x (k+1) way at_ b)/\ChP w w' (fun k=>k=gb):=by
 obtain⟨ah,hBw,hBn,hBd,hBe,hBl,hBm,hBo⟩:=hB
 have hgm:=hE.hP.good
 have hol:=oddsR_len hgm way a x
 have hwl:=hW.vec.1
 have hng:=hE.hng
 have hbn:Aw.isNone=true->b.way=[]:=fun h=>Decidable.byContradiction fun hh=>by have:=hBw.vec.isSome edgeV_row (List.length_pos_iff.2 hh);revert h this;cases Aw<;>simp
 have hbs:¬Aw.isNone=true->b.way≠[]:=fun h hh=>h (by rw[hBe hh];rfl)
 have hgl:=hE.hg.1
 have hfl:=List.length_filter_le (fun e=>decide (e.t=at_)) g
 refine enter func115 rfl rfl ?_
 have L0:=ChP.refl w ((fun k=>k=gb))
 refine Sr (Wr (.loadB (v:= .pointer (some ⟨gp,0,none⟩)) na55 rfl (hE.h2.chP L0 hE.n2) rfl) rfl (Wn 1 rfl (Wr (.loadB (v:= .int .i64 (a)) na3 rfl (hE.h3.chP L0 hE.n3) rfl) rfl (Wr (.loadB (v:= .int .i64 (x)) na3 rfl (hE.h4.chP L0 hE.n4) rfl) rfl (W.cl go116 rfl rfl (rodds_ok a x w (hE.hP.chP L0 hE.hPg) hW.vec (by omega)) ?_)))))
 rintro _ fI ⟨al,am,aq,ar,rfl,an,ao,o⟩
 have L1:=L0.le o
 refine Wn 1 rfl (Wa (.extract (v:= .agg #[.slice al ((digs ((oddsR m way a x).1.n)).length) am,.slice aq ((digs ((oddsR m way a x).1.d)).length) ar]) rfl rfl) rfl (Wn 2 rfl (W.ef rfl rfl rfl (Ef.allocA z61 fun bV c7 c8 (c9:Blk c7 bV 61 #[.slice none 0 0,.slice none 0 0]) C=>?_))))
 have L2:=L1.le C
 refine W.sA sz61 rfl rfl c9 ?_
 intro aE aQ D
 have aQ:Blk aE bV 61 #[.slice al ((digs ((oddsR m way a x).1.n)).length) am,.slice aq ((digs ((oddsR m way a x).1.d)).length) ar]:=aQ
 have L3:ChP w aE ((fun k=>k=gb)):=L2.ch D (fun i hi hlt=>by cases hi;exact absurd hlt (by have:=L1.size;have:=c8;omega))
 refine Wn 2 rfl (Nx (Sq (Sr (Wn 1 rfl (Wr (.len underlying32 rfl) rfl (Wn 1 rfl ?_))))))
 by_cases H:0<((n:Nat):Int)
 ·refine Dt H rfl rfl (Wn 2 rfl ?_)
  by_cases s:((oddsR m way a x).2.2)≠0
  ·refine Wg (Any.rd (.dec (.move rfl) (dT s)) _) rfl (Wn 4 rfl (Wg (Any.rd (.pickT rfl rfl rfl) _) rfl (Wn 5 rfl (W.skipu rfl rfl rfl rfl rfl (W.skipu rfl rfl rfl rfl rfl ?_)))))
   refine W.skipu rfl rfl rfl rfl rfl (W.skipu rfl rfl rfl rfl rfl (W.skipu rfl rfl rfl rfl rfl (Wn 1 rfl (Wg (Any.rd (.pickT rfl rfl rfl) _) rfl (Wn 1 rfl (Nx (WC.condT rfl (Rt (E.thenR ?_)))))))))
   refine E.ret0 rfl ?_
   have hlk:lookR g m fr to a x (k+1) way at_ b=b:=(by first|exact lookR_cut (cut_of H hwl (.inl s))|exact lookR_cut (cut_of H hwl (.inr (.inl u)))|exact lookR_cut (cut_of H hwl (.inr (.inr ⟨hbs I,L⟩)))|exact lookR_old (by first|exact not_cut1 H hwl|exact not_cut2 s u (.inl (hbn I))|exact not_cut2 s u (.inr L)) K (fun hh=>hh.elim (hbs I) c2)|exact lookR_old (by first|exact not_cut1 H hwl|exact not_cut2 s u (.inl (hbn I))|exact not_cut2 s u (.inr L)) K (fun hh=>hh.elim (hbs aj) c2)|exact lookR_end (by first|exact not_cut1 H hwl|exact not_cut2 s u (.inl (hbn I))|exact not_cut2 s u (.inr L)) K (by rw[hwl];omega))
   rw[hlk]
   exact⟨rfl,⟨_,_,_,_,_,_,((ah.le (o.trans C)).cn D (by have:=ah.lt;have:=o.size;omega)),((hBw.le (o.trans C)).cb D (hBw.rn (by have:=o.size;omega))),((hBn.le (o.trans C)).cb D (hBn.rn (by have:=o.size;omega))),((hBd.le (o.trans C)).cb D (hBd.rn (by have:=o.size;omega))),hBe,hBl,hBm,hBo⟩,L3⟩
  refine Wg (Any.rd (.dec (.move rfl) (dF s)) _) rfl (Wg (Any.rd (.field0 fa61_0 rfl) _) rfl (Wg (.loadB (v:= .slice al ((digs ((oddsR m way a x).1.n)).length) am) na59 rfl aQ rfl) rfl (Wg (.len underlying59 rfl) rfl (Wn 1 rfl (Wg (Any.rd (.pickF rfl rfl rfl) _) rfl ?_)))))
  by_cases u:(((digs ((oddsR m way a x).1.n)).length:Nat):Int)=0
  ·refine Wg (Any.rd (.dec (.move rfl) (dT u)) _) rfl (Wn 4 rfl (W.skipu rfl rfl rfl rfl rfl (W.skipu rfl rfl rfl rfl rfl (W.skipu rfl rfl rfl rfl rfl (W.skipu rfl rfl rfl rfl rfl ?_)))))
   refine W.skipu rfl rfl rfl rfl rfl (Wn 1 rfl (Wg (Any.rd (.pickT rfl rfl rfl) _) rfl (Wn 1 rfl (Nx (WC.condT rfl (Rt (E.thenR (E.ret0 rfl ?_))))))))
   have hlk:lookR g m fr to a x (k+1) way at_ b=b:=(by first|exact lookR_cut (cut_of H hwl (.inl s))|exact lookR_cut (cut_of H hwl (.inr (.inl u)))|exact lookR_cut (cut_of H hwl (.inr (.inr ⟨hbs I,L⟩)))|exact lookR_old (by first|exact not_cut1 H hwl|exact not_cut2 s u (.inl (hbn I))|exact not_cut2 s u (.inr L)) K (fun hh=>hh.elim (hbs I) c2)|exact lookR_old (by first|exact not_cut1 H hwl|exact not_cut2 s u (.inl (hbn I))|exact not_cut2 s u (.inr L)) K (fun hh=>hh.elim (hbs aj) c2)|exact lookR_end (by first|exact not_cut1 H hwl|exact not_cut2 s u (.inl (hbn I))|exact not_cut2 s u (.inr L)) K (by rw[hwl];omega))
   rw[hlk]
   exact⟨rfl,⟨_,_,_,_,_,_,((ah.le (o.trans C)).cn D (by have:=ah.lt;have:=o.size;omega)),((hBw.le (o.trans C)).cb D (hBw.rn (by have:=o.size;omega))),((hBn.le (o.trans C)).cb D (hBn.rn (by have:=o.size;omega))),((hBd.le (o.trans C)).cb D (hBd.rn (by have:=o.size;omega))),hBe,hBl,hBm,hBo⟩,L3⟩
  refine Wg (Any.rd (.dec (.move rfl) (dF u)) _) rfl (Wg (Any.rd (.field0 fa190_0 rfl) _) rfl ?_)
  have ap:=((ah.le (o.trans C)).cn D (by have:=ah.lt;have:=o.size;omega))
  refine Wg (.loadB (v:= .slice Aw b.way.length cw) na32 rfl ap rfl) rfl (Wg (Any.rd (.notNil underlying32 rfl) _) rfl ?_)
  by_cases I:Aw.isNone=true
  ·refine Wg (Any.rd (.dec (.move rfl) (congrArg not (I))) _) rfl (Wn 5 rfl (Wg (Any.rd (.pickF rfl rfl rfl) _) rfl (Wg (Any.rd (.pickF rfl rfl rfl) _) rfl (Wn 1 rfl (Nx (WC.condF rfl (Sn (Sq (Sr (Wn 1 rfl (Wr (.loadB (v:= .int .i64 (fr)) na3 rfl (hE.h6.chP L3 hE.n6) rfl) rfl ?_)))))))))))
   refine Wn 1 rfl (Nx ?_)
   by_cases K:at_=fr
   ·refine Cy rfl (dT K) (Sq (Sr (Wn 1 rfl (Wr (.loadAll ag61 (by rfl) rfl aQ) rfl ?_))))
    refine Wn 1 rfl (Wa (.buildP [.slice A n c,.slice al ((digs ((oddsR m way a x).1.n)).length) am,.slice aq ((digs ((oddsR m way a x).1.d)).length) ar,.int .i64 ((oddsR m way a x).2.1)] pl190 z190 rfl rfl) rfl (W.ef rfl rfl rfl (Ef.allocA z190 fun bW da db (dc:Blk da bW 190 #[.slice none 0 0,.slice none 0 0,.slice none 0 0,.int .i64 (0)]) aW=>?_)))
    have dd:=L3.le aW
    refine W.sA sz190 rfl rfl dc ?_
    intro bX bi aX
    have bi:Blk bX bW 190 #[.slice A n c,.slice al ((digs ((oddsR m way a x).1.n)).length) am,.slice aq ((digs ((oddsR m way a x).1.d)).length) ar,.int .i64 ((oddsR m way a x).2.1)]:=bi
    have de:ChP w bX ((fun k=>k=gb)):=dd.ch aX (fun i hi hlt=>by cases hi;exact absurd hlt (by have:=L3.size;have:=db;omega))
    refine Nx (Sr (Wa (.field0 fa190_0 rfl) rfl ?_))
    have bY:=((ap.le aW).cn aX (by have:=ap.lt;omega))
    refine Wr (.loadB (v:= .slice Aw b.way.length cw) na32 rfl bY rfl) rfl (Wa (.isNil underlying32 rfl) rfl (Wa (.dec (.move rfl) (I)) rfl (Wn 4 rfl (Nx (WC.condT rfl (WC.region (Wr (.loadAll ag190 (by rfl) rfl bi) rfl ?_)))))))
    refine W.sA sz190 rfl rfl bY ?_
    intro bZ bj a3
    have bj:Blk bZ gb 190 #[.slice A n c,.slice al ((digs ((oddsR m way a x).1.n)).length) am,.slice aq ((digs ((oddsR m way a x).1.d)).length) ar,.int .i64 ((oddsR m way a x).2.1)]:=bj
    have dg:ChP w bZ ((fun k=>k=gb)):=de.ch a3 (fun i hi _=>by cases hi;exact rfl)
    refine Nx (Rt (E.thenR ?_))
    have dh:=(((((hW.le (o.trans C)).cb D (hW.rn (by have:=o.size;omega))).le aW).cb aX (hW.rn (by have:=o.size;have:=C.size;have:=D.size;omega))).ch a3 (fun q hq=>by cases hq;exact hWg))
    refine E.ret0 rfl ?_
    have hnc:¬cutR way (oddsR m way a x) b:=(by first|exact not_cut1 H hwl|exact not_cut2 s u (.inl (hbn I))|exact not_cut2 s u (.inr L))
    have hwn:way≠[]:=fun hh=>by first|exact absurd ((congrArg List.length hh).symm.trans hwl) (by simp;omega)|exact absurd K (hfr (by omega))
    have hlk:lookR g m fr to a x (k+1) way at_ b=(fndR way (oddsR m way a x)):=lookR_new hnc K (by first|exact .inl (hbn I)|exact .inl (hbn aj)|exact .inr c2)
    rw[hlk]
    subst hwl
    exact⟨rfl,⟨_,_,_,_,_,_,bj,dh,((((((an.le C).cb D (an.rn (by omega))).le aW).cb aX (an.rn (by have:=C.size;have:=D.size;omega))).cb a3 (an.rl (by have:=ah.lt;omega))).mono hbs0),((((((ao.le C).cb D (ao.rn (by omega))).le aW).cb aX (ao.rn (by have:=C.size;have:=D.size;omega))).cb a3 (ao.rl (by have:=ah.lt;omega))).mono hbs0),fun h=>absurd h hwn,(show way.length<=8 by omega),hol.1,hol.2⟩,dg⟩
   refine Cn rfl (dF K) (Sn (Sq (Sr (Wn 1 rfl (Wr (.len underlying32 rfl) rfl (Wn 1 rfl (Nx ?_)))))))
   by_cases c3:((n:Nat):Int)=8
   ·refine Cy rfl (dT c3) (Rt (E.thenR (E.ret0 rfl ?_)))
    have hlk:lookR g m fr to a x (k+1) way at_ b=b:=(by first|exact lookR_cut (cut_of H hwl (.inl s))|exact lookR_cut (cut_of H hwl (.inr (.inl u)))|exact lookR_cut (cut_of H hwl (.inr (.inr ⟨hbs I,L⟩)))|exact lookR_old (by first|exact not_cut1 H hwl|exact not_cut2 s u (.inl (hbn I))|exact not_cut2 s u (.inr L)) K (fun hh=>hh.elim (hbs I) c2)|exact lookR_old (by first|exact not_cut1 H hwl|exact not_cut2 s u (.inl (hbn I))|exact not_cut2 s u (.inr L)) K (fun hh=>hh.elim (hbs aj) c2)|exact lookR_end (by first|exact not_cut1 H hwl|exact not_cut2 s u (.inl (hbn I))|exact not_cut2 s u (.inr L)) K (by rw[hwl];omega))
    rw[hlk]
    exact⟨rfl,⟨_,_,_,_,_,_,ap,((hBw.le (o.trans C)).cb D (hBw.rn (by have:=o.size;omega))),((hBn.le (o.trans C)).cb D (hBn.rn (by have:=o.size;omega))),((hBd.le (o.trans C)).cb D (hBd.rn (by have:=o.size;omega))),hBe,hBl,hBm,hBo⟩,L3⟩
   refine Cn rfl (dF c3) (Sn (Sr (Wr (.loadB (v:= .slice Ag ng cg) na32 rfl (hE.h7.chP L3 hE.n7) rfl) rfl (Wn 1 rfl (W.cl go118 rfl rfl (in_ok at_ aE (hE.hg.chP L3 hE.hgg) (by omega)) ?_)))))
   rintro _ di ⟨b0,b1,rfl,b5,aR⟩
   refine Wr (.len underlying32 rfl) rfl (Wn 1 rfl (Nx (WC.block ?_)))
   refine WC.loop (ι:=Nat×Fnd×((Option Addr))×Nat×((Option Addr))×Nat×((Option Addr))×Nat) (fun⟨j,bk,Ax,cx,Ay,cy,Az,cz⟩=>[(0,.slice A n c),(8,.pointer (some ⟨b8,0,none⟩)),(9,.pointer (some ⟨b9,0,none⟩)),(73,.slice b0 ((g.filter (fun e=>decide (e.t=at_))).length) b1),(74,.int .i64 ((((g.filter (fun e=>decide (e.t=at_))).length:Nat):Int))),(75,.int .i64 (((j:Nat):Int)))]) (fun⟨j,bk,Ax,cx,Ay,cy,Az,cz⟩ N=>(j<=(g.filter (fun e=>decide (e.t=at_))).length)/\(bk=((g.filter (fun e=>decide (e.t=at_))).take j).foldl (stepR (lookR g m fr to a x k) way to) b)/\(bk.way=[]->Ax=none)/\(bk.way.length<=8/\(digs bk.odds.n).length<=100/\(digs bk.odds.d).length<=100)/\ChP w N ((fun k=>k=gb))/\di.heap.size<=N.heap.size/\OVec N bs 81 edgeV 9 A n c way/\OVec N aE.heap.size 81 edgeV 9 b0 ((g.filter (fun e=>decide (e.t=at_))).length) b1 (g.filter (fun e=>decide (e.t=at_)))/\OVec N bs 81 edgeV 9 Ax bk.way.length cx bk.way/\OVec N bs 273 dv 1 Ay ((digs bk.odds.n).length) cy (digs bk.odds.n)/\OVec N bs 273 dv 1 Az ((digs bk.odds.d).length) cz (digs bk.odds.d)/\Blk N gb 190 #[.slice Ax bk.way.length cx,.slice Ay ((digs bk.odds.n).length) cy,.slice Az ((digs bk.odds.d).length) cz,.int .i64 (bk.sent)]) (fun⟨j,bk,Ax,cx,Ay,cy,Az,cz⟩=>(g.filter (fun e=>decide (e.t=at_))).length-j) (0,b,Aw,cw,An,cn,Ad,cd) ?_ ?_ ?_
   ·exact .of rfl
   ·exact⟨Nat.zero_le _,rfl,hBe,⟨hBl,hBm,hBo⟩,(L3.le aR),Nat.le_refl _,(((hW.le (o.trans C)).cb D (hW.rn (by have:=o.size;omega))).le aR),b5,(((hBw.le (o.trans C)).cb D (hBw.rn (by have:=o.size;omega))).le aR),(((hBn.le (o.trans C)).cb D (hBn.rn (by have:=o.size;omega))).le aR),(((hBd.le (o.trans C)).cb D (hBd.rn (by have:=o.size;omega))).le aR),(ap.le aR)⟩
   rintro⟨j,bk,Ax,cx,Ay,cy,Az,cz⟩ N ⟨hj,hbk,hbe,hbl,au,av,ak,P,aa,ab,ac,Q⟩
   have fJ:aE.heap.size<=N.heap.size:=by have:=aR.size;omega
   refine Sr (Wn 1 rfl (Nx (Sq ?_)))
   by_cases c4:((j:Nat):Int)<(((g.filter (fun e=>decide (e.t=at_))).length:Nat):Int)
   ·refine Cy rfl (dT c4) (Sn (Sq (WC.block (Sr (Wa (.idxS (j) underlying32 sz81 rfl rfl (b5.vec.isSome edgeV_row (by omega)) (rfl) (by omega)) rfl (Wr (.vload ag81 rfl P.vec edgeV_row (getS (g.filter (fun e=>decide (e.t=at_))) noEdge (by first|omega|(simp only[List.length_cons,List.length_nil];omega)))) rfl ?_))))))
    refine W.ef rfl rfl rfl (Ef.allocA z81 fun bl dj dk (dl:Blk dj bl 81 (edgeV noEdge).toArray) T=>?_)
    have dm:=au.le T
    refine W.ef0 rfl rfl (Ef.storeAll sz81 (by rfl) rfl rfl dl (by simp only[List.size_toArray,edgeV_row.len]) (edgeV_row.one ((g.filter (fun e=>decide (e.t=at_))).getD j noEdge)) ?_)
    intro bm aY U
    have aY:Blk bm bl 81 (edgeV ((g.filter (fun e=>decide (e.t=at_))).getD j noEdge)).toArray:=aY
    have bn:ChP w bm ((fun k=>k=gb)):=dm.ch U (fun i hi hlt=>by cases hi;exact absurd hlt (by have:=au.size;have:=dk;omega))
    refine Nx (Sq (Sr (Wa (.field0 fa81_0 rfl) rfl (Wr (.loadB (v:= .int .i64 (((g.filter (fun e=>decide (e.t=at_))).getD j noEdge).f)) na3 rfl aY rfl) rfl (Wr (.loadB (v:= .int .i64 (to)) na3 rfl (hE.h8.chP bn hE.n8) rfl) rfl (Wn 1 rfl ?_))))))
    by_cases ai:(((g.filter (fun e=>decide (e.t=at_))).getD j noEdge).f)=to
    ·refine Dt ai rfl rfl (Wn 4 rfl (Nx (WC.condT rfl (WC.exit (E.thenX (E.blkH (E.thenN (WC.region (Wa (.add rfl rfl (by omega)) rfl (Wn 1 rfl (W.nil ?_)))))))))))
     have dn:=((ak.le T).cb U (ak.rn (by omega)))
     have dp:=((P.le T).cb U (P.rn (by omega)))
     have dq:=((aa.le T).cb U (aa.rn (by omega)))
     have dr:=((ab.le T).cb U (ab.rn (by omega)))
     have ds:=((ac.le T).cb U (ac.rn (by omega)))
     have du:=((Q.le T).cn U (by have:=Q.lt;omega))
     refine E.again (j+1,bk,Ax,cx,Ay,cy,Az,cz) (.of rfl) ?_ ?_
     ·exact⟨by omega,(by rw[fold_next (z:=noEdge) (l:=(g.filter (fun e=>decide (e.t=at_)))) (by omega),<-hbk];exact(if_pos (by first|(unfold skipR;rw[dT ai];exact Bool.true_or _)|(unfold skipR;rw[c5];exact Bool.or_true _))).symm),hbe,hbl,bn,by have:=av;have:=T.size;have:=U.size;omega,dn,dp,dq,dr,ds,du⟩
     first|omega|(simp only[];omega)
    refine Df ai rfl rfl (Wn 1 rfl (Wg (Any.rd (.makeFunc rfl) _) rfl ?_))
    have a4:=((ak.le T).cb U (ak.rn (by omega)))
    refine W.efg rfl rfl rfl (rfl) rfl rfl (Ef.call go119 rfl rfl (rtcontains_ok (fun y=>decide (y.f=((g.filter (fun e=>decide (e.t=at_))).getD j noEdge).f)) go120 bm a4.vec (by omega) (fun y w1 hl=>seen_ok y w1 (aY.le hl))) ?_)
    rintro _ fK ⟨rfl,ad⟩
    refine⟨_,rfl,?_⟩
    have ca:=bn.le ad
    refine Wn 1 rfl (Nx ?_)
    by_cases c5:(way.any (fun y=>decide (y.f=((g.filter (fun e=>decide (e.t=at_))).getD j noEdge).f)))=true
    ·refine Cy rfl (c5) (WC.exit (E.thenX (E.blkH (E.thenN (WC.region (Wa (.add rfl rfl (by omega)) rfl (Wn 1 rfl (W.nil ?_))))))))
     have dw:=(((P.le T).cb U (P.rn (by omega))).le ad)
     have dx:=(((aa.le T).cb U (aa.rn (by omega))).le ad)
     have dy:=(((ab.le T).cb U (ab.rn (by omega))).le ad)
     have dz:=(((ac.le T).cb U (ac.rn (by omega))).le ad)
     have dA:=(((Q.le T).cn U (by have:=Q.lt;omega)).le ad)
     refine E.again (j+1,bk,Ax,cx,Ay,cy,Az,cz) (.of rfl) ?_ ?_
     ·exact⟨by omega,(by rw[fold_next (z:=noEdge) (l:=(g.filter (fun e=>decide (e.t=at_)))) (by omega),<-hbk];exact(if_pos (by first|(unfold skipR;rw[dT ai];exact Bool.true_or _)|(unfold skipR;rw[c5];exact Bool.or_true _))).symm),hbe,hbl,ca,by have:=av;have:=T.size;have:=U.size;have:=ad.size;omega,(a4.le ad),dw,dx,dy,dz,dA⟩
     first|omega|(simp only[];omega)
    refine Cn rfl ((Bool.eq_false_iff.2 c5)) (Sn (WC.drawR (fun aL w'=>ChP w w' ((fun k=>k=gb))/\Blk w' bl 81 (edgeV ((g.filter (fun e=>decide (e.t=at_))).getD j noEdge)).toArray) [0,1,3,5,6,2,4,7] mixed (by kernel_rfl) fun aL J=>?_))
    have a5:=ca.le J
    have bo:=(aY.le (ad.trans J))
    refine⟨⟨a5,bo⟩,?_⟩
    refine GR.rd rfl rfl (fun w' hs=> .loadB (v:= .func (.func 115) #[] #[.pointer (some ⟨b2,0,none⟩),.pointer (some ⟨b3,0,none⟩),.pointer (some ⟨b4,0,none⟩),.pointer (some ⟨gb,0,none⟩),.pointer (some ⟨b6,0,none⟩),.pointer (some ⟨b7,0,none⟩),.pointer (some ⟨b8,0,none⟩),.pointer (some ⟨b9,0,none⟩)]) na191 rfl (hE.h9.chP hs.1 hE.n9) rfl) rfl rfl rfl (GR.rd rfl rfl (fun w' hs=> .loadAll ag81 (by rfl) rfl hs.2) rfl rfl rfl ?_)
    refine GR.any rfl rfl (.move rfl) rfl rfl rfl (GR.any rfl rfl (.field0 fa81_0 rfl) rfl rfl rfl (GR.rd rfl rfl (fun w' hs=> .loadB (v:= .int .i64 (((g.filter (fun e=>decide (e.t=at_))).getD j noEdge).f)) na3 rfl hs.2 rfl) rfl rfl rfl (GR.ef rfl rfl rfl rfl rfl (Ef.buildSliceV (len:=1) [_] underlying32 el81 rfl (by simp[Value.cells,edgeV_row.len]) rfl (by decide) (by decide) ?_))))
    intro cc ce dB bp ay
    have cf:=a5.le ay
    have bp:Blk ce cc 81 (([(g.filter (fun e=>decide (e.t=at_))).getD j noEdge]).map edgeV).flatten.toArray:=bp
    have aF:OVec ce aL.heap.size 81 edgeV 9 (some ⟨cc,0,none⟩) 1 1 ([(g.filter (fun e=>decide (e.t=at_))).getD j noEdge]):=bp.ovec dB edgeV_row rfl rfl (by decide)
    have ci:=(bo.le ay)
    refine⟨fun _=>⟨cf,ci⟩,?_⟩
    have cj:=(a4.le (ad.trans (J.trans ay)))
    refine GR.ef rfl rfl rfl rfl rfl (Ef.vcat underlying32 el81 underlying32 edgeV_row rfl aF rfl cj.vec (by omega) (by unfold maxLen;omega) (by have:=ay.size;omega) ?_)
    intro fL fM bq ck aG fN
    have bt:ChP w bq ((fun k=>k=gb)):=cf.ch aG (fun i hi hlt=>absurd hlt (by have:=(aF.row hi).1;have:=a5.size;omega))
    refine⟨fun _=>⟨bt,(ci.ch aG (aF.rl (by have:=bo.lt;omega)))⟩,?_⟩
    have dC:=((((Q.le T).cn U (by have:=Q.lt;omega)).le (ad.trans (J.trans ay))).ch aG (aF.rl (by have:=Q.lt;have:=T.size;have:=U.size;have:=ad.size;have:=J.size;omega)))
    have dD:=((((aa.le T).cb U (aa.rn (by omega))).le (ad.trans (J.trans ay))).ch aG ((Apart.symm (fun q R S=>by have:=(aa.row R).2;have:=(aF.row S).1;have:=T.size;have:=U.size;have:=ad.size;have:=J.size;omega))))
    have dE:=((((ab.le T).cb U (ab.rn (by omega))).le (ad.trans (J.trans ay))).ch aG ((Apart.symm (fun q R S=>by have:=(ab.row R).2;have:=(aF.row S).1;have:=T.size;have:=U.size;have:=ad.size;have:=J.size;omega))))
    have dG:=((((ac.le T).cb U (ac.rn (by omega))).le (ad.trans (J.trans ay))).ch aG ((Apart.symm (fun q R S=>by have:=(ac.row R).2;have:=(aF.row S).1;have:=T.size;have:=U.size;have:=ad.size;have:=J.size;omega))))
    have dH:BestAt bq bs gb bk:=⟨_,_,_,_,_,_,dC,dD,dE,dG,hbe,hbl.1,hbl.2.1,hbl.2.2⟩
    have dI:=ih ([(g.filter (fun e=>decide (e.t=at_))).getD j noEdge]++way) (by omega) (((g.filter (fun e=>decide (e.t=at_))).getD j noEdge).f) bk bq bt (ck.mono (Nat.le_trans hbs0 a5.size))
    have dJ:=dI (by omega) (by omega) (ck.rl (by have:=Q.lt;have:=T.size;have:=U.size;have:=ad.size;have:=J.size;omega)) dH
    refine GR.ef rfl rfl rfl rfl rfl (Ef.callC go115 rfl rfl rfl (dJ) ?_)
    rintro _ fO ⟨rfl,⟨dK,dL,dM,dN,dO,dP,dQ,dR,dS,dU,dV,dW,dX,dY⟩,a6⟩
    refine⟨_,rfl,?_⟩
    have dZ:=bt.sub a6 (fun i hi hlt=>(by subst hi;exact rfl))
    refine noT (by kernel_rfl) (GR.nil (E.blkN (E.thenN (WC.region (Wa (.add rfl rfl (by omega)) rfl (Wn 1 rfl (W.nil ?_)))))))
    have d0:=((cj.ch aG ((Apart.symm (fun q R S=>by have:=(a4.row R).2;have:=(aF.row S).1;have:=ad.size;have:=J.size;omega)))).chP a6 (fun q hqq hF=>(by subst hF;exact hWg hqq)))
    have d1:=(((((P.le T).cb U (P.rn (by omega))).le (ad.trans (J.trans ay))).ch aG ((Apart.symm (fun q R S=>by have:=(P.row R).2;have:=(aF.row S).1;have:=T.size;have:=U.size;have:=ad.size;have:=J.size;omega)))).chP a6 (fun q hqq hF=>(by subst hF;exact(P.rl (by have:=ap.lt;omega)) hqq)))
    refine E.again (j+1,(lookR g m fr to a x k ([(g.filter (fun e=>decide (e.t=at_))).getD j noEdge]++way) (((g.filter (fun e=>decide (e.t=at_))).getD j noEdge).f) bk),dK,dL,dM,dN,dO,dP) (.of rfl) ?_ ?_
    ·exact⟨by omega,(by rw[fold_next (z:=noEdge) (l:=(g.filter (fun e=>decide (e.t=at_)))) (by omega),<-hbk];exact(if_neg (by simp only[skipR,Bool.or_eq_true,decide_eq_true_eq,not_or];exact⟨ai,c5⟩)).symm),dV,⟨dW,dX,dY⟩,dZ,by have:=av;have:=T.size;have:=U.size;have:=ad.size;have:=J.size;have:=ay.size;have:=aG.size;have:=a6.size;omega,d0,d1,dR,dS,dU,dQ⟩
    first|omega|(simp only[];omega)
   refine Cn rfl (dF c4) (WC.exit (E.thenX (E.thenX (E.blkH (E.end_ (E.ret0 rfl ?_))))))
   have hnc:¬cutR way (oddsR m way a x) b:=(by first|exact not_cut1 H hwl|exact not_cut2 s u (.inl (hbn I))|exact not_cut2 s u (.inr L))
   have hje:j=(g.filter (fun e=>decide (e.t=at_))).length:=(by omega)
   have hlk:lookR g m fr to a x (k+1) way at_ b=bk:=(by rw[lookR_go hnc K (by rw[hwl];omega),hbk,hje,List.take_length];rfl)
   rw[hlk]
   exact⟨rfl,⟨_,_,_,_,_,_,Q,aa,ab,ac,hbe,hbl.1,hbl.2.1,hbl.2.2⟩,au⟩
  refine Wg (Any.rd (.dec (.move rfl) (congrArg not ((Bool.eq_false_iff.2 I)))) _) rfl (Wg (.loadAll ag61 (by rfl) rfl aQ) rfl ?_)
  refine Wg (Any.rd (.field0 fa190_1 rfl) _) rfl (Wg (.bpart [.slice An ((digs b.odds.n).length) cn,.slice Ad ((digs b.odds.d).length) cd] ag61 rfl (by decide) rfl ap rfl) rfl ?_)
  have bu:=((an.le C).cb D (an.rn (by omega)))
  have bv:=((ao.le C).cb D (ao.rn (by omega)))
  have aU:=((hBn.le (o.trans C)).cb D (hBn.rn (by have:=o.size;omega)))
  have aV:=((hBd.le (o.trans C)).cb D (hBd.rn (by have:=o.size;omega)))
  refine W.efg rfl rfl rfl (rfl) rfl rfl (Ef.call go41 rfl rfl (fcmp_ok aE bu.vec bv.vec (by omega) (by omega) aU.vec aV.vec (by omega) (by omega)) ?_)
  rintro _ bw ⟨rfl,O⟩
  refine⟨_,rfl,?_⟩
  have aM:=L3.le O
  refine Wn 1 rfl (Wg (Any.rd (.pickT rfl rfl rfl) _) rfl (Wg (Any.rd (.pickF rfl rfl rfl) _) rfl (Wn 1 rfl (Nx ?_))))
  by_cases L:(cmpF (takF (⟨((oddsR m way a x).1.n),((oddsR m way a x).1.d)⟩:Fr)) (takF (⟨b.odds.n,b.odds.d⟩:Fr)))<0
  ·refine Cy rfl (dT L) (Rt (E.thenR (E.ret0 rfl ?_)))
   have hlk:lookR g m fr to a x (k+1) way at_ b=b:=(by first|exact lookR_cut (cut_of H hwl (.inl s))|exact lookR_cut (cut_of H hwl (.inr (.inl u)))|exact lookR_cut (cut_of H hwl (.inr (.inr ⟨hbs I,L⟩)))|exact lookR_old (by first|exact not_cut1 H hwl|exact not_cut2 s u (.inl (hbn I))|exact not_cut2 s u (.inr L)) K (fun hh=>hh.elim (hbs I) c2)|exact lookR_old (by first|exact not_cut1 H hwl|exact not_cut2 s u (.inl (hbn I))|exact not_cut2 s u (.inr L)) K (fun hh=>hh.elim (hbs aj) c2)|exact lookR_end (by first|exact not_cut1 H hwl|exact not_cut2 s u (.inl (hbn I))|exact not_cut2 s u (.inr L)) K (by rw[hwl];omega))
   rw[hlk]
   exact⟨rfl,⟨_,_,_,_,_,_,(ap.le O),(((hBw.le (o.trans C)).cb D (hBw.rn (by have:=o.size;omega))).le O),(aU.le O),(aV.le O),hBe,hBl,hBm,hBo⟩,aM⟩
  refine Cn rfl (dF L) (Sn (Sq (Sr (Wn 1 rfl (Wr (.loadB (v:= .int .i64 (fr)) na3 rfl (hE.h6.chP aM hE.n6) rfl) rfl (Wn 1 rfl (Nx ?_)))))))
  by_cases K:at_=fr
  ·refine Cy rfl (dT K) (Sq (Sr (Wn 1 rfl (Wr (.loadAll ag61 (by rfl) rfl (aQ.le O)) rfl ?_))))
   refine Wn 1 rfl (Wa (.buildP [.slice A n c,.slice al ((digs ((oddsR m way a x).1.n)).length) am,.slice aq ((digs ((oddsR m way a x).1.d)).length) ar,.int .i64 ((oddsR m way a x).2.1)] pl190 z190 rfl rfl) rfl (W.ef rfl rfl rfl (Ef.allocA z190 fun cm d2 d3 (d4:Blk d2 cm 190 #[.slice none 0 0,.slice none 0 0,.slice none 0 0,.int .i64 (0)]) aO=>?_)))
   have d5:=aM.le aO
   refine W.sA sz190 rfl rfl d4 ?_
   intro bx a7 aP
   have a7:Blk bx cm 190 #[.slice A n c,.slice al ((digs ((oddsR m way a x).1.n)).length) am,.slice aq ((digs ((oddsR m way a x).1.d)).length) ar,.int .i64 ((oddsR m way a x).2.1)]:=a7
   have d6:ChP w bx ((fun k=>k=gb)):=d5.ch aP (fun i hi hlt=>by cases hi;exact absurd hlt (by have:=aM.size;have:=d3;omega))
   refine Nx (Sr (Wa (.field0 fa190_0 rfl) rfl ?_))
   have a8:=((ap.le (O.trans aO)).cn aP (by have:=ap.lt;have:=O.size;omega))
   refine Wr (.loadB (v:= .slice Aw b.way.length cw) na32 rfl a8 rfl) rfl (Wa (.isNil underlying32 rfl) rfl (Wa (.dec (.move rfl) ((Bool.eq_false_iff.2 I))) rfl (Wg (.loadAll ag190 (by rfl) rfl a7) rfl ?_)))
   refine Wg (.loadAll ag190 (by rfl) rfl a8) rfl ?_
   have co:=((((hW.le (o.trans C)).cb D (hW.rn (by have:=o.size;omega))).le (O.trans aO)).cb aP (hW.rn (by have:=o.size;have:=C.size;have:=D.size;have:=O.size;omega)))
   have bz:=((bu.le (O.trans aO)).cb aP (bu.rn (by have:=O.size;omega)))
   have bA:=((bv.le (O.trans aO)).cb aP (bv.rn (by have:=O.size;omega)))
   have cp:=((((hBw.le (o.trans C)).cb D (hBw.rn (by have:=o.size;omega))).le (O.trans aO)).cb aP (hBw.rn (by have:=o.size;have:=C.size;have:=D.size;have:=O.size;omega)))
   have cq:=((aU.le (O.trans aO)).cb aP (aU.rn (by have:=O.size;omega)))
   have cr:=((aV.le (O.trans aO)).cb aP (aV.rn (by have:=O.size;omega)))
   refine W.efg rfl rfl rfl (rfl) rfl rfl (Ef.call go117 rfl rfl (better_ok bx co.vec bz.vec bA.vec (by omega) (by omega) (by omega) cp.vec cq.vec cr.vec (by omega) (by omega) (by omega)) ?_)
   rintro _ fP ⟨rfl,az⟩
   refine⟨_,rfl,?_⟩
   have cs:=d6.le az
   refine Wn 1 rfl (Nx ?_)
   by_cases c2:(betterR (⟨way,⟨((oddsR m way a x).1.n),((oddsR m way a x).1.d)⟩,(oddsR m way a x).2.1⟩:Fnd) (⟨b.way,⟨b.odds.n,b.odds.d⟩,b.sent⟩:Fnd))=true
   ·refine Cy rfl (c2) (WC.region (Wr (.loadAll ag190 (by rfl) rfl (a7.le az)) rfl ?_))
    refine W.sA sz190 rfl rfl (a8.le az) ?_
    intro ct bB a9
    have bB:Blk ct gb 190 #[.slice A n c,.slice al ((digs ((oddsR m way a x).1.n)).length) am,.slice aq ((digs ((oddsR m way a x).1.d)).length) ar,.int .i64 ((oddsR m way a x).2.1)]:=bB
    have d7:ChP w ct ((fun k=>k=gb)):=cs.ch a9 (fun i hi _=>by cases hi;exact rfl)
    refine Nx (Rt (E.thenR ?_))
    have d8:=((co.le az).ch a9 (fun q hq=>by cases hq;exact hWg))
    refine E.ret0 rfl ?_
    have hnc:¬cutR way (oddsR m way a x) b:=(by first|exact not_cut1 H hwl|exact not_cut2 s u (.inl (hbn I))|exact not_cut2 s u (.inr L))
    have hwn:way≠[]:=fun hh=>by first|exact absurd ((congrArg List.length hh).symm.trans hwl) (by simp;omega)|exact absurd K (hfr (by omega))
    have hlk:lookR g m fr to a x (k+1) way at_ b=(fndR way (oddsR m way a x)):=lookR_new hnc K (by first|exact .inl (hbn I)|exact .inl (hbn aj)|exact .inr c2)
    rw[hlk]
    subst hwl
    exact⟨rfl,⟨_,_,_,_,_,_,bB,d8,(((bz.le az).cb a9 (bz.rl (by have:=ah.lt;omega))).mono hbs0),(((bA.le az).cb a9 (bA.rl (by have:=ah.lt;omega))).mono hbs0),fun h=>absurd h hwn,(show way.length<=8 by omega),hol.1,hol.2⟩,d7⟩
   refine Cn rfl ((Bool.eq_false_iff.2 c2)) (Sn (Rt (E.thenR (E.ret0 rfl ?_))))
   have hlk:lookR g m fr to a x (k+1) way at_ b=b:=(by first|exact lookR_cut (cut_of H hwl (.inl s))|exact lookR_cut (cut_of H hwl (.inr (.inl u)))|exact lookR_cut (cut_of H hwl (.inr (.inr ⟨hbs I,L⟩)))|exact lookR_old (by first|exact not_cut1 H hwl|exact not_cut2 s u (.inl (hbn I))|exact not_cut2 s u (.inr L)) K (fun hh=>hh.elim (hbs I) c2)|exact lookR_old (by first|exact not_cut1 H hwl|exact not_cut2 s u (.inl (hbn I))|exact not_cut2 s u (.inr L)) K (fun hh=>hh.elim (hbs aj) c2)|exact lookR_end (by first|exact not_cut1 H hwl|exact not_cut2 s u (.inl (hbn I))|exact not_cut2 s u (.inr L)) K (by rw[hwl];omega))
   rw[hlk]
   exact⟨rfl,⟨_,_,_,_,_,_,(a8.le az),(cp.le az),(cq.le az),(cr.le az),hBe,hBl,hBm,hBo⟩,cs⟩
  refine Cn rfl (dF K) (Sn (Sq (Sr (Wn 1 rfl (Wr (.len underlying32 rfl) rfl (Wn 1 rfl (Nx ?_)))))))
  by_cases c3:((n:Nat):Int)=8
  ·refine Cy rfl (dT c3) (Rt (E.thenR (E.ret0 rfl ?_)))
   have hlk:lookR g m fr to a x (k+1) way at_ b=b:=(by first|exact lookR_cut (cut_of H hwl (.inl s))|exact lookR_cut (cut_of H hwl (.inr (.inl u)))|exact lookR_cut (cut_of H hwl (.inr (.inr ⟨hbs I,L⟩)))|exact lookR_old (by first|exact not_cut1 H hwl|exact not_cut2 s u (.inl (hbn I))|exact not_cut2 s u (.inr L)) K (fun hh=>hh.elim (hbs I) c2)|exact lookR_old (by first|exact not_cut1 H hwl|exact not_cut2 s u (.inl (hbn I))|exact not_cut2 s u (.inr L)) K (fun hh=>hh.elim (hbs aj) c2)|exact lookR_end (by first|exact not_cut1 H hwl|exact not_cut2 s u (.inl (hbn I))|exact not_cut2 s u (.inr L)) K (by rw[hwl];omega))
   rw[hlk]
   exact⟨rfl,⟨_,_,_,_,_,_,(ap.le O),(((hBw.le (o.trans C)).cb D (hBw.rn (by have:=o.size;omega))).le O),(aU.le O),(aV.le O),hBe,hBl,hBm,hBo⟩,aM⟩
  refine Cn rfl (dF c3) (Sn (Sr (Wr (.loadB (v:= .slice Ag ng cg) na32 rfl (hE.h7.chP aM hE.n7) rfl) rfl (Wn 1 rfl (W.cl go118 rfl rfl (in_ok at_ bw (hE.hg.chP aM hE.hgg) (by omega)) ?_)))))
  rintro _ d9 ⟨cu,cv,rfl,cA,aS⟩
  refine Wr (.len underlying32 rfl) rfl (Wn 1 rfl (Nx (WC.block ?_)))
  refine WC.loop (ι:=Nat×Fnd×((Option Addr))×Nat×((Option Addr))×Nat×((Option Addr))×Nat) (fun⟨j,bk,Ax,cx,Ay,cy,Az,cz⟩=>[(0,.slice A n c),(8,.pointer (some ⟨b8,0,none⟩)),(9,.pointer (some ⟨b9,0,none⟩)),(73,.slice cu ((g.filter (fun e=>decide (e.t=at_))).length) cv),(74,.int .i64 ((((g.filter (fun e=>decide (e.t=at_))).length:Nat):Int))),(75,.int .i64 (((j:Nat):Int)))]) (fun⟨j,bk,Ax,cx,Ay,cy,Az,cz⟩ N=>(j<=(g.filter (fun e=>decide (e.t=at_))).length)/\(bk=((g.filter (fun e=>decide (e.t=at_))).take j).foldl (stepR (lookR g m fr to a x k) way to) b)/\(bk.way=[]->Ax=none)/\(bk.way.length<=8/\(digs bk.odds.n).length<=100/\(digs bk.odds.d).length<=100)/\ChP w N ((fun k=>k=gb))/\d9.heap.size<=N.heap.size/\OVec N bs 81 edgeV 9 A n c way/\OVec N bw.heap.size 81 edgeV 9 cu ((g.filter (fun e=>decide (e.t=at_))).length) cv (g.filter (fun e=>decide (e.t=at_)))/\OVec N bs 81 edgeV 9 Ax bk.way.length cx bk.way/\OVec N bs 273 dv 1 Ay ((digs bk.odds.n).length) cy (digs bk.odds.n)/\OVec N bs 273 dv 1 Az ((digs bk.odds.d).length) cz (digs bk.odds.d)/\Blk N gb 190 #[.slice Ax bk.way.length cx,.slice Ay ((digs bk.odds.n).length) cy,.slice Az ((digs bk.odds.d).length) cz,.int .i64 (bk.sent)]) (fun⟨j,bk,Ax,cx,Ay,cy,Az,cz⟩=>(g.filter (fun e=>decide (e.t=at_))).length-j) (0,b,Aw,cw,An,cn,Ad,cd) ?_ ?_ ?_
  ·exact .of rfl
  ·exact⟨Nat.zero_le _,rfl,hBe,⟨hBl,hBm,hBo⟩,(aM.le aS),Nat.le_refl _,(((hW.le (o.trans C)).cb D (hW.rn (by have:=o.size;omega))).le (O.trans aS)),cA,(((hBw.le (o.trans C)).cb D (hBw.rn (by have:=o.size;omega))).le (O.trans aS)),(aU.le (O.trans aS)),(aV.le (O.trans aS)),(ap.le (O.trans aS))⟩
  rintro⟨j,bk,Ax,cx,Ay,cy,Az,cz⟩ N ⟨hj,hbk,hbe,hbl,au,av,ak,P,aa,ab,ac,Q⟩
  have fQ:bw.heap.size<=N.heap.size:=by have:=aS.size;omega
  refine Sr (Wn 1 rfl (Nx (Sq ?_)))
  by_cases c4:((j:Nat):Int)<(((g.filter (fun e=>decide (e.t=at_))).length:Nat):Int)
  ·refine Cy rfl (dT c4) (Sn (Sq (WC.block (Sr (Wa (.idxS (j) underlying32 sz81 rfl rfl (cA.vec.isSome edgeV_row (by omega)) (rfl) (by omega)) rfl (Wr (.vload ag81 rfl P.vec edgeV_row (getS (g.filter (fun e=>decide (e.t=at_))) noEdge (by first|omega|(simp only[List.length_cons,List.length_nil];omega)))) rfl ?_))))))
   refine W.ef rfl rfl rfl (Ef.allocA z81 fun bC ea eb (ec:Blk ea bC 81 (edgeV noEdge).toArray) V=>?_)
   have ed:=au.le V
   refine W.ef0 rfl rfl (Ef.storeAll sz81 (by rfl) rfl rfl ec (by simp only[List.size_toArray,edgeV_row.len]) (edgeV_row.one ((g.filter (fun e=>decide (e.t=at_))).getD j noEdge)) ?_)
   intro bD aZ X
   have aZ:Blk bD bC 81 (edgeV ((g.filter (fun e=>decide (e.t=at_))).getD j noEdge)).toArray:=aZ
   have bE:ChP w bD ((fun k=>k=gb)):=ed.ch X (fun i hi hlt=>by cases hi;exact absurd hlt (by have:=au.size;have:=eb;omega))
   refine Nx (Sq (Sr (Wa (.field0 fa81_0 rfl) rfl (Wr (.loadB (v:= .int .i64 (((g.filter (fun e=>decide (e.t=at_))).getD j noEdge).f)) na3 rfl aZ rfl) rfl (Wr (.loadB (v:= .int .i64 (to)) na3 rfl (hE.h8.chP bE hE.n8) rfl) rfl (Wn 1 rfl ?_))))))
   by_cases ai:(((g.filter (fun e=>decide (e.t=at_))).getD j noEdge).f)=to
   ·refine Dt ai rfl rfl (Wn 4 rfl (Nx (WC.condT rfl (WC.exit (E.thenX (E.blkH (E.thenN (WC.region (Wa (.add rfl rfl (by omega)) rfl (Wn 1 rfl (W.nil ?_)))))))))))
    have ee:=((ak.le V).cb X (ak.rn (by omega)))
    have eg:=((P.le V).cb X (P.rn (by omega)))
    have eh:=((aa.le V).cb X (aa.rn (by omega)))
    have ei:=((ab.le V).cb X (ab.rn (by omega)))
    have ej:=((ac.le V).cb X (ac.rn (by omega)))
    have ek:=((Q.le V).cn X (by have:=Q.lt;omega))
    refine E.again (j+1,bk,Ax,cx,Ay,cy,Az,cz) (.of rfl) ?_ ?_
    ·exact⟨by omega,(by rw[fold_next (z:=noEdge) (l:=(g.filter (fun e=>decide (e.t=at_)))) (by omega),<-hbk];exact(if_pos (by first|(unfold skipR;rw[dT ai];exact Bool.true_or _)|(unfold skipR;rw[c5];exact Bool.or_true _))).symm),hbe,hbl,bE,by have:=av;have:=V.size;have:=X.size;omega,ee,eg,eh,ei,ej,ek⟩
    first|omega|(simp only[];omega)
   refine Df ai rfl rfl (Wn 1 rfl (Wg (Any.rd (.makeFunc rfl) _) rfl ?_))
   have ba:=((ak.le V).cb X (ak.rn (by omega)))
   refine W.efg rfl rfl rfl (rfl) rfl rfl (Ef.call go119 rfl rfl (rtcontains_ok (fun y=>decide (y.f=((g.filter (fun e=>decide (e.t=at_))).getD j noEdge).f)) go120 bD ba.vec (by omega) (fun y w1 hl=>seen_ok y w1 (aZ.le hl))) ?_)
   rintro _ fR ⟨rfl,ae⟩
   refine⟨_,rfl,?_⟩
   have cB:=bE.le ae
   refine Wn 1 rfl (Nx ?_)
   by_cases c5:(way.any (fun y=>decide (y.f=((g.filter (fun e=>decide (e.t=at_))).getD j noEdge).f)))=true
   ·refine Cy rfl (c5) (WC.exit (E.thenX (E.blkH (E.thenN (WC.region (Wa (.add rfl rfl (by omega)) rfl (Wn 1 rfl (W.nil ?_))))))))
    have el:=(((P.le V).cb X (P.rn (by omega))).le ae)
    have em:=(((aa.le V).cb X (aa.rn (by omega))).le ae)
    have en:=(((ab.le V).cb X (ab.rn (by omega))).le ae)
    have eo:=(((ac.le V).cb X (ac.rn (by omega))).le ae)
    have ep:=(((Q.le V).cn X (by have:=Q.lt;omega)).le ae)
    refine E.again (j+1,bk,Ax,cx,Ay,cy,Az,cz) (.of rfl) ?_ ?_
    ·exact⟨by omega,(by rw[fold_next (z:=noEdge) (l:=(g.filter (fun e=>decide (e.t=at_)))) (by omega),<-hbk];exact(if_pos (by first|(unfold skipR;rw[dT ai];exact Bool.true_or _)|(unfold skipR;rw[c5];exact Bool.or_true _))).symm),hbe,hbl,cB,by have:=av;have:=V.size;have:=X.size;have:=ae.size;omega,(ba.le ae),el,em,en,eo,ep⟩
    first|omega|(simp only[];omega)
   refine Cn rfl ((Bool.eq_false_iff.2 c5)) (Sn (WC.drawR (fun aL w'=>ChP w w' ((fun k=>k=gb))/\Blk w' bC 81 (edgeV ((g.filter (fun e=>decide (e.t=at_))).getD j noEdge)).toArray) [0,1,3,5,6,2,4,7] mixed (by kernel_rfl) fun aL J=>?_))
   have bb:=cB.le J
   have bF:=(aZ.le (ae.trans J))
   refine⟨⟨bb,bF⟩,?_⟩
   refine GR.rd rfl rfl (fun w' hs=> .loadB (v:= .func (.func 115) #[] #[.pointer (some ⟨b2,0,none⟩),.pointer (some ⟨b3,0,none⟩),.pointer (some ⟨b4,0,none⟩),.pointer (some ⟨gb,0,none⟩),.pointer (some ⟨b6,0,none⟩),.pointer (some ⟨b7,0,none⟩),.pointer (some ⟨b8,0,none⟩),.pointer (some ⟨b9,0,none⟩)]) na191 rfl (hE.h9.chP hs.1 hE.n9) rfl) rfl rfl rfl (GR.rd rfl rfl (fun w' hs=> .loadAll ag81 (by rfl) rfl hs.2) rfl rfl rfl ?_)
   refine GR.any rfl rfl (.move rfl) rfl rfl rfl (GR.any rfl rfl (.field0 fa81_0 rfl) rfl rfl rfl (GR.rd rfl rfl (fun w' hs=> .loadB (v:= .int .i64 (((g.filter (fun e=>decide (e.t=at_))).getD j noEdge).f)) na3 rfl hs.2 rfl) rfl rfl rfl (GR.ef rfl rfl rfl rfl rfl (Ef.buildSliceV (len:=1) [_] underlying32 el81 rfl (by simp[Value.cells,edgeV_row.len]) rfl (by decide) (by decide) ?_))))
   intro cC cD er bG aA
   have cE:=bb.le aA
   have bG:Blk cD cC 81 (([(g.filter (fun e=>decide (e.t=at_))).getD j noEdge]).map edgeV).flatten.toArray:=bG
   have aH:OVec cD aL.heap.size 81 edgeV 9 (some ⟨cC,0,none⟩) 1 1 ([(g.filter (fun e=>decide (e.t=at_))).getD j noEdge]):=bG.ovec er edgeV_row rfl rfl (by decide)
   have cF:=(bF.le aA)
   refine⟨fun _=>⟨cE,cF⟩,?_⟩
   have cG:=(ba.le (ae.trans (J.trans aA)))
   refine GR.ef rfl rfl rfl rfl rfl (Ef.vcat underlying32 el81 underlying32 edgeV_row rfl aH rfl cG.vec (by omega) (by unfold maxLen;omega) (by have:=aA.size;omega) ?_)
   intro fS fT bH cH aI fU
   have bI:ChP w bH ((fun k=>k=gb)):=cE.ch aI (fun i hi hlt=>absurd hlt (by have:=(aH.row hi).1;have:=bb.size;omega))
   refine⟨fun _=>⟨bI,(cF.ch aI (aH.rl (by have:=bF.lt;omega)))⟩,?_⟩
   have es:=((((Q.le V).cn X (by have:=Q.lt;omega)).le (ae.trans (J.trans aA))).ch aI (aH.rl (by have:=Q.lt;have:=V.size;have:=X.size;have:=ae.size;have:=J.size;omega)))
   have et:=((((aa.le V).cb X (aa.rn (by omega))).le (ae.trans (J.trans aA))).ch aI ((Apart.symm (fun q R S=>by have:=(aa.row R).2;have:=(aH.row S).1;have:=V.size;have:=X.size;have:=ae.size;have:=J.size;omega))))
   have eu:=((((ab.le V).cb X (ab.rn (by omega))).le (ae.trans (J.trans aA))).ch aI ((Apart.symm (fun q R S=>by have:=(ab.row R).2;have:=(aH.row S).1;have:=V.size;have:=X.size;have:=ae.size;have:=J.size;omega))))
   have ew:=((((ac.le V).cb X (ac.rn (by omega))).le (ae.trans (J.trans aA))).ch aI ((Apart.symm (fun q R S=>by have:=(ac.row R).2;have:=(aH.row S).1;have:=V.size;have:=X.size;have:=ae.size;have:=J.size;omega))))
   have ex:BestAt bH bs gb bk:=⟨_,_,_,_,_,_,es,et,eu,ew,hbe,hbl.1,hbl.2.1,hbl.2.2⟩
   have ey:=ih ([(g.filter (fun e=>decide (e.t=at_))).getD j noEdge]++way) (by omega) (((g.filter (fun e=>decide (e.t=at_))).getD j noEdge).f) bk bH bI (cH.mono (Nat.le_trans hbs0 bb.size))
   have ez:=ey (by omega) (by omega) (cH.rl (by have:=Q.lt;have:=V.size;have:=X.size;have:=ae.size;have:=J.size;omega)) ex
   refine GR.ef rfl rfl rfl rfl rfl (Ef.callC go115 rfl rfl rfl (ez) ?_)
   rintro _ fV ⟨rfl,⟨eA,eB,eC,eD,eE,eF,eG,eH,eI,eJ,eK,eL,eM,eN⟩,bc⟩
   refine⟨_,rfl,?_⟩
   have eO:=bI.sub bc (fun i hi hlt=>(by subst hi;exact rfl))
   refine noT (by kernel_rfl) (GR.nil (E.blkN (E.thenN (WC.region (Wa (.add rfl rfl (by omega)) rfl (Wn 1 rfl (W.nil ?_)))))))
   have eP:=((cG.ch aI ((Apart.symm (fun q R S=>by have:=(ba.row R).2;have:=(aH.row S).1;have:=ae.size;have:=J.size;omega)))).chP bc (fun q hqq hF=>(by subst hF;exact hWg hqq)))
   have eQ:=(((((P.le V).cb X (P.rn (by omega))).le (ae.trans (J.trans aA))).ch aI ((Apart.symm (fun q R S=>by have:=(P.row R).2;have:=(aH.row S).1;have:=V.size;have:=X.size;have:=ae.size;have:=J.size;omega)))).chP bc (fun q hqq hF=>(by subst hF;exact(P.rl (by have:=ap.lt;have:=O.size;omega)) hqq)))
   refine E.again (j+1,(lookR g m fr to a x k ([(g.filter (fun e=>decide (e.t=at_))).getD j noEdge]++way) (((g.filter (fun e=>decide (e.t=at_))).getD j noEdge).f) bk),eA,eB,eC,eD,eE,eF) (.of rfl) ?_ ?_
   ·exact⟨by omega,(by rw[fold_next (z:=noEdge) (l:=(g.filter (fun e=>decide (e.t=at_)))) (by omega),<-hbk];exact(if_neg (by simp only[skipR,Bool.or_eq_true,decide_eq_true_eq,not_or];exact⟨ai,c5⟩)).symm),eK,⟨eL,eM,eN⟩,eO,by have:=av;have:=V.size;have:=X.size;have:=ae.size;have:=J.size;have:=aA.size;have:=aI.size;have:=bc.size;omega,eP,eQ,eH,eI,eJ,eG⟩
   first|omega|(simp only[];omega)
  refine Cn rfl (dF c4) (WC.exit (E.thenX (E.thenX (E.blkH (E.end_ (E.ret0 rfl ?_))))))
  have hnc:¬cutR way (oddsR m way a x) b:=(by first|exact not_cut1 H hwl|exact not_cut2 s u (.inl (hbn I))|exact not_cut2 s u (.inr L))
  have hje:j=(g.filter (fun e=>decide (e.t=at_))).length:=(by omega)
  have hlk:lookR g m fr to a x (k+1) way at_ b=bk:=(by rw[lookR_go hnc K (by rw[hwl];omega),hbk,hje,List.take_length];rfl)
  rw[hlk]
  exact⟨rfl,⟨_,_,_,_,_,_,Q,aa,ab,ac,hbe,hbl.1,hbl.2.1,hbl.2.2⟩,au⟩
 refine Df H rfl rfl (Wn 3 rfl (W.skipu rfl rfl rfl rfl rfl (W.skipu rfl rfl rfl rfl rfl (W.skipu rfl rfl rfl rfl rfl (W.skipu rfl rfl rfl rfl rfl (Wn 2 rfl ?_))))))
 refine W.skipu rfl rfl rfl rfl rfl (W.skipu rfl rfl rfl rfl rfl (W.skipu rfl rfl rfl rfl rfl (W.skipu rfl rfl rfl rfl rfl (W.skipu rfl rfl rfl rfl rfl (W.skipu rfl rfl rfl rfl rfl ?_)))))
 refine W.skipu rfl rfl rfl rfl rfl (W.skipu rfl rfl rfl rfl rfl (W.skipu rfl rfl rfl rfl rfl (W.skipu rfl rfl rfl rfl rfl (Wn 2 rfl (Nx (WC.condF rfl (Sn (Sq (Sr (Wn 1 rfl (Wr (.loadB (v:= .int .i64 (fr)) na3 rfl (hE.h6.chP L3 hE.n6) rfl) rfl ?_)))))))))))
 refine Wn 1 rfl (Nx ?_)
 by_cases K:at_=fr
 ·refine Cy rfl (dT K) (Sq (Sr (Wn 1 rfl (Wr (.loadAll ag61 (by rfl) rfl aQ) rfl ?_))))
  refine Wn 1 rfl (Wa (.buildP [.slice A n c,.slice al ((digs ((oddsR m way a x).1.n)).length) am,.slice aq ((digs ((oddsR m way a x).1.d)).length) ar,.int .i64 ((oddsR m way a x).2.1)] pl190 z190 rfl rfl) rfl (W.ef rfl rfl rfl (Ef.allocA z190 fun cI eR eS (eT:Blk eR cI 190 #[.slice none 0 0,.slice none 0 0,.slice none 0 0,.int .i64 (0)]) aw=>?_)))
  have eU:=L3.le aw
  refine W.sA sz190 rfl rfl eT ?_
  intro bJ a0 ax
  have a0:Blk bJ cI 190 #[.slice A n c,.slice al ((digs ((oddsR m way a x).1.n)).length) am,.slice aq ((digs ((oddsR m way a x).1.d)).length) ar,.int .i64 ((oddsR m way a x).2.1)]:=a0
  have cJ:ChP w bJ ((fun k=>k=gb)):=eU.ch ax (fun i hi hlt=>by cases hi;exact absurd hlt (by have:=L3.size;have:=eS;omega))
  refine Nx (Sr (Wa (.field0 fa190_0 rfl) rfl ?_))
  have a1:=((((ah.le (o.trans C)).cn D (by have:=ah.lt;have:=o.size;omega)).le aw).cn ax (by have:=ah.lt;have:=o.size;have:=C.size;have:=D.size;omega))
  refine Wr (.loadB (v:= .slice Aw b.way.length cw) na32 rfl a1 rfl) rfl (Wa (.isNil underlying32 rfl) rfl ?_)
  by_cases aj:Aw.isNone=true
  ·refine Wa (.dec (.move rfl) (aj)) rfl (Wn 4 rfl (Nx (WC.condT rfl (WC.region (Wr (.loadAll ag190 (by rfl) rfl a0) rfl ?_)))))
   refine W.sA sz190 rfl rfl a1 ?_
   intro cK bK bd
   have bK:Blk cK gb 190 #[.slice A n c,.slice al ((digs ((oddsR m way a x).1.n)).length) am,.slice aq ((digs ((oddsR m way a x).1.d)).length) ar,.int .i64 ((oddsR m way a x).2.1)]:=bK
   have eV:ChP w cK ((fun k=>k=gb)):=cJ.ch bd (fun i hi _=>by cases hi;exact rfl)
   refine Nx (Rt (E.thenR ?_))
   have eW:=(((((hW.le (o.trans C)).cb D (hW.rn (by have:=o.size;omega))).le aw).cb ax (hW.rn (by have:=o.size;have:=C.size;have:=D.size;omega))).ch bd (fun q hq=>by cases hq;exact hWg))
   refine E.ret0 rfl ?_
   have hnc:¬cutR way (oddsR m way a x) b:=(by first|exact not_cut1 H hwl|exact not_cut2 s u (.inl (hbn I))|exact not_cut2 s u (.inr L))
   have hwn:way≠[]:=fun hh=>by first|exact absurd ((congrArg List.length hh).symm.trans hwl) (by simp;omega)|exact absurd K (hfr (by omega))
   have hlk:lookR g m fr to a x (k+1) way at_ b=(fndR way (oddsR m way a x)):=lookR_new hnc K (by first|exact .inl (hbn I)|exact .inl (hbn aj)|exact .inr c2)
   rw[hlk]
   subst hwl
   exact⟨rfl,⟨_,_,_,_,_,_,bK,eW,((((((an.le C).cb D (an.rn (by omega))).le aw).cb ax (an.rn (by have:=C.size;have:=D.size;omega))).cb bd (an.rl (by have:=ah.lt;omega))).mono hbs0),((((((ao.le C).cb D (ao.rn (by omega))).le aw).cb ax (ao.rn (by have:=C.size;have:=D.size;omega))).cb bd (ao.rl (by have:=ah.lt;omega))).mono hbs0),fun h=>absurd h hwn,(show way.length<=8 by omega),hol.1,hol.2⟩,eV⟩
  refine Wa (.dec (.move rfl) ((Bool.eq_false_iff.2 aj))) rfl (Wg (.loadAll ag190 (by rfl) rfl a0) rfl ?_)
  refine Wg (.loadAll ag190 (by rfl) rfl a1) rfl ?_
  have cL:=((((hW.le (o.trans C)).cb D (hW.rn (by have:=o.size;omega))).le aw).cb ax (hW.rn (by have:=o.size;have:=C.size;have:=D.size;omega)))
  have bL:=((((an.le C).cb D (an.rn (by omega))).le aw).cb ax (an.rn (by have:=C.size;have:=D.size;omega)))
  have bM:=((((ao.le C).cb D (ao.rn (by omega))).le aw).cb ax (ao.rn (by have:=C.size;have:=D.size;omega)))
  have cM:=((((hBw.le (o.trans C)).cb D (hBw.rn (by have:=o.size;omega))).le aw).cb ax (hBw.rn (by have:=o.size;have:=C.size;have:=D.size;omega)))
  have cN:=((((hBn.le (o.trans C)).cb D (hBn.rn (by have:=o.size;omega))).le aw).cb ax (hBn.rn (by have:=o.size;have:=C.size;have:=D.size;omega)))
  have cO:=((((hBd.le (o.trans C)).cb D (hBd.rn (by have:=o.size;omega))).le aw).cb ax (hBd.rn (by have:=o.size;have:=C.size;have:=D.size;omega)))
  refine W.efg rfl rfl rfl (rfl) rfl rfl (Ef.call go117 rfl rfl (better_ok bJ cL.vec bL.vec bM.vec (by omega) (by omega) (by omega) cM.vec cN.vec cO.vec (by omega) (by omega) (by omega)) ?_)
  rintro _ fW ⟨rfl,aB⟩
  refine⟨_,rfl,?_⟩
  have cP:=cJ.le aB
  refine Wn 1 rfl (Nx ?_)
  by_cases c2:(betterR (⟨way,⟨((oddsR m way a x).1.n),((oddsR m way a x).1.d)⟩,(oddsR m way a x).2.1⟩:Fnd) (⟨b.way,⟨b.odds.n,b.odds.d⟩,b.sent⟩:Fnd))=true
  ·refine Cy rfl (c2) (WC.region (Wr (.loadAll ag190 (by rfl) rfl (a0.le aB)) rfl ?_))
   refine W.sA sz190 rfl rfl (a1.le aB) ?_
   intro cQ bN be
   have bN:Blk cQ gb 190 #[.slice A n c,.slice al ((digs ((oddsR m way a x).1.n)).length) am,.slice aq ((digs ((oddsR m way a x).1.d)).length) ar,.int .i64 ((oddsR m way a x).2.1)]:=bN
   have eX:ChP w cQ ((fun k=>k=gb)):=cP.ch be (fun i hi _=>by cases hi;exact rfl)
   refine Nx (Rt (E.thenR ?_))
   have eY:=((cL.le aB).ch be (fun q hq=>by cases hq;exact hWg))
   refine E.ret0 rfl ?_
   have hnc:¬cutR way (oddsR m way a x) b:=(by first|exact not_cut1 H hwl|exact not_cut2 s u (.inl (hbn I))|exact not_cut2 s u (.inr L))
   have hwn:way≠[]:=fun hh=>by first|exact absurd ((congrArg List.length hh).symm.trans hwl) (by simp;omega)|exact absurd K (hfr (by omega))
   have hlk:lookR g m fr to a x (k+1) way at_ b=(fndR way (oddsR m way a x)):=lookR_new hnc K (by first|exact .inl (hbn I)|exact .inl (hbn aj)|exact .inr c2)
   rw[hlk]
   subst hwl
   exact⟨rfl,⟨_,_,_,_,_,_,bN,eY,(((bL.le aB).cb be (bL.rl (by have:=ah.lt;omega))).mono hbs0),(((bM.le aB).cb be (bM.rl (by have:=ah.lt;omega))).mono hbs0),fun h=>absurd h hwn,(show way.length<=8 by omega),hol.1,hol.2⟩,eX⟩
  refine Cn rfl ((Bool.eq_false_iff.2 c2)) (Sn (Rt (E.thenR (E.ret0 rfl ?_))))
  have hlk:lookR g m fr to a x (k+1) way at_ b=b:=(by first|exact lookR_cut (cut_of H hwl (.inl s))|exact lookR_cut (cut_of H hwl (.inr (.inl u)))|exact lookR_cut (cut_of H hwl (.inr (.inr ⟨hbs I,L⟩)))|exact lookR_old (by first|exact not_cut1 H hwl|exact not_cut2 s u (.inl (hbn I))|exact not_cut2 s u (.inr L)) K (fun hh=>hh.elim (hbs I) c2)|exact lookR_old (by first|exact not_cut1 H hwl|exact not_cut2 s u (.inl (hbn I))|exact not_cut2 s u (.inr L)) K (fun hh=>hh.elim (hbs aj) c2)|exact lookR_end (by first|exact not_cut1 H hwl|exact not_cut2 s u (.inl (hbn I))|exact not_cut2 s u (.inr L)) K (by rw[hwl];omega))
  rw[hlk]
  exact⟨rfl,⟨_,_,_,_,_,_,(a1.le aB),(cM.le aB),(cN.le aB),(cO.le aB),hBe,hBl,hBm,hBo⟩,cP⟩
 refine Cn rfl (dF K) (Sn (Sq (Sr (Wn 1 rfl (Wr (.len underlying32 rfl) rfl (Wn 1 rfl (Nx ?_)))))))
 by_cases c3:((n:Nat):Int)=8
 ·refine Cy rfl (dT c3) (Rt (E.thenR (E.ret0 rfl ?_)))
  have hlk:lookR g m fr to a x (k+1) way at_ b=b:=(by first|exact lookR_cut (cut_of H hwl (.inl s))|exact lookR_cut (cut_of H hwl (.inr (.inl u)))|exact lookR_cut (cut_of H hwl (.inr (.inr ⟨hbs I,L⟩)))|exact lookR_old (by first|exact not_cut1 H hwl|exact not_cut2 s u (.inl (hbn I))|exact not_cut2 s u (.inr L)) K (fun hh=>hh.elim (hbs I) c2)|exact lookR_old (by first|exact not_cut1 H hwl|exact not_cut2 s u (.inl (hbn I))|exact not_cut2 s u (.inr L)) K (fun hh=>hh.elim (hbs aj) c2)|exact lookR_end (by first|exact not_cut1 H hwl|exact not_cut2 s u (.inl (hbn I))|exact not_cut2 s u (.inr L)) K (by rw[hwl];omega))
  rw[hlk]
  exact⟨rfl,⟨_,_,_,_,_,_,((ah.le (o.trans C)).cn D (by have:=ah.lt;have:=o.size;omega)),((hBw.le (o.trans C)).cb D (hBw.rn (by have:=o.size;omega))),((hBn.le (o.trans C)).cb D (hBn.rn (by have:=o.size;omega))),((hBd.le (o.trans C)).cb D (hBd.rn (by have:=o.size;omega))),hBe,hBl,hBm,hBo⟩,L3⟩
 refine Cn rfl (dF c3) (Sn (Sr (Wr (.loadB (v:= .slice Ag ng cg) na32 rfl (hE.h7.chP L3 hE.n7) rfl) rfl (Wn 1 rfl (W.cl go118 rfl rfl (in_ok at_ aE (hE.hg.chP L3 hE.hgg) (by omega)) ?_)))))
 rintro _ eZ ⟨cR,cS,rfl,cT,aT⟩
 refine Wr (.len underlying32 rfl) rfl (Wn 1 rfl (Nx (WC.block ?_)))
 refine WC.loop (ι:=Nat×Fnd×((Option Addr))×Nat×((Option Addr))×Nat×((Option Addr))×Nat) (fun⟨j,bk,Ax,cx,Ay,cy,Az,cz⟩=>[(0,.slice A n c),(8,.pointer (some ⟨b8,0,none⟩)),(9,.pointer (some ⟨b9,0,none⟩)),(73,.slice cR ((g.filter (fun e=>decide (e.t=at_))).length) cS),(74,.int .i64 ((((g.filter (fun e=>decide (e.t=at_))).length:Nat):Int))),(75,.int .i64 (((j:Nat):Int)))]) (fun⟨j,bk,Ax,cx,Ay,cy,Az,cz⟩ N=>(j<=(g.filter (fun e=>decide (e.t=at_))).length)/\(bk=((g.filter (fun e=>decide (e.t=at_))).take j).foldl (stepR (lookR g m fr to a x k) way to) b)/\(bk.way=[]->Ax=none)/\(bk.way.length<=8/\(digs bk.odds.n).length<=100/\(digs bk.odds.d).length<=100)/\ChP w N ((fun k=>k=gb))/\eZ.heap.size<=N.heap.size/\OVec N bs 81 edgeV 9 A n c way/\OVec N aE.heap.size 81 edgeV 9 cR ((g.filter (fun e=>decide (e.t=at_))).length) cS (g.filter (fun e=>decide (e.t=at_)))/\OVec N bs 81 edgeV 9 Ax bk.way.length cx bk.way/\OVec N bs 273 dv 1 Ay ((digs bk.odds.n).length) cy (digs bk.odds.n)/\OVec N bs 273 dv 1 Az ((digs bk.odds.d).length) cz (digs bk.odds.d)/\Blk N gb 190 #[.slice Ax bk.way.length cx,.slice Ay ((digs bk.odds.n).length) cy,.slice Az ((digs bk.odds.d).length) cz,.int .i64 (bk.sent)]) (fun⟨j,bk,Ax,cx,Ay,cy,Az,cz⟩=>(g.filter (fun e=>decide (e.t=at_))).length-j) (0,b,Aw,cw,An,cn,Ad,cd) ?_ ?_ ?_
 ·exact .of rfl
 ·exact⟨Nat.zero_le _,rfl,hBe,⟨hBl,hBm,hBo⟩,(L3.le aT),Nat.le_refl _,(((hW.le (o.trans C)).cb D (hW.rn (by have:=o.size;omega))).le aT),cT,(((hBw.le (o.trans C)).cb D (hBw.rn (by have:=o.size;omega))).le aT),(((hBn.le (o.trans C)).cb D (hBn.rn (by have:=o.size;omega))).le aT),(((hBd.le (o.trans C)).cb D (hBd.rn (by have:=o.size;omega))).le aT),(((ah.le (o.trans C)).cn D (by have:=ah.lt;have:=o.size;omega)).le aT)⟩
 rintro⟨j,bk,Ax,cx,Ay,cy,Az,cz⟩ N ⟨hj,hbk,hbe,hbl,au,av,ak,P,aa,ab,ac,Q⟩
 have fX:aE.heap.size<=N.heap.size:=by have:=aT.size;omega
 refine Sr (Wn 1 rfl (Nx (Sq ?_)))
 by_cases c4:((j:Nat):Int)<(((g.filter (fun e=>decide (e.t=at_))).length:Nat):Int)
 ·refine Cy rfl (dT c4) (Sn (Sq (WC.block (Sr (Wa (.idxS (j) underlying32 sz81 rfl rfl (cT.vec.isSome edgeV_row (by omega)) (rfl) (by omega)) rfl (Wr (.vload ag81 rfl P.vec edgeV_row (getS (g.filter (fun e=>decide (e.t=at_))) noEdge (by first|omega|(simp only[List.length_cons,List.length_nil];omega)))) rfl ?_))))))
  refine W.ef rfl rfl rfl (Ef.allocA z81 fun bO e0 e1 (e2:Blk e0 bO 81 (edgeV noEdge).toArray) Y=>?_)
  have e3:=au.le Y
  refine W.ef0 rfl rfl (Ef.storeAll sz81 (by rfl) rfl rfl e2 (by simp only[List.size_toArray,edgeV_row.len]) (edgeV_row.one ((g.filter (fun e=>decide (e.t=at_))).getD j noEdge)) ?_)
  intro bP a2 Z
  have a2:Blk bP bO 81 (edgeV ((g.filter (fun e=>decide (e.t=at_))).getD j noEdge)).toArray:=a2
  have bQ:ChP w bP ((fun k=>k=gb)):=e3.ch Z (fun i hi hlt=>by cases hi;exact absurd hlt (by have:=au.size;have:=e1;omega))
  refine Nx (Sq (Sr (Wa (.field0 fa81_0 rfl) rfl (Wr (.loadB (v:= .int .i64 (((g.filter (fun e=>decide (e.t=at_))).getD j noEdge).f)) na3 rfl a2 rfl) rfl (Wr (.loadB (v:= .int .i64 (to)) na3 rfl (hE.h8.chP bQ hE.n8) rfl) rfl (Wn 1 rfl ?_))))))
  by_cases ai:(((g.filter (fun e=>decide (e.t=at_))).getD j noEdge).f)=to
  ·refine Dt ai rfl rfl (Wn 4 rfl (Nx (WC.condT rfl (WC.exit (E.thenX (E.blkH (E.thenN (WC.region (Wa (.add rfl rfl (by omega)) rfl (Wn 1 rfl (W.nil ?_)))))))))))
   have e4:=((ak.le Y).cb Z (ak.rn (by omega)))
   have e5:=((P.le Y).cb Z (P.rn (by omega)))
   have e6:=((aa.le Y).cb Z (aa.rn (by omega)))
   have e7:=((ab.le Y).cb Z (ab.rn (by omega)))
   have e8:=((ac.le Y).cb Z (ac.rn (by omega)))
   have e9:=((Q.le Y).cn Z (by have:=Q.lt;omega))
   refine E.again (j+1,bk,Ax,cx,Ay,cy,Az,cz) (.of rfl) ?_ ?_
   ·exact⟨by omega,(by rw[fold_next (z:=noEdge) (l:=(g.filter (fun e=>decide (e.t=at_)))) (by omega),<-hbk];exact(if_pos (by first|(unfold skipR;rw[dT ai];exact Bool.true_or _)|(unfold skipR;rw[c5];exact Bool.or_true _))).symm),hbe,hbl,bQ,by have:=av;have:=Y.size;have:=Z.size;omega,e4,e5,e6,e7,e8,e9⟩
   first|omega|(simp only[];omega)
  refine Df ai rfl rfl (Wn 1 rfl (Wg (Any.rd (.makeFunc rfl) _) rfl ?_))
  have bf:=((ak.le Y).cb Z (ak.rn (by omega)))
  refine W.efg rfl rfl rfl (rfl) rfl rfl (Ef.call go119 rfl rfl (rtcontains_ok (fun y=>decide (y.f=((g.filter (fun e=>decide (e.t=at_))).getD j noEdge).f)) go120 bP bf.vec (by omega) (fun y w1 hl=>seen_ok y w1 (a2.le hl))) ?_)
  rintro _ fY ⟨rfl,af⟩
  refine⟨_,rfl,?_⟩
  have cU:=bQ.le af
  refine Wn 1 rfl (Nx ?_)
  by_cases c5:(way.any (fun y=>decide (y.f=((g.filter (fun e=>decide (e.t=at_))).getD j noEdge).f)))=true
  ·refine Cy rfl (c5) (WC.exit (E.thenX (E.blkH (E.thenN (WC.region (Wa (.add rfl rfl (by omega)) rfl (Wn 1 rfl (W.nil ?_))))))))
   have fa:=(((P.le Y).cb Z (P.rn (by omega))).le af)
   have fb:=(((aa.le Y).cb Z (aa.rn (by omega))).le af)
   have fc:=(((ab.le Y).cb Z (ab.rn (by omega))).le af)
   have fd:=(((ac.le Y).cb Z (ac.rn (by omega))).le af)
   have fe:=(((Q.le Y).cn Z (by have:=Q.lt;omega)).le af)
   refine E.again (j+1,bk,Ax,cx,Ay,cy,Az,cz) (.of rfl) ?_ ?_
   ·exact⟨by omega,(by rw[fold_next (z:=noEdge) (l:=(g.filter (fun e=>decide (e.t=at_)))) (by omega),<-hbk];exact(if_pos (by first|(unfold skipR;rw[dT ai];exact Bool.true_or _)|(unfold skipR;rw[c5];exact Bool.or_true _))).symm),hbe,hbl,cU,by have:=av;have:=Y.size;have:=Z.size;have:=af.size;omega,(bf.le af),fa,fb,fc,fd,fe⟩
   first|omega|(simp only[];omega)
  refine Cn rfl ((Bool.eq_false_iff.2 c5)) (Sn (WC.drawR (fun aL w'=>ChP w w' ((fun k=>k=gb))/\Blk w' bO 81 (edgeV ((g.filter (fun e=>decide (e.t=at_))).getD j noEdge)).toArray) [0,1,3,5,6,2,4,7] mixed (by kernel_rfl) fun aL J=>?_))
  have bg:=cU.le J
  have bR:=(a2.le (af.trans J))
  refine⟨⟨bg,bR⟩,?_⟩
  refine GR.rd rfl rfl (fun w' hs=> .loadB (v:= .func (.func 115) #[] #[.pointer (some ⟨b2,0,none⟩),.pointer (some ⟨b3,0,none⟩),.pointer (some ⟨b4,0,none⟩),.pointer (some ⟨gb,0,none⟩),.pointer (some ⟨b6,0,none⟩),.pointer (some ⟨b7,0,none⟩),.pointer (some ⟨b8,0,none⟩),.pointer (some ⟨b9,0,none⟩)]) na191 rfl (hE.h9.chP hs.1 hE.n9) rfl) rfl rfl rfl (GR.rd rfl rfl (fun w' hs=> .loadAll ag81 (by rfl) rfl hs.2) rfl rfl rfl ?_)
  refine GR.any rfl rfl (.move rfl) rfl rfl rfl (GR.any rfl rfl (.field0 fa81_0 rfl) rfl rfl rfl (GR.rd rfl rfl (fun w' hs=> .loadB (v:= .int .i64 (((g.filter (fun e=>decide (e.t=at_))).getD j noEdge).f)) na3 rfl hs.2 rfl) rfl rfl rfl (GR.ef rfl rfl rfl rfl rfl (Ef.buildSliceV (len:=1) [_] underlying32 el81 rfl (by simp[Value.cells,edgeV_row.len]) rfl (by decide) (by decide) ?_))))
  intro cV cW ff bS aC
  have cX:=bg.le aC
  have bS:Blk cW cV 81 (([(g.filter (fun e=>decide (e.t=at_))).getD j noEdge]).map edgeV).flatten.toArray:=bS
  have aJ:OVec cW aL.heap.size 81 edgeV 9 (some ⟨cV,0,none⟩) 1 1 ([(g.filter (fun e=>decide (e.t=at_))).getD j noEdge]):=bS.ovec ff edgeV_row rfl rfl (by decide)
  have cY:=(bR.le aC)
  refine⟨fun _=>⟨cX,cY⟩,?_⟩
  have cZ:=(bf.le (af.trans (J.trans aC)))
  refine GR.ef rfl rfl rfl rfl rfl (Ef.vcat underlying32 el81 underlying32 edgeV_row rfl aJ rfl cZ.vec (by omega) (by unfold maxLen;omega) (by have:=aC.size;omega) ?_)
  intro fZ f0 bT c6 aK f1
  have bU:ChP w bT ((fun k=>k=gb)):=cX.ch aK (fun i hi hlt=>absurd hlt (by have:=(aJ.row hi).1;have:=bg.size;omega))
  refine⟨fun _=>⟨bU,(cY.ch aK (aJ.rl (by have:=bR.lt;omega)))⟩,?_⟩
  have fg:=((((Q.le Y).cn Z (by have:=Q.lt;omega)).le (af.trans (J.trans aC))).ch aK (aJ.rl (by have:=Q.lt;have:=Y.size;have:=Z.size;have:=af.size;have:=J.size;omega)))
  have fh:=((((aa.le Y).cb Z (aa.rn (by omega))).le (af.trans (J.trans aC))).ch aK ((Apart.symm (fun q R S=>by have:=(aa.row R).2;have:=(aJ.row S).1;have:=Y.size;have:=Z.size;have:=af.size;have:=J.size;omega))))
  have fi:=((((ab.le Y).cb Z (ab.rn (by omega))).le (af.trans (J.trans aC))).ch aK ((Apart.symm (fun q R S=>by have:=(ab.row R).2;have:=(aJ.row S).1;have:=Y.size;have:=Z.size;have:=af.size;have:=J.size;omega))))
  have fj:=((((ac.le Y).cb Z (ac.rn (by omega))).le (af.trans (J.trans aC))).ch aK ((Apart.symm (fun q R S=>by have:=(ac.row R).2;have:=(aJ.row S).1;have:=Y.size;have:=Z.size;have:=af.size;have:=J.size;omega))))
  have fk:BestAt bT bs gb bk:=⟨_,_,_,_,_,_,fg,fh,fi,fj,hbe,hbl.1,hbl.2.1,hbl.2.2⟩
  have fm:=ih ([(g.filter (fun e=>decide (e.t=at_))).getD j noEdge]++way) (by omega) (((g.filter (fun e=>decide (e.t=at_))).getD j noEdge).f) bk bT bU (c6.mono (Nat.le_trans hbs0 bg.size))
  have fp:=fm (by omega) (by omega) (c6.rl (by have:=Q.lt;have:=Y.size;have:=Z.size;have:=af.size;have:=J.size;omega)) fk
  refine GR.ef rfl rfl rfl rfl rfl (Ef.callC go115 rfl rfl rfl (fp) ?_)
  rintro _ f2 ⟨rfl,⟨fq,fs,ft,fu,fv,fw,fx,fy,fz,fA,fB,fC,fD,fE⟩,bh⟩
  refine⟨_,rfl,?_⟩
  have fF:=bU.sub bh (fun i hi hlt=>(by subst hi;exact rfl))
  refine noT (by kernel_rfl) (GR.nil (E.blkN (E.thenN (WC.region (Wa (.add rfl rfl (by omega)) rfl (Wn 1 rfl (W.nil ?_)))))))
  have fG:=((cZ.ch aK ((Apart.symm (fun q R S=>by have:=(bf.row R).2;have:=(aJ.row S).1;have:=af.size;have:=J.size;omega)))).chP bh (fun q hqq hF=>(by subst hF;exact hWg hqq)))
  have fH:=(((((P.le Y).cb Z (P.rn (by omega))).le (af.trans (J.trans aC))).ch aK ((Apart.symm (fun q R S=>by have:=(P.row R).2;have:=(aJ.row S).1;have:=Y.size;have:=Z.size;have:=af.size;have:=J.size;omega)))).chP bh (fun q hqq hF=>(by subst hF;exact(P.rl (by have:=ah.lt;have:=o.size;have:=C.size;have:=D.size;omega)) hqq)))
  refine E.again (j+1,(lookR g m fr to a x k ([(g.filter (fun e=>decide (e.t=at_))).getD j noEdge]++way) (((g.filter (fun e=>decide (e.t=at_))).getD j noEdge).f) bk),fq,fs,ft,fu,fv,fw) (.of rfl) ?_ ?_
  ·exact⟨by omega,(by rw[fold_next (z:=noEdge) (l:=(g.filter (fun e=>decide (e.t=at_)))) (by omega),<-hbk];exact(if_neg (by simp only[skipR,Bool.or_eq_true,decide_eq_true_eq,not_or];exact⟨ai,c5⟩)).symm),fB,⟨fC,fD,fE⟩,fF,by have:=av;have:=Y.size;have:=Z.size;have:=af.size;have:=J.size;have:=aC.size;have:=aK.size;have:=bh.size;omega,fG,fH,fy,fz,fA,fx⟩
  first|omega|(simp only[];omega)
 refine Cn rfl (dF c4) (WC.exit (E.thenX (E.thenX (E.blkH (E.end_ (E.ret0 rfl ?_))))))
 have hnc:¬cutR way (oddsR m way a x) b:=(by first|exact not_cut1 H hwl|exact not_cut2 s u (.inl (hbn I))|exact not_cut2 s u (.inr L))
 have hje:j=(g.filter (fun e=>decide (e.t=at_))).length:=(by omega)
 have hlk:lookR g m fr to a x (k+1) way at_ b=bk:=(by rw[lookR_go hnc K (by rw[hwl];omega),hbk,hje,List.take_length];rfl)
 rw[hlk]
 exact⟨rfl,⟨_,_,_,_,_,_,Q,aa,ab,ac,hbe,hbl.1,hbl.2.1,hbl.2.2⟩,au⟩


theorem look_ok {bs base gp ng cg b2 b3 b4 gb b6 b7 b8 b9:Nat}{F:Nat->Prop}{m:MF}{Ag:Option Addr}{g:List Gsp.Edge}{fr to a x:Int}:∀(k:Nat) (way:List Gsp.Edge) {A:Option Addr} {n c:Nat} (hk1:1<=k) (at_:Int) (b:Fnd) (w:World),LookE w base gp F m Ag ng cg g fr to a x b2 b3 b4 gb b6 b7 b8 b9->bs<=w.heap.size->OVec w bs 81 edgeV 9 A n c way->n+k=9->(n=0->A=none)->(n=0->at_≠fr)->rowOf A c≠some gb->BestAt w bs gb b->
    Calls prog 115 #[.slice A n c,.int .i64 at_,.pointer (some ⟨b2,0,none⟩),.pointer (some ⟨b3,0,none⟩),.pointer (some ⟨b4,0,none⟩),.pointer (some ⟨gb,0,none⟩),.pointer (some ⟨b6,0,none⟩),.pointer (some ⟨b7,0,none⟩),.pointer (some ⟨b8,0,none⟩),.pointer (some ⟨b9,0,none⟩)] w fun r w2=>r= .returned (.tuple #[])/\BestAt w2 bs gb (lookR g m fr to a x k way at_ b)/\ChP w w2 (fun k=>k=gb)
  |0,_,_,_,_,h,_,_,_,_,_,_,_,_,_,_,_=>absurd h (by decide)
  |k+1,way,A,n,c,_,at_,b,w,hE,hbs,hW,hnk,hn0,hnf,hWg,hB=>by
    obtain⟨Aw,cw,An,cn,Ad,cd,hB⟩:=hB
    refine look_step at_ w hE (fun way' A' n' c' hk1 at' b' d hc hW' hn' e hg' hB'=>look_ok k way' hk1 at' b' d (hE.chP hc) (Nat.le_trans hbs hc.size) hW' hn' (fun h=>by omega) (fun h=>by omega) hg' hB') hbs hW hWg (by omega) hB hn0 hnf

end Go.Proofs.YtocheaahlpiajaaGreatDoor

namespace Go.Proofs.YtocheaahlpiajaaGreatDoor
open Tryz
open Go Go.Sx Go.Num Go.Gsp Go.Nsp Go.Msp Go.Rtp
set_option maxRecDepth 20000
set_option maxHeartbeats 4000000
theorem best_none {w:World}{bs gb:Nat}(h:Blk w gb 190 #[.slice none 0 0,.slice none 0 0,.slice none 0 0,.int .i64 0]):BestAt w bs gb noFnd:=by
  refine⟨none,0,none,0,none,0,?_,OVec.nil _ _ _ _ _ _,?_,?_,fun _=>rfl,by decide,?_,?_⟩
  · show Blk w gb 190 #[.slice none 0 0,.slice none (digs 0).length 0,.slice none (digs 0).length 0,.int .i64 0]
    rw[digs_zero];exact h
  · show OVec w bs 273 dv 1 none (digs 0).length 0 (digs 0)
    rw[digs_zero];exact OVec.nil _ _ _ _ _ _
  · show OVec w bs 273 dv 1 none (digs 0).length 0 (digs 0)
    rw[digs_zero];exact OVec.nil _ _ _ _ _ _
  · show(digs 0).length<=100
    rw[digs_zero];decide
  · show(digs 0).length<=100
    rw[digs_zero];decide
theorem bestR_none {g:List Gsp.Edge}{m:MF}{fr to a x:Int}(hb:badR g fr to a x=false)(h:(lookR g m fr to a x 9 [] to noFnd).way=[]):bestR g m fr to a x=([],⟨0,0⟩,19):=by unfold bestR;rw[if_neg (by rw[hb];decide),if_pos h]
theorem bestR_some {g:List Gsp.Edge}{m:MF}{fr to a x:Int}(hb:badR g fr to a x=false)(h:(lookR g m fr to a x 9 [] to noFnd).way≠[]):bestR g m fr to a x=((lookR g m fr to a x 9 [] to noFnd).way,(lookR g m fr to a x 9 [] to noFnd).odds,0):=by unfold bestR;rw[if_neg (by rw[hb];decide),if_neg h]
theorem rbest_ok {base gp:Nat}{F:Nat->Prop}{m:MF}(fr to a x:Int){A:Option Addr}{n c:Nat}{g:List Gsp.Edge}(w:World)(hP:MPool w base gp F m)(hV:Vec w edgeV 9 A n g)(hn:n<=1000000):Calls prog 46 #[.slice A n c,.pointer (some ⟨gp,0,none⟩),.int .i64 (fr),.int .i64 (to),.int .i64 (a),.int .i64 (x)] w fun r w'=>∃Aw cw An cn Ad cd,r= .returned (.tuple #[.slice Aw (bestR g m fr to a x).1.length cw,.agg #[.slice An (digs (bestR g m fr to a x).2.1.n).length cn,.slice Ad (digs (bestR g m fr to a x).2.1.d).length cd],.int .i64 (bestR g m fr to a x).2.2])/\OVec w' w.heap.size 81 edgeV 9 Aw (bestR g m fr to a x).1.length cw (bestR g m fr to a x).1/\OVec w' w.heap.size 273 dv 1 An (digs (bestR g m fr to a x).2.1.n).length cn (digs (bestR g m fr to a x).2.1.n)/\OVec w' w.heap.size 273 dv 1 Ad (digs (bestR g m fr to a x).2.1.d).length cd (digs (bestR g m fr to a x).2.1.d)/\Le w w':=by
 have hl:=hV.1
 have hgm:=hP.good
 refine enter func46 rfl rfl (Sr (W.ef rfl rfl rfl (Ef.box rfl fun T aY bR (aZ:Blk aY T 32 #[.slice A n c]) ad=>(W.ef rfl rfl rfl (Ef.box rfl fun U a0 bS (ao:Blk a0 U 55 #[.pointer (some ⟨gp,0,none⟩)]) V=>(W.ef rfl rfl rfl ?_))))))
 refine Ef.box rfl fun X a1 bT (a2:Blk a1 X 3 #[.int .i64 (fr)]) L=>(W.ef rfl rfl rfl (Ef.box rfl fun Y a3 bU (a4:Blk a3 Y 3 #[.int .i64 (to)]) I=>(W.ef rfl rfl rfl (Ef.box rfl fun Z a5 bV (a6:Blk a5 Z 3 #[.int .i64 (a)]) H=>(W.ef rfl rfl rfl ?_)))))
 refine Ef.box rfl fun aa a7 bW (a8:Blk a7 aa 3 #[.int .i64 (x)]) C=>?_
 have J:=((((((Le.refl w).trans ad).trans V).trans L).trans I).trans H).trans C
 refine Wn 1 rfl (W.ef rfl rfl rfl (Ef.allocA z61 fun D aF N (s:Blk aF D 61 #[.slice none 0 0,.slice none 0 0]) z=>?_))
 have L7:=J.trans z
 refine Wn 1 rfl (Nx (Sq (Sr ?_)))
 have f8:=(aZ.le (V.trans (L.trans (I.trans (H.trans (C.trans z))))))
 refine Wr (.loadB (v:= .slice A n c) na32 rfl f8 rfl) rfl (W.cl go68 rfl rfl (gright_ok aF (hV.le L7) (by omega)) ?_)
 rintro _ a9 ⟨rfl,f⟩
 have L9:=L7.trans f
 refine Wn 1 rfl ?_
 by_cases K:(rightG g)=true
 ·refine Wa (.dec (.move rfl) (congrArg not (K))) rfl ?_
  have aG:=(a2.le (I.trans (H.trans (C.trans (z.trans f)))))
  refine Wg (.loadB (v:= .int .i64 (fr)) na3 rfl aG rfl) rfl (W.efg rfl rfl rfl (rfl) rfl rfl (Ef.call go114 rfl rfl (rtwithin_ok fr 0 11 a9) ?_))
  rintro _ ba ⟨rfl,j⟩
  refine⟨_,rfl,?_⟩
  have aH:=L9.trans j
  refine Wn 2 rfl ?_
  by_cases O:(inB fr 0 11)=true
  ·refine Wa (.dec (.move rfl) (congrArg not (O))) rfl ?_
   have aI:=(a4.le (H.trans (C.trans (z.trans (f.trans j)))))
   refine Wg (.loadB (v:= .int .i64 (to)) na3 rfl aI rfl) rfl (W.efg rfl rfl rfl (rfl) rfl rfl (Ef.call go114 rfl rfl (rtwithin_ok to 0 11 ba) ?_))
   rintro _ bb ⟨rfl,l⟩
   refine⟨_,rfl,?_⟩
   have ap:=aH.trans l
   refine Wn 2 rfl ?_
   by_cases P:(inB to 0 11)=true
   ·refine Wa (.dec (.move rfl) (congrArg not (P))) rfl ?_
    have ae:=(aG.le (j.trans l))
    refine Wg (.loadB (v:= .int .i64 (fr)) na3 rfl ae rfl) rfl ?_
    have af:=(aI.le l)
    refine Wg (.loadB (v:= .int .i64 (to)) na3 rfl af rfl) rfl (Wn 2 rfl ?_)
    by_cases Q:fr=to
    ·refine Dt Q rfl rfl (Wn 9 rfl (Nx (WC.condT rfl (Sr (Wa (.buildP [.slice none 0 0,.slice none 0 0] pl61 z61 rfl rfl) rfl (Wn 1 rfl (W.sA sz61 rfl rfl (s.le (f.trans (j.trans l))) ?_)))))))
     intro bc aq bd
     have aq:Blk bc D 61 #[.slice none 0 0,.slice none 0 0]:=aq
     have be:=ap.tb bd J N
     refine Wn 1 rfl (Nx (Rt (E.thenR (E.retG3 rfl rfl (resA rfl aq ag61 (by rfl)) rfl ?_))))
     rw[bestR_bad (by unfold badR;simp[K,O,P,Q])]
     exact⟨none,0,none,0,none,0,by simp only[digs_zero];rfl,OVec.nil _ _ _ _ _ _,by simp only[digs_zero];exact OVec.nil _ _ _ _ _ _,by simp only[digs_zero];exact OVec.nil _ _ _ _ _ _,be⟩
    refine Df Q rfl rfl ?_
    have ah:=(a6.le (C.trans (z.trans (f.trans (j.trans l)))))
    refine Wg (.loadB (v:= .int .i64 (a)) na3 rfl ah rfl) rfl (W.efg rfl rfl rfl (rfl) rfl rfl (Ef.call go114 rfl rfl (rtwithin_ok a 1 1125899906842624 bb) ?_))
    rintro _ bf ⟨rfl,e⟩
    refine⟨_,rfl,?_⟩
    have aJ:=ap.trans e
    refine Wn 2 rfl ?_
    by_cases ab:(inB a 1 1125899906842624)=true
    ·refine Wa (.dec (.move rfl) (congrArg not (ab))) rfl ?_
     have ai:=(a8.le (z.trans (f.trans (j.trans (l.trans e)))))
     refine Wg (.loadB (v:= .int .i64 (x)) na3 rfl ai rfl) rfl (W.efg rfl rfl rfl (rfl) rfl rfl (Ef.call go114 rfl rfl (rtwithin_ok x 1 1048576 bf) ?_))
     rintro _ bX ⟨rfl,b⟩
     refine⟨_,rfl,?_⟩
     have aj:=aJ.trans b
     refine Wn 2 rfl (Nx ?_)
     by_cases c0:(inB x 1 1048576)=true
     ·refine Cn rfl (congrArg not (c0)) ?_
      have hbad:badR g fr to a x=false:=by unfold badR;simp[K,O,P,Q,ab,c0]
      have hft:=(bad_T hbad).2.2.2.1
      refine Sn (Sr (W.ef rfl rfl rfl (Ef.allocA z190 fun t bg ar (au:Blk bg t 190 #[.slice none 0 0,.slice none 0 0,.slice none 0 0,.int .i64 (0)]) o=>?_)))
      have aK:=aj.trans o
      refine Nx (Sr (W.ef rfl rfl rfl (Ef.alloc z191 fun R bh aL (bi:Blk bh R 191 #[.nilFunc]) u=>(Nx (Sr (Wa (.makeFunc rfl) rfl (W.ef0 rfl rfl (Ef.store sz191 rfl rfl bi (by first|decide|(simp;done)) (rfl) ?_))))))))
      intro ak al y
      have al:Blk ak R 191 #[.func (.func 115) #[] #[.pointer (some ⟨U,0,none⟩),.pointer (some ⟨Z,0,none⟩),.pointer (some ⟨aa,0,none⟩),.pointer (some ⟨t,0,none⟩),.pointer (some ⟨X,0,none⟩),.pointer (some ⟨T,0,none⟩),.pointer (some ⟨Y,0,none⟩),.pointer (some ⟨R,0,none⟩)]]:=al
      have ac:=(aK.trans u).tb y aK aL
      refine Nx (Sr (Wr (.loadB (v:= .func (.func 115) #[] #[.pointer (some ⟨U,0,none⟩),.pointer (some ⟨Z,0,none⟩),.pointer (some ⟨aa,0,none⟩),.pointer (some ⟨t,0,none⟩),.pointer (some ⟨X,0,none⟩),.pointer (some ⟨T,0,none⟩),.pointer (some ⟨Y,0,none⟩),.pointer (some ⟨R,0,none⟩)]) na191 rfl al rfl) rfl ?_))
      have aM:=((af.le (e.trans (b.trans (o.trans u)))).cn y (by have:=af.lt;have:=e.size;have:=b.size;have:=o.size;omega))
      refine Wr (.loadB (v:= .int .i64 (to)) na3 rfl aM rfl) rfl ?_
      have bj:=((ao.le (L.trans (I.trans (H.trans (C.trans (z.trans (f.trans (j.trans (l.trans (e.trans (b.trans (o.trans u)))))))))))).cn y (by have:=ao.lt;have:=L.size;have:=I.size;have:=H.size;have:=C.size;have:=z.size;have:=f.size;have:=j.size;have:=l.size;have:=e.size;have:=b.size;have:=o.size;omega))
      have bk:=((ah.le (e.trans (b.trans (o.trans u)))).cn y (by have:=ah.lt;have:=e.size;have:=b.size;have:=o.size;omega))
      have bl:=((ai.le (b.trans (o.trans u))).cn y (by have:=ai.lt;have:=b.size;have:=o.size;omega))
      have bm:=((au.le u).cn y (by have:=au.lt;omega))
      have bn:=((ae.le (e.trans (b.trans (o.trans u)))).cn y (by have:=ae.lt;have:=e.size;have:=b.size;have:=o.size;omega))
      have bo:=((f8.le (f.trans (j.trans (l.trans (e.trans (b.trans (o.trans u))))))).cn y (by have:=f8.lt;have:=f.size;have:=j.size;have:=l.size;have:=e.size;have:=b.size;have:=o.size;omega))
      have bp:=((hP.le (ad.trans (V.trans (L.trans (I.trans (H.trans (C.trans (z.trans (f.trans (j.trans (l.trans (e.trans (b.trans (o.trans u)))))))))))))).ch y (fun q hqq hF=>by cases hqq;have:=hP.lt hF;have:=ad.size;have:=V.size;have:=L.size;have:=I.size;have:=H.size;have:=C.size;have:=z.size;have:=f.size;have:=j.size;have:=l.size;have:=e.size;have:=b.size;have:=o.size;have:=aL;omega))
      have bq:LookE ak base gp F m A n c g fr to a x U Z aa t X T Y R:=⟨bj,bk,bl,bn,bo,aM,al,bp,(hV.le ac),(show U≠t from by have:=ao.lt;have:=L.size;have:=I.size;have:=H.size;have:=C.size;have:=z.size;have:=f.size;have:=j.size;have:=l.size;have:=e.size;have:=b.size;omega),(show Z≠t from by have:=ah.lt;have:=e.size;have:=b.size;omega),(show aa≠t from by have:=ai.lt;have:=b.size;omega),(show X≠t from by have:=ae.lt;have:=e.size;have:=b.size;omega),(show T≠t from by have:=f8.lt;have:=f.size;have:=j.size;have:=l.size;have:=e.size;have:=b.size;omega),(show Y≠t from by have:=af.lt;have:=e.size;have:=b.size;omega),(show R≠t from by have:=au.lt;omega),(fun k hk he=>(show¬F t from(fun hF=>by have:=hP.lt hF;have:=ad.size;have:=V.size;have:=L.size;have:=I.size;have:=H.size;have:=C.size;have:=z.size;have:=f.size;have:=j.size;have:=l.size;have:=e.size;have:=b.size;have:=ar;omega)) (he▸hk)),(fun q h1 h2 _ he=>by have:=hV.blk_lt edgeV_row h2 h1;have:=aj.size;have:=ar;omega),hn⟩
      have bt:=look_ok 9 [] (by decide) to noFnd ak bq (bs:=ak.heap.size) (Nat.le_refl _) (OVec.nil _ _ _ _ _ _) (by decide) (fun _=>rfl) (fun _ h=>hft h.symm) (by simp[rowOf]) (best_none bm)
      refine W.ef rfl rfl rfl (Ef.callC go115 rfl rfl rfl (bt) ?_)
      rintro _ bY ⟨rfl,⟨am,aO,aP,aQ,aR,aS,aT,av,aU,aV,bu,bZ,b0,b1⟩,aw⟩
      refine⟨_,rfl,?_⟩
      have aW:=ac.chP_then aw (fun i hi=>(by subst hi;exact Nat.le_trans aj.size ar))
      refine Nx (Sq (Sr (Wa (.field0 fa190_0 rfl) rfl (Wr (.loadB (v:= .slice am ((lookR g m fr to a x 9 [] to noFnd).way.length) aO) na32 rfl aT rfl) rfl (Wa (.isNil underlying32 rfl) rfl (Nx ?_))))))
      by_cases c1:am.isNone=true
      ·refine Cy rfl (c1) (Sr (Wa (.buildP [.slice none 0 0,.slice none 0 0] pl61 z61 rfl rfl) rfl (Wn 1 rfl (W.sA sz61 rfl rfl (((s.le (f.trans (j.trans (l.trans (e.trans (b.trans (o.trans u))))))).cn y (by have:=s.lt;have:=f.size;have:=j.size;have:=l.size;have:=e.size;have:=b.size;have:=o.size;omega)).chP aw (fun hF=>(show D≠t from by have:=s.lt;have:=f.size;have:=j.size;have:=l.size;have:=e.size;have:=b.size;omega) hF)) ?_))))
       intro bv ax bw
       have ax:Blk bv D 61 #[.slice none 0 0,.slice none 0 0]:=ax
       have bx:=aW.tb bw J N
       refine Wn 1 rfl (Nx (Rt (E.thenR (E.retG3 rfl rfl (resA rfl ax ag61 (by rfl)) rfl ?_))))
       rw[bestR_none hbad (Decidable.byContradiction fun hh=>by have hs:=av.vec.isSome edgeV_row (List.length_pos_iff.2 hh);have hc:=c1;revert hc hs;cases am<;>simp)]
       exact⟨none,0,none,0,none,0,by simp only[digs_zero];rfl,OVec.nil _ _ _ _ _ _,by simp only[digs_zero];exact OVec.nil _ _ _ _ _ _,by simp only[digs_zero];exact OVec.nil _ _ _ _ _ _,bx⟩
      refine Cn rfl ((Bool.eq_false_iff.2 c1)) (Sn (Sq (WC.draw [0,1,2,3,4,5,6] mixed (by kernel_rfl) fun w9 S=>(Ga rfl (.field0 fa190_0 rfl) ?_))))
      have aX:=(aT.le S)
      refine Gd rfl (.loadB (v:= .slice am ((lookR g m fr to a x 9 [] to noFnd).way.length) aO) na32 rfl aX rfl) (Ga rfl (.field0 fa190_1 rfl) (Gd rfl (.bpart [.slice aP ((digs (lookR g m fr to a x 9 [] to noFnd).odds.n).length) aQ,.slice aR ((digs (lookR g m fr to a x 9 [] to noFnd).odds.d).length) aS] ag61 rfl (by decide) rfl aX rfl) (Gn 1 rfl ?_)))
      have bz:=((((s.le (f.trans (j.trans (l.trans (e.trans (b.trans (o.trans u))))))).cn y (by have:=s.lt;have:=f.size;have:=j.size;have:=l.size;have:=e.size;have:=b.size;have:=o.size;omega)).chP aw (fun hF=>(show D≠t from by have:=s.lt;have:=f.size;have:=j.size;have:=l.size;have:=e.size;have:=b.size;omega) hF)).le S)
      refine G.ef0 rfl rfl rfl rfl (Ef.storeAll sz61 (by rfl) rfl rfl bz (by rfl) (by simp[Value.oneCell']) ?_)
      intro bA ay an
      refine noT (by kernel_rfl) ?_
      have ay:Blk bA D 61 #[.slice aP ((digs (lookR g m fr to a x 9 [] to noFnd).odds.n).length) aQ,.slice aR ((digs (lookR g m fr to a x 9 [] to noFnd).odds.d).length) aS]:=ay
      refine Gn 1 rfl (G.nil (E.thenN (Rt ?_)))
      have bB:=((aV.le S).cb an (aV.rl (by have:=s.lt;have:=f.size;have:=j.size;have:=l.size;have:=e.size;have:=b.size;have:=o.size;have:=u.size;have:=y.size;omega)))
      refine E.retG3 rfl rfl (resA rfl ay ag61 (by rfl)) rfl ?_
      rw[bestR_some hbad (fun hh=>c1 (by rw[bu hh];rfl))]
      exact⟨_,_,_,_,_,_,rfl,(((av.le S).cb an (av.rl (by have:=s.lt;have:=f.size;have:=j.size;have:=l.size;have:=e.size;have:=b.size;have:=o.size;have:=u.size;have:=y.size;omega))).mono ac.size),(((aU.le S).cb an (aU.rl (by have:=s.lt;have:=f.size;have:=j.size;have:=l.size;have:=e.size;have:=b.size;have:=o.size;have:=u.size;have:=y.size;omega))).mono ac.size),(bB.mono ac.size),((aW.trans S).tb an J N)⟩
     refine Cy rfl (congrArg not ((Bool.eq_false_iff.2 c0))) (Sr (Wa (.buildP [.slice none 0 0,.slice none 0 0] pl61 z61 rfl rfl) rfl (Wn 1 rfl (W.sA sz61 rfl rfl (s.le (f.trans (j.trans (l.trans (e.trans b))))) ?_))))
     intro bC az bD
     have az:Blk bC D 61 #[.slice none 0 0,.slice none 0 0]:=az
     have bE:=aj.tb bD J N
     refine Wn 1 rfl (Nx (Rt (E.thenR (E.retG3 rfl rfl (resA rfl az ag61 (by rfl)) rfl ?_))))
     rw[bestR_bad (by unfold badR;simp[K,O,P,Q,ab,c0])]
     exact⟨none,0,none,0,none,0,by simp only[digs_zero];rfl,OVec.nil _ _ _ _ _ _,by simp only[digs_zero];exact OVec.nil _ _ _ _ _ _,by simp only[digs_zero];exact OVec.nil _ _ _ _ _ _,bE⟩
    refine Wa (.dec (.move rfl) (congrArg not ((Bool.eq_false_iff.2 ab)))) rfl (Wn 4 rfl (Nx (WC.condT rfl (Sr (Wa (.buildP [.slice none 0 0,.slice none 0 0] pl61 z61 rfl rfl) rfl (Wn 1 rfl (W.sA sz61 rfl rfl (s.le (f.trans (j.trans (l.trans e)))) ?_)))))))
    intro bF aA bG
    have aA:Blk bF D 61 #[.slice none 0 0,.slice none 0 0]:=aA
    have bH:=aJ.tb bG J N
    refine Wn 1 rfl (Nx (Rt (E.thenR (E.retG3 rfl rfl (resA rfl aA ag61 (by rfl)) rfl ?_))))
    rw[bestR_bad (by unfold badR;simp[K,O,P,Q,ab])]
    exact⟨none,0,none,0,none,0,by simp only[digs_zero];rfl,OVec.nil _ _ _ _ _ _,by simp only[digs_zero];exact OVec.nil _ _ _ _ _ _,by simp only[digs_zero];exact OVec.nil _ _ _ _ _ _,bH⟩
   refine Wa (.dec (.move rfl) (congrArg not ((Bool.eq_false_iff.2 P)))) rfl (Wn 14 rfl (Nx (WC.condT rfl (Sr (Wa (.buildP [.slice none 0 0,.slice none 0 0] pl61 z61 rfl rfl) rfl (Wn 1 rfl (W.sA sz61 rfl rfl (s.le (f.trans (j.trans l))) ?_)))))))
   intro bI aB bJ
   have aB:Blk bI D 61 #[.slice none 0 0,.slice none 0 0]:=aB
   have bK:=ap.tb bJ J N
   refine Wn 1 rfl (Nx (Rt (E.thenR (E.retG3 rfl rfl (resA rfl aB ag61 (by rfl)) rfl ?_))))
   rw[bestR_bad (by unfold badR;simp[K,O,P])]
   exact⟨none,0,none,0,none,0,by simp only[digs_zero];rfl,OVec.nil _ _ _ _ _ _,by simp only[digs_zero];exact OVec.nil _ _ _ _ _ _,by simp only[digs_zero];exact OVec.nil _ _ _ _ _ _,bK⟩
  refine Wa (.dec (.move rfl) (congrArg not ((Bool.eq_false_iff.2 O)))) rfl (Wn 19 rfl (Nx (WC.condT rfl (Sr (Wa (.buildP [.slice none 0 0,.slice none 0 0] pl61 z61 rfl rfl) rfl (Wn 1 rfl (W.sA sz61 rfl rfl (s.le (f.trans j)) ?_)))))))
  intro bL aC bM
  have aC:Blk bL D 61 #[.slice none 0 0,.slice none 0 0]:=aC
  have bN:=aH.tb bM J N
  refine Wn 1 rfl (Nx (Rt (E.thenR (E.retG3 rfl rfl (resA rfl aC ag61 (by rfl)) rfl ?_))))
  rw[bestR_bad (by unfold badR;simp[K,O])]
  exact⟨none,0,none,0,none,0,by simp only[digs_zero];rfl,OVec.nil _ _ _ _ _ _,by simp only[digs_zero];exact OVec.nil _ _ _ _ _ _,by simp only[digs_zero];exact OVec.nil _ _ _ _ _ _,bN⟩
 refine Wa (.dec (.move rfl) (congrArg not ((Bool.eq_false_iff.2 K)))) rfl (Wn 24 rfl (Nx (WC.condT rfl (Sr (Wa (.buildP [.slice none 0 0,.slice none 0 0] pl61 z61 rfl rfl) rfl (Wn 1 rfl (W.sA sz61 rfl rfl (s.le f) ?_)))))))
 intro bO aE bP
 have aE:Blk bO D 61 #[.slice none 0 0,.slice none 0 0]:=aE
 have bQ:=L9.tb bP J N
 refine Wn 1 rfl (Nx (Rt (E.thenR (E.retG3 rfl rfl (resA rfl aE ag61 (by rfl)) rfl ?_))))
 rw[bestR_bad (by unfold badR;simp[K])]
 exact⟨none,0,none,0,none,0,by simp only[digs_zero];rfl,OVec.nil _ _ _ _ _ _,by simp only[digs_zero];exact OVec.nil _ _ _ _ _ _,by simp only[digs_zero];exact OVec.nil _ _ _ _ _ _,bQ⟩
end Go.Proofs.YtocheaahlpiajaaGreatDoor

namespace Go.Proofs.YtocheaahlpiajaaGreatDoor
open Tryz
open Go Go.Sx Go.Num Go.Gsp Go.Nsp Go.Msp Go.Rtp
set_option maxRecDepth 20000
theorem apart_vec {α:Type}{w:World}{base e s:Nat}{f:α->List Value}{A:Option Addr}{m c:Nat}{xs:List α}{F:Nat->Prop}(h:OVec w base e f s A m c xs)(hn:∀g,rowOf A c=some g->¬F g):∀q,blkOf A=some q->0<m->q<w.heap.size->¬F q:=by
  intro q b d _
  have:=h.cap.1
  exact hn q (by unfold rowOf;rw[if_neg (by omega)];exact b)
theorem getD_in {α:Type}{l:List α}{z:α}{k:Nat}(h:k<l.length):l.getD k z∈l:=by
  have:l.getD k z=l[k]:=by simp[List.getD,h]
  rw[this];exact List.getElem_mem h
theorem rledge_ok (c f t:Int)(w:World):Calls prog 121 #[.int .i64 (c),.int .i64 (f),.int .i64 (t)] w fun r w'=>r= .returned (.agg (edgeV ⟨f,t,c,1000,⟨1,0,5,1,1000⟩⟩).toArray)/\Le w w':=by
 refine enter func121 rfl rfl ?_
 have d:=Le.refl w
 refine Sr (W.ef rfl rfl rfl (Ef.allocA z81 fun e h i (j:Blk h e 81 (edgeV noEdge).toArray) k=>(Nx (Sr (Wn 3 rfl (Wa (.buildP (polV (⟨1,0,5,1,1000⟩)) pl79 z79 rfl rfl) rfl (Wa (.buildP (edgeV (⟨f,t,c,1000,⟨1,0,5,1,1000⟩⟩)) pl81 z81 rfl rfl) rfl (W.ef0 rfl rfl ?_))))))))
 refine Ef.storeAll sz81 (by rfl) rfl rfl j (by simp only[List.size_toArray,edgeV_row.len]) (edgeV_row.one (⟨f,t,c,1000,⟨1,0,5,1,1000⟩⟩)) ?_
 intro l b m
 have b:Blk l e 81 (edgeV (⟨f,t,c,1000,⟨1,0,5,1,1000⟩⟩)).toArray:=b
 refine Nx (Rt (E.retG1 rfl (resA rfl b ag81 (by rfl)) ?_))
 exact⟨rfl,((d.trans k).tb m d i)⟩

end Go.Proofs.YtocheaahlpiajaaGreatDoor

