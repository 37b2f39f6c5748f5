/- SplitPeeled: for every input the law answers true and leaves its arguments as they were. -/
import Derived.Test.YtocheaahlpiajaaGreatDoorSplitPeeledP
import Derived.Laws.Cover3
set_option linter.unusedVariables false
set_option linter.unusedSimpArgs false
namespace Go.Sx
theorem Any.notNil {P:Program}{env:Env}{n:Nat}{d:Option Nat}{T:TypeId}{p:String}{af:Array Edge}{gd:Option (Nat×Bool)}{t e ty:TypeId}{x:Operand}{A:Option Addr}{l c:Nat}(ht:P.underlying t=some (.slice e))(hx:ev env x=some (.slice A l c)):
    Any P env n ⟨d,.binOp .neq t x (.const (.slice none 0 0)) ty,T,p,af,gd⟩ (.bool !A.isNone):=
  .bin hx rfl (fun _=>rfl) fun w=>run_neq_slice_nil w t e A l c ht
end Go.Sx
namespace Go.Proofs.YtocheaahlpiajaaGreatDoor
open Tryz
open Go Go.Sx Go.Num Go.Gsp Go.Nsp Go.Msp Go.Rtp
set_option maxRecDepth 20000
set_option maxHeartbeats 4000000
def BestC (w:World)(bs gb:Nat)(b:Fnd)(Aw:Option Addr)(cw:Nat)(An:Option Addr)(cn:Nat)(Ad:Option Addr)(cd:Nat):Prop:=
  Blk w gb 190 #[.slice Aw b.way.length cw,.slice An (digs b.odds.n).length cn,.slice Ad (digs b.odds.d).length cd,.int .i64 b.sent]/\OVec w bs 81 edgeV 9 Aw b.way.length cw b.way/\OVec w bs 273 dv 1 An (digs b.odds.n).length cn (digs b.odds.n)/\OVec w bs 273 dv 1 Ad (digs b.odds.d).length cd (digs b.odds.d)/\(b.way=[]->Aw=none)/\b.way.length<=8/\(digs b.odds.n).length<=100/\(digs b.odds.d).length<=100
def BestAt (w:World)(bs gb:Nat)(b:Fnd):Prop:=∃Aw cw An cn Ad cd,BestC w bs gb b Aw cw An cn Ad cd
structure LookE (w:World)(base gp:Nat)(F:Nat->Prop)(m:MF)(Ag:Option Addr)(ng cg:Nat)(g:List Gsp.Edge)(fr to a x:Int)(b2 b3 b4 gb b6 b7 b8 b9:Nat):Prop where
  h2:Blk w b2 55 #[.pointer (some ⟨gp,0,none⟩)]
  h3:Blk w b3 3 #[.int .i64 a]
  h4:Blk w b4 3 #[.int .i64 x]
  h6:Blk w b6 3 #[.int .i64 fr]
  h7:Blk w b7 32 #[.slice Ag ng cg]
  h8:Blk w b8 3 #[.int .i64 to]
  h9:Blk w b9 191 #[.func (.func 115) #[] #[.pointer (some ⟨b2,0,none⟩),.pointer (some ⟨b3,0,none⟩),.pointer (some ⟨b4,0,none⟩),.pointer (some ⟨gb,0,none⟩),.pointer (some ⟨b6,0,none⟩),.pointer (some ⟨b7,0,none⟩),.pointer (some ⟨b8,0,none⟩),.pointer (some ⟨b9,0,none⟩)]]
  hP:MPool w base gp F m
  hg:Vec w edgeV 9 Ag ng g
  n2:b2≠gb
  n3:b3≠gb
  n4:b4≠gb
  n6:b6≠gb
  n7:b7≠gb
  n8:b8≠gb
  n9:b9≠gb
  hPg:∀k,F k->¬k=gb
  hgg:∀q,blkOf Ag=some q->0<ng->q<w.heap.size->¬q=gb
  hng:ng<=1000000
theorem LookE.chP {w w':World}{base gp:Nat}{F:Nat->Prop}{m:MF}{Ag:Option Addr}{ng cg:Nat}{g:List Gsp.Edge}{fr to a x:Int}{b2 b3 b4 gb b6 b7 b8 b9:Nat}(h:LookE w base gp F m Ag ng cg g fr to a x b2 b3 b4 gb b6 b7 b8 b9)(hc:ChP w w' (fun k=>k=gb)):LookE w' base gp F m Ag ng cg g fr to a x b2 b3 b4 gb b6 b7 b8 b9:=
  ⟨h.h2.chP hc h.n2,h.h3.chP hc h.n3,h.h4.chP hc h.n4,h.h6.chP hc h.n6,h.h7.chP hc h.n7,h.h8.chP hc h.n8,h.h9.chP hc h.n9,h.hP.chP hc h.hPg,h.hg.chP hc h.hgg,h.n2,h.n3,h.n4,h.n6,h.n7,h.n8,h.n9,h.hPg,fun q b c _=>h.hgg q b c (h.hg.blk_lt edgeV_row c b),h.hng⟩
theorem lookR_cut {g:List Gsp.Edge}{m:MF}{fr to a x:Int}{k:Nat}{way:List Gsp.Edge}{at_:Int}{b:Fnd}(h:cutR way (oddsR m way a x) b):lookR g m fr to a x (k+1) way at_ b=b:=by rw[lookR,if_pos h]
theorem lookR_new {g:List Gsp.Edge}{m:MF}{fr to a x:Int}{k:Nat}{way:List Gsp.Edge}{at_:Int}{b:Fnd}(h:¬cutR way (oddsR m way a x) b)(h1:at_=fr)(h2:b.way=[]\/betterR (fndR way (oddsR m way a x)) b=true):lookR g m fr to a x (k+1) way at_ b=fndR way (oddsR m way a x):=by rw[lookR,if_neg h,if_pos h1,if_pos h2]
theorem lookR_old {g:List Gsp.Edge}{m:MF}{fr to a x:Int}{k:Nat}{way:List Gsp.Edge}{at_:Int}{b:Fnd}(h:¬cutR way (oddsR m way a x) b)(h1:at_=fr)(h2:¬(b.way=[]\/betterR (fndR way (oddsR m way a x)) b=true)):lookR g m fr to a x (k+1) way at_ b=b:=by rw[lookR,if_neg h,if_pos h1,if_neg h2]
theorem lookR_end {g:List Gsp.Edge}{m:MF}{fr to a x:Int}{k:Nat}{way:List Gsp.Edge}{at_:Int}{b:Fnd}(h:¬cutR way (oddsR m way a x) b)(h1:at_≠fr)(h2:way.length=8):lookR g m fr to a x (k+1) way at_ b=b:=by rw[lookR,if_neg h,if_neg h1,if_pos h2]
theorem lookR_go {g:List Gsp.Edge}{m:MF}{fr to a x:Int}{k:Nat}{way:List Gsp.Edge}{at_:Int}{b:Fnd}(h:¬cutR way (oddsR m way a x) b)(h1:at_≠fr)(h2:way.length≠8):lookR g m fr to a x (k+1) way at_ b=(inG g at_).foldl (stepR (lookR g m fr to a x k) way to) b:=by rw[lookR,if_neg h,if_neg h1,if_neg h2]
theorem not_cut1 {way:List Gsp.Edge}{r:Fr×Int×Int}{b:Fnd}{n:Nat}(h:¬0<((n:Nat):Int))(hl:way.length=n):¬cutR way r b:=fun hc=>hc.1 (List.eq_nil_of_length_eq_zero (by omega))
theorem not_cut2 {way:List Gsp.Edge}{r:Fr×Int×Int}{b:Fnd}(h1:¬r.2.2≠0)(h2:¬(((digs r.1.n).length:Nat):Int)=0)(h3:b.way=[]\/¬cmpF (takF r.1) (takF b.odds)<0):¬cutR way r b:=by
  rintro⟨_,h|h|h⟩
  · exact h1 h
  · rw[h,digs_zero]at h2;exact h2 rfl
  · rcases h3 with k|k
    · exact h.1 k
    · exact k h.2
theorem cut_of {way:List Gsp.Edge}{r:Fr×Int×Int}{b:Fnd}{n:Nat}(h:0<((n:Nat):Int))(hl:way.length=n)(hc:r.2.2≠0\/(((digs r.1.n).length:Nat):Int)=0\/(b.way≠[]/\cmpF (takF r.1) (takF b.odds)<0)):cutR way r b:=by
  refine⟨fun hh=>by rw[hh]at hl;simp at hl;omega,?_⟩
  rcases hc with k|k|k
  · exact .inl k
  · exact .inr (.inl (Nat.eq_zero_of_not_pos fun hp=>by have:=digs_len_pos hp;omega))
  · exact .inr (.inr k)
theorem fold_next {α:Type}{f:Fnd->α->Fnd}{b:Fnd}{l:List α}{z:α}{k:Nat}(hk:k<l.length):(l.take (k+1)).foldl f b=f ((l.take k).foldl f b) (l.getD k z):=by
  rw[List.take_add_one,List.foldl_append]
  simp[List.getD,hk]
theorem seen_ok (y:Gsp.Edge){ge:Nat}{e:Gsp.Edge}(w:World)(hge:Blk w ge 81 (edgeV e).toArray):Calls prog 120 #[.agg (edgeV y).toArray,.pointer (some ⟨ge,0,none⟩)] w fun r w'=>r= .returned (.bool (decide (y.f=e.f)))/\Le w w':=by
 refine enter func120 rfl rfl (Sr (W.ef rfl rfl rfl (Ef.boxA rfl fun c d j (h:Blk d c 81 (edgeV y).toArray) i=>?_)))
 have b:=(Le.refl w).trans i
 refine Wn 1 rfl (Nx (Sr (Wa (.field0 fa81_0 rfl) rfl (Wr (.loadB (v:= .int .i64 (y.f)) na3 rfl h rfl) rfl (Wa (.field0 fa81_0 rfl) rfl (Wr (.loadB (v:= .int .i64 (e.f)) na3 rfl (hge.le b) rfl) rfl (Wn 2 rfl (Nx (Rt ?_)))))))))
 refine E.retG1 rfl rfl ?_
 exact⟨rB (by simp[]),b⟩

theorem rtcontains_ok {A:Option Addr}{n c:Nat}{xs:List Gsp.Edge}{F:Nat}{caps:Array Value}(pr:Gsp.Edge->Bool)(hgo:IsGo prog F)(w:World)(hV:Vec w edgeV 9 A n xs)(hn:n<=1000000)(hf:∀(e:Gsp.Edge) (w1:World),Le w w1->Calls prog F (#[.agg (edgeV e).toArray]++caps) w1 fun r w2=>r= .returned (.bool (pr e))/\Le w1 w2):Calls prog 119 #[.slice A n c,.func (.func F) #[] caps] w fun r w'=>r= .returned (.bool (xs.any pr))/\Le w w':=by
 refine enter func119 rfl rfl ?_
 have b:=Le.refl w
 refine Sr (Wn 1 rfl (Nx (Sr (Wn 2 rfl (W.cl go221 rfl rfl (index_ok pr hgo w (hV.le b) (by omega) (fun e w1 hl=>hf e w1 (b.trans hl))) ?_)))))
 rintro _ f ⟨rfl,d⟩
 refine Wn 2 rfl (Nx (Rt (E.retG1 rfl rfl ?_)))
 exact⟨rB (by unfold idxE;cases hx:xs.any pr<;>simp),(b.trans d)⟩

theorem look_step {bs base gp ng cg b2 b3 b4 gb b6 b7 b8 b9:Nat}{F:Nat->Prop}{m:MF}{Ag:Option Addr}{g:List Gsp.Edge}{fr to a x:Int}{k:Nat}{A:Option Addr}{n c:Nat}{way:List Gsp.Edge}(at_:Int){b:Fnd}{Aw An Ad:Option Addr}{cw cn cd:Nat}(w:World)(hE:LookE w base gp F m Ag ng cg g fr to a x b2 b3 b4 gb b6 b7 b8 b9)(ih:∀(way':List Gsp.Edge) {A':Option Addr} {n' c':Nat} (hk1:1<=k) (at':Int) (b':Fnd) (w1:World),ChP w w1 (fun k=>k=gb)->OVec w1 bs 81 edgeV 9 A' n' c' way'->n'+k=9->1<=n'->rowOf A' c'≠some gb->BestAt w1 bs gb b'->Calls prog 115 #[.slice A' n' c',.int .i64 at',.pointer (some ⟨b2,0,none⟩),.pointer (some ⟨b3,0,none⟩),.pointer (some ⟨b4,0,none⟩),.pointer (some ⟨gb,0,none⟩),.pointer (some ⟨b6,0,none⟩),.pointer (some ⟨b7,0,none⟩),.pointer (some ⟨b8,0,none⟩),.pointer (some ⟨b9,0,none⟩)] w1 fun r w2=>r= .returned (.tuple #[])/\BestAt w2 bs gb (lookR g m fr to a x k way' at' b')/\ChP w1 w2 (fun k=>k=gb))(hbs0:bs<=w.heap.size)(hW:OVec w bs 81 edgeV 9 A n c way)(hWg:rowOf A c≠some gb)(hnk:n+k=8)(hB:BestC w bs gb b Aw cw An cn Ad cd)(hWn:n=0->A=none)(hfr:n=0->at_≠fr):Calls prog 115 #[.slice A n c,.int .i64 (at_),.pointer (some ⟨b2,0,none⟩),.pointer (some ⟨b3,0,none⟩),.pointer (some ⟨b4,0,none⟩),.pointer (some ⟨gb,0,none⟩),.pointer (some ⟨b6,0,none⟩),.pointer (some ⟨b7,0,none⟩),.pointer (some ⟨b8,0,none⟩),.pointer (some ⟨b9,0,none⟩)] w fun r w'=>r= .returned (.tuple #[])/\BestAt w' bs gb (lookR g m fr to a x (k+1) way at_ b)/\ChP w w' (fun k=>k=gb):=by
 obtain⟨ah,hBw,hBn,hBd,hBe,hBl,hBm,hBo⟩:=hB
 have hgm:=hE.hP.good
 have hol:=oddsR_len hgm way a x
 have hwl:=hW.vec.1
 have hng:=hE.hng
 have hbn:Aw.isNone=true->b.way=[]:=fun h=>Decidable.byContradiction fun hh=>by have:=hBw.vec.isSome edgeV_row (List.length_pos_iff.2 hh);revert h this;cases Aw<;>simp
 have hbs:¬Aw.isNone=true->b.way≠[]:=fun h hh=>h (by rw[hBe hh];rfl)
 have hgl:=hE.hg.1
 have hfl:=List.length_filter_le (fun e=>decide (e.t=at_)) g
 refine enter func115 rfl rfl ?_
 have L0:=ChP.refl w ((fun k=>k=gb))
 refine Sr (Wr (.loadB (v:= .pointer (some ⟨gp,0,none⟩)) na55 rfl (hE.h2.chP L0 hE.n2) rfl) rfl (Wn 1 rfl (Wr (.loadB (v:= .int .i64 (a)) na3 rfl (hE.h3.chP L0 hE.n3) rfl) rfl (Wr (.loadB (v:= .int .i64 (x)) na3 rfl (hE.h4.chP L0 hE.n4) rfl) rfl (W.cl go116 rfl rfl (rodds_ok a x w (hE.hP.chP L0 hE.hPg) hW.vec (by omega)) ?_)))))
 rintro _ fH ⟨al,am,aq,ar,rfl,an,ao,o⟩
 have L1:=L0.le o
 refine Wn 1 rfl (Wa (.extract (v:= .agg #[.slice al ((digs ((oddsR m way a x).1.n)).length) am,.slice aq ((digs ((oddsR m way a x).1.d)).length) ar]) rfl rfl) rfl (Wn 2 rfl (W.ef rfl rfl rfl (Ef.allocA z61 fun bV c7 c8 (c9:Blk c7 bV 61 #[.slice none 0 0,.slice none 0 0]) C=>?_))))
 have L2:=L1.le C
 refine W.sA sz61 rfl rfl c9 ?_
 intro aE aQ D
 have aQ:Blk aE bV 61 #[.slice al ((digs ((oddsR m way a x).1.n)).length) am,.slice aq ((digs ((oddsR m way a x).1.d)).length) ar]:=aQ
 have L3:ChP w aE ((fun k=>k=gb)):=L2.ch D (fun i hi hlt=>by cases hi;exact absurd hlt (by have:=L1.size;have:=c8;omega))
 refine Wn 2 rfl (Nx (Sq (Sr (Wn 1 rfl (Wr (.len underlying32 rfl) rfl (Wn 1 rfl ?_))))))
 by_cases H:0<((n:Nat):Int)
 ·refine Dt H rfl rfl (Wn 2 rfl ?_)
  by_cases s:((oddsR m way a x).2.2)≠0
  ·refine Wg (Any.rd (.dec (.move rfl) (dT s)) _) rfl (Wn 4 rfl (Wg (Any.rd (.pickT rfl rfl rfl) _) rfl (Wn 5 rfl (W.skipu rfl rfl rfl rfl rfl (W.skipu rfl rfl rfl rfl rfl ?_)))))
   refine W.skipu rfl rfl rfl rfl rfl (W.skipu rfl rfl rfl rfl rfl (W.skipu rfl rfl rfl rfl rfl (Wn 1 rfl (Wg (Any.rd (.pickT rfl rfl rfl) _) rfl (Wn 1 rfl (Nx (WC.condT rfl (Rt (E.thenR ?_)))))))))
   refine E.ret0 rfl ?_
   have hlk:lookR g m fr to a x (k+1) way at_ b=b:=(by first|exact lookR_cut (cut_of H hwl (.inl s))|exact lookR_cut (cut_of H hwl (.inr (.inl u)))|exact lookR_cut (cut_of H hwl (.inr (.inr ⟨hbs I,L⟩)))|exact lookR_old (by first|exact not_cut1 H hwl|exact not_cut2 s u (.inl (hbn I))|exact not_cut2 s u (.inr L)) K (fun hh=>hh.elim (hbs I) c2)|exact lookR_old (by first|exact not_cut1 H hwl|exact not_cut2 s u (.inl (hbn I))|exact not_cut2 s u (.inr L)) K (fun hh=>hh.elim (hbs aj) c2)|exact lookR_end (by first|exact not_cut1 H hwl|exact not_cut2 s u (.inl (hbn I))|exact not_cut2 s u (.inr L)) K (by rw[hwl];omega))
   rw[hlk]
   exact⟨rfl,⟨_,_,_,_,_,_,((ah.le (o.trans C)).cn D (by have:=ah.lt;have:=o.size;omega)),((hBw.le (o.trans C)).cb D (hBw.rn (by have:=o.size;omega))),((hBn.le (o.trans C)).cb D (hBn.rn (by have:=o.size;omega))),((hBd.le (o.trans C)).cb D (hBd.rn (by have:=o.size;omega))),hBe,hBl,hBm,hBo⟩,L3⟩
  refine Wg (Any.rd (.dec (.move rfl) (dF s)) _) rfl (Wg (Any.rd (.field0 fa61_0 rfl) _) rfl (Wg (.loadB (v:= .slice al ((digs ((oddsR m way a x).1.n)).length) am) na59 rfl aQ rfl) rfl (Wg (.len underlying59 rfl) rfl (Wn 1 rfl (Wg (Any.rd (.pickF rfl rfl rfl) _) rfl ?_)))))
  by_cases u:(((digs ((oddsR m way a x).1.n)).length:Nat):Int)=0
  ·refine Wg (Any.rd (.dec (.move rfl) (dT u)) _) rfl (Wn 4 rfl (W.skipu rfl rfl rfl rfl rfl (W.skipu rfl rfl rfl rfl rfl (W.skipu rfl rfl rfl rfl rfl (W.skipu rfl rfl rfl rfl rfl ?_)))))
   refine W.skipu rfl rfl rfl rfl rfl (Wn 1 rfl (Wg (Any.rd (.pickT rfl rfl rfl) _) rfl (Wn 1 rfl (Nx (WC.condT rfl (Rt (E.thenR (E.ret0 rfl ?_))))))))
   have hlk:lookR g m fr to a x (k+1) way at_ b=b:=(by first|exact lookR_cut (cut_of H hwl (.inl s))|exact lookR_cut (cut_of H hwl (.inr (.inl u)))|exact lookR_cut (cut_of H hwl (.inr (.inr ⟨hbs I,L⟩)))|exact lookR_old (by first|exact not_cut1 H hwl|exact not_cut2 s u (.inl (hbn I))|exact not_cut2 s u (.inr L)) K (fun hh=>hh.elim (hbs I) c2)|exact lookR_old (by first|exact not_cut1 H hwl|exact not_cut2 s u (.inl (hbn I))|exact not_cut2 s u (.inr L)) K (fun hh=>hh.elim (hbs aj) c2)|exact lookR_end (by first|exact not_cut1 H hwl|exact not_cut2 s u (.inl (hbn I))|exact not_cut2 s u (.inr L)) K (by rw[hwl];omega))
   rw[hlk]
   exact⟨rfl,⟨_,_,_,_,_,_,((ah.le (o.trans C)).cn D (by have:=ah.lt;have:=o.size;omega)),((hBw.le (o.trans C)).cb D (hBw.rn (by have:=o.size;omega))),((hBn.le (o.trans C)).cb D (hBn.rn (by have:=o.size;omega))),((hBd.le (o.trans C)).cb D (hBd.rn (by have:=o.size;omega))),hBe,hBl,hBm,hBo⟩,L3⟩
  refine Wg (Any.rd (.dec (.move rfl) (dF u)) _) rfl (Wg (Any.rd (.field0 fa190_0 rfl) _) rfl ?_)
  have ap:=((ah.le (o.trans C)).cn D (by have:=ah.lt;have:=o.size;omega))
  refine Wg (.loadB (v:= .slice Aw b.way.length cw) na32 rfl ap rfl) rfl (Wg (Any.rd (.notNil underlying32 rfl) _) rfl ?_)
  by_cases I:Aw.isNone=true
  ·refine Wg (Any.rd (.dec (.move rfl) (congrArg not (I))) _) rfl (Wn 5 rfl (Wg (Any.rd (.pickF rfl rfl rfl) _) rfl (Wg (Any.rd (.pickF rfl rfl rfl) _) rfl (Wn 1 rfl (Nx (WC.condF rfl (Sn (Sq (Sr (Wn 1 rfl (Wr (.loadB (v:= .int .i64 (fr)) na3 rfl (hE.h6.chP L3 hE.n6) rfl) rfl ?_)))))))))))
   refine Wn 1 rfl (Nx ?_)
   by_cases K:at_=fr
   ·refine Cy rfl (dT K) (Sq (Sr (Wn 1 rfl (Wr (.loadAll ag61 (by rfl) rfl aQ) rfl ?_))))
    refine Wn 1 rfl (Wa (.buildP [.slice A n c,.slice al ((digs ((oddsR m way a x).1.n)).length) am,.slice aq ((digs ((oddsR m way a x).1.d)).length) ar,.int .i64 ((oddsR m way a x).2.1)] pl190 z190 rfl rfl) rfl (W.ef rfl rfl rfl (Ef.allocA z190 fun bW da db (dc:Blk da bW 190 #[.slice none 0 0,.slice none 0 0,.slice none 0 0,.int .i64 (0)]) aW=>?_)))
    have dd:=L3.le aW
    refine W.sA sz190 rfl rfl dc ?_
    intro bX bi aX
    have bi:Blk bX bW 190 #[.slice A n c,.slice al ((digs ((oddsR m way a x).1.n)).length) am,.slice aq ((digs ((oddsR m way a x).1.d)).length) ar,.int .i64 ((oddsR m way a x).2.1)]:=bi
    have de:ChP w bX ((fun k=>k=gb)):=dd.ch aX (fun i hi hlt=>by cases hi;exact absurd hlt (by have:=L3.size;have:=db;omega))
    refine Nx (Sr (Wa (.field0 fa190_0 rfl) rfl ?_))
    have bY:=((ap.le aW).cn aX (by have:=ap.lt;omega))
    refine Wr (.loadB (v:= .slice Aw b.way.length cw) na32 rfl bY rfl) rfl (Wa (.isNil underlying32 rfl) rfl (Wa (.dec (.move rfl) (I)) rfl (Wn 4 rfl (Nx (WC.condT rfl (WC.region (Wr (.loadAll ag190 (by rfl) rfl bi) rfl ?_)))))))
    refine W.sA sz190 rfl rfl bY ?_
    intro bZ bj a3
    have bj:Blk bZ gb 190 #[.slice A n c,.slice al ((digs ((oddsR m way a x).1.n)).length) am,.slice aq ((digs ((oddsR m way a x).1.d)).length) ar,.int .i64 ((oddsR m way a x).2.1)]:=bj
    have dg:ChP w bZ ((fun k=>k=gb)):=de.ch a3 (fun i hi _=>by cases hi;exact rfl)
    refine Nx (Rt (E.thenR ?_))
    have dh:=(((((hW.le (o.trans C)).cb D (hW.rn (by have:=o.size;omega))).le aW).cb aX (hW.rn (by have:=o.size;have:=C.size;have:=D.size;omega))).ch a3 (fun q hq=>by cases hq;exact hWg))
    refine E.ret0 rfl ?_
    have hnc:¬cutR way (oddsR m way a x) b:=(by first|exact not_cut1 H hwl|exact not_cut2 s u (.inl (hbn I))|exact not_cut2 s u (.inr L))
    have hwn:way≠[]:=fun hh=>by first|exact absurd ((congrArg List.length hh).symm.trans hwl) (by simp;omega)|exact absurd K (hfr (by omega))
    have hlk:lookR g m fr to a x (k+1) way at_ b=(fndR way (oddsR m way a x)):=lookR_new hnc K (by first|exact .inl (hbn I)|exact .inl (hbn aj)|exact .inr c2)
    rw[hlk]
    subst hwl
    exact⟨rfl,⟨_,_,_,_,_,_,bj,dh,((((((an.le C).cb D (an.rn (by omega))).le aW).cb aX (an.rn (by have:=C.size;have:=D.size;omega))).cb a3 (an.rl (by have:=ah.lt;omega))).mono hbs0),((((((ao.le C).cb D (ao.rn (by omega))).le aW).cb aX (ao.rn (by have:=C.size;have:=D.size;omega))).cb a3 (ao.rl (by have:=ah.lt;omega))).mono hbs0),fun h=>absurd h hwn,(show way.length<=8 by omega),hol.1,hol.2⟩,dg⟩
   refine Cn rfl (dF K) (Sn (Sq (Sr (Wn 1 rfl (Wr (.len underlying32 rfl) rfl (Wn 1 rfl (Nx ?_)))))))
   by_cases c3:((n:Nat):Int)=8
   ·refine Cy rfl (dT c3) (Rt (E.thenR (E.ret0 rfl ?_)))
    have hlk:lookR g m fr to a x (k+1) way at_ b=b:=(by first|exact lookR_cut (cut_of H hwl (.inl s))|exact lookR_cut (cut_of H hwl (.inr (.inl u)))|exact lookR_cut (cut_of H hwl (.inr (.inr ⟨hbs I,L⟩)))|exact lookR_old (by first|exact not_cut1 H hwl|exact not_cut2 s u (.inl (hbn I))|exact not_cut2 s u (.inr L)) K (fun hh=>hh.elim (hbs I) c2)|exact lookR_old (by first|exact not_cut1 H hwl|exact not_cut2 s u (.inl (hbn I))|exact not_cut2 s u (.inr L)) K (fun hh=>hh.elim (hbs aj) c2)|exact lookR_end (by first|exact not_cut1 H hwl|exact not_cut2 s u (.inl (hbn I))|exact not_cut2 s u (.inr L)) K (by rw[hwl];omega))
    rw[hlk]
    exact⟨rfl,⟨_,_,_,_,_,_,ap,((hBw.le (o.trans C)).cb D (hBw.rn (by have:=o.size;omega))),((hBn.le (o.trans C)).cb D (hBn.rn (by have:=o.size;omega))),((hBd.le (o.trans C)).cb D (hBd.rn (by have:=o.size;omega))),hBe,hBl,hBm,hBo⟩,L3⟩
   refine Cn rfl (dF c3) (Sn (Sr (Wr (.loadB (v:= .slice Ag ng cg) na32 rfl (hE.h7.chP L3 hE.n7) rfl) rfl (Wn 1 rfl (W.cl go118 rfl rfl (in_ok at_ aE (hE.hg.chP L3 hE.hgg) (by omega)) ?_)))))
   rintro _ di ⟨b0,b1,rfl,b5,aR⟩
   refine Wr (.len underlying32 rfl) rfl (Wn 1 rfl (Nx (WC.block ?_)))
   refine WC.loop (ι:=Nat×Fnd×((Option Addr))×Nat×((Option Addr))×Nat×((Option Addr))×Nat) (fun⟨j,bk,Ax,cx,Ay,cy,Az,cz⟩=>[(0,.slice A n c),(8,.pointer (some ⟨b8,0,none⟩)),(9,.pointer (some ⟨b9,0,none⟩)),(73,.slice b0 ((g.filter (fun e=>decide (e.t=at_))).length) b1),(74,.int .i64 ((((g.filter (fun e=>decide (e.t=at_))).length:Nat):Int))),(75,.int .i64 (((j:Nat):Int)))]) (fun⟨j,bk,Ax,cx,Ay,cy,Az,cz⟩ N=>(j<=(g.filter (fun e=>decide (e.t=at_))).length)/\(bk=((g.filter (fun e=>decide (e.t=at_))).take j).foldl (stepR (lookR g m fr to a x k) way to) b)/\(bk.way=[]->Ax=none)/\(bk.way.length<=8/\(digs bk.odds.n).length<=100/\(digs bk.odds.d).length<=100)/\ChP w N ((fun k=>k=gb))/\di.heap.size<=N.heap.size/\OVec N bs 81 edgeV 9 A n c way/\OVec N aE.heap.size 81 edgeV 9 b0 ((g.filter (fun e=>decide (e.t=at_))).length) b1 (g.filter (fun e=>decide (e.t=at_)))/\OVec N bs 81 edgeV 9 Ax bk.way.length cx bk.way/\OVec N bs 273 dv 1 Ay ((digs bk.odds.n).length) cy (digs bk.odds.n)/\OVec N bs 273 dv 1 Az ((digs bk.odds.d).length) cz (digs bk.odds.d)/\Blk N gb 190 #[.slice Ax bk.way.length cx,.slice Ay ((digs bk.odds.n).length) cy,.slice Az ((digs bk.odds.d).length) cz,.int .i64 (bk.sent)]) (fun⟨j,bk,Ax,cx,Ay,cy,Az,cz⟩=>(g.filter (fun e=>decide (e.t=at_))).length-j) (0,b,Aw,cw,An,cn,Ad,cd) ?_ ?_ ?_
   ·exact .of rfl
   ·exact⟨Nat.zero_le _,rfl,hBe,⟨hBl,hBm,hBo⟩,(L3.le aR),Nat.le_refl _,(((hW.le (o.trans C)).cb D (hW.rn (by have:=o.size;omega))).le aR),b5,(((hBw.le (o.trans C)).cb D (hBw.rn (by have:=o.size;omega))).le aR),(((hBn.le (o.trans C)).cb D (hBn.rn (by have:=o.size;omega))).le aR),(((hBd.le (o.trans C)).cb D (hBd.rn (by have:=o.size;omega))).le aR),(ap.le aR)⟩
   rintro⟨j,bk,Ax,cx,Ay,cy,Az,cz⟩ N ⟨hj,hbk,hbe,hbl,au,av,ak,P,aa,ab,ac,Q⟩
   have fI:aE.heap.size<=N.heap.size:=by have:=aR.size;omega
   refine Sr (Wn 1 rfl (Nx (Sq ?_)))
   by_cases c4:((j:Nat):Int)<(((g.filter (fun e=>decide (e.t=at_))).length:Nat):Int)
   ·refine Cy rfl (dT c4) (Sn (Sq (WC.block (Sr (Wa (.idxS (j) underlying32 sz81 rfl rfl (b5.vec.isSome edgeV_row (by omega)) (rfl) (by omega)) rfl (Wr (.vload ag81 rfl P.vec edgeV_row (getS (g.filter (fun e=>decide (e.t=at_))) noEdge (by first|omega|(simp only[List.length_cons,List.length_nil];omega)))) rfl ?_))))))
    refine W.ef rfl rfl rfl (Ef.allocA z81 fun bl dj dk (dl:Blk dj bl 81 (edgeV noEdge).toArray) T=>?_)
    have dm:=au.le T
    refine W.ef0 rfl rfl (Ef.storeAll sz81 (by rfl) rfl rfl dl (by simp only[List.size_toArray,edgeV_row.len]) (edgeV_row.one ((g.filter (fun e=>decide (e.t=at_))).getD j noEdge)) ?_)
    intro bm aY U
    have aY:Blk bm bl 81 (edgeV ((g.filter (fun e=>decide (e.t=at_))).getD j noEdge)).toArray:=aY
    have bn:ChP w bm ((fun k=>k=gb)):=dm.ch U (fun i hi hlt=>by cases hi;exact absurd hlt (by have:=au.size;have:=dk;omega))
    refine Nx (Sq (Sr (Wa (.field0 fa81_0 rfl) rfl (Wr (.loadB (v:= .int .i64 (((g.filter (fun e=>decide (e.t=at_))).getD j noEdge).f)) na3 rfl aY rfl) rfl (Wr (.loadB (v:= .int .i64 (to)) na3 rfl (hE.h8.chP bn hE.n8) rfl) rfl (Wn 1 rfl ?_))))))
    by_cases ai:(((g.filter (fun e=>decide (e.t=at_))).getD j noEdge).f)=to
    ·refine Dt ai rfl rfl (Wn 4 rfl (Nx (WC.condT rfl (WC.exit (E.thenX (E.blkH (E.thenN (WC.region (Wa (.add rfl rfl (by omega)) rfl (Wn 1 rfl (W.nil ?_)))))))))))
     have dn:=((ak.le T).cb U (ak.rn (by omega)))
     have dp:=((P.le T).cb U (P.rn (by omega)))
     have dq:=((aa.le T).cb U (aa.rn (by omega)))
     have dr:=((ab.le T).cb U (ab.rn (by omega)))
     have ds:=((ac.le T).cb U (ac.rn (by omega)))
     have du:=((Q.le T).cn U (by have:=Q.lt;omega))
     refine E.again (j+1,bk,Ax,cx,Ay,cy,Az,cz) (.of rfl) ?_ ?_
     ·exact⟨by omega,(by rw[fold_next (z:=noEdge) (l:=(g.filter (fun e=>decide (e.t=at_)))) (by omega),<-hbk];exact(if_pos (by first|(unfold skipR;rw[dT ai];exact Bool.true_or _)|(unfold skipR;rw[c5];exact Bool.or_true _))).symm),hbe,hbl,bn,by have:=av;have:=T.size;have:=U.size;omega,dn,dp,dq,dr,ds,du⟩
     first|omega|(simp only[];omega)
    refine Df ai rfl rfl (Wn 1 rfl (Wg (Any.rd (.makeFunc rfl) _) rfl ?_))
    have a4:=((ak.le T).cb U (ak.rn (by omega)))
    refine W.efg rfl rfl rfl (rfl) rfl rfl (Ef.call go119 rfl rfl (rtcontains_ok (fun y=>decide (y.f=((g.filter (fun e=>decide (e.t=at_))).getD j noEdge).f)) go120 bm a4.vec (by omega) (fun y w1 hl=>seen_ok y w1 (aY.le hl))) ?_)
    rintro _ fJ ⟨rfl,ad⟩
    refine⟨_,rfl,?_⟩
    have ca:=bn.le ad
    refine Wn 1 rfl (Nx ?_)
    by_cases c5:(way.any (fun y=>decide (y.f=((g.filter (fun e=>decide (e.t=at_))).getD j noEdge).f)))=true
    ·refine Cy rfl (c5) (WC.exit (E.thenX (E.blkH (E.thenN (WC.region (Wa (.add rfl rfl (by omega)) rfl (Wn 1 rfl (W.nil ?_))))))))
     have dw:=(((P.le T).cb U (P.rn (by omega))).le ad)
     have dx:=(((aa.le T).cb U (aa.rn (by omega))).le ad)
     have dy:=(((ab.le T).cb U (ab.rn (by omega))).le ad)
     have dz:=(((ac.le T).cb U (ac.rn (by omega))).le ad)
     have dA:=(((Q.le T).cn U (by have:=Q.lt;omega)).le ad)
     refine E.again (j+1,bk,Ax,cx,Ay,cy,Az,cz) (.of rfl) ?_ ?_
     ·exact⟨by omega,(by rw[fold_next (z:=noEdge) (l:=(g.filter (fun e=>decide (e.t=at_)))) (by omega),<-hbk];exact(if_pos (by first|(unfold skipR;rw[dT ai];exact Bool.true_or _)|(unfold skipR;rw[c5];exact Bool.or_true _))).symm),hbe,hbl,ca,by have:=av;have:=T.size;have:=U.size;have:=ad.size;omega,(a4.le ad),dw,dx,dy,dz,dA⟩
     first|omega|(simp only[];omega)
    refine Cn rfl ((Bool.eq_false_iff.2 c5)) (Sn (WC.drawR (fun aL w'=>ChP w w' ((fun k=>k=gb))/\Blk w' bl 81 (edgeV ((g.filter (fun e=>decide (e.t=at_))).getD j noEdge)).toArray) [0,1,3,5,6,2,4,7] mixed (by kernel_rfl) fun aL J=>?_))
    have a5:=ca.le J
    have bo:=(aY.le (ad.trans J))
    refine⟨⟨a5,bo⟩,?_⟩
    refine GR.rd rfl rfl (fun w' hs=> .loadB (v:= .func (.func 115) #[] #[.pointer (some ⟨b2,0,none⟩),.pointer (some ⟨b3,0,none⟩),.pointer (some ⟨b4,0,none⟩),.pointer (some ⟨gb,0,none⟩),.pointer (some ⟨b6,0,none⟩),.pointer (some ⟨b7,0,none⟩),.pointer (some ⟨b8,0,none⟩),.pointer (some ⟨b9,0,none⟩)]) na191 rfl (hE.h9.chP hs.1 hE.n9) rfl) rfl rfl rfl (GR.rd rfl rfl (fun w' hs=> .loadAll ag81 (by rfl) rfl hs.2) rfl rfl rfl ?_)
    refine GR.any rfl rfl (.move rfl) rfl rfl rfl (GR.any rfl rfl (.field0 fa81_0 rfl) rfl rfl rfl (GR.rd rfl rfl (fun w' hs=> .loadB (v:= .int .i64 (((g.filter (fun e=>decide (e.t=at_))).getD j noEdge).f)) na3 rfl hs.2 rfl) rfl rfl rfl (GR.ef rfl rfl rfl rfl rfl (Ef.buildSliceV (len:=1) [_] underlying32 el81 rfl (by simp[Value.cells,edgeV_row.len]) rfl (by decide) (by decide) ?_))))
    intro cc ce dB bp ay
    have cf:=a5.le ay
    have bp:Blk ce cc 81 (([(g.filter (fun e=>decide (e.t=at_))).getD j noEdge]).map edgeV).flatten.toArray:=bp
    have aF:OVec ce aL.heap.size 81 edgeV 9 (some ⟨cc,0,none⟩) 1 1 ([(g.filter (fun e=>decide (e.t=at_))).getD j noEdge]):=bp.ovec dB edgeV_row rfl rfl (by decide)
    have ci:=(bo.le ay)
    refine⟨fun _=>⟨cf,ci⟩,?_⟩
    have cj:=(a4.le (ad.trans (J.trans ay)))
    refine GR.ef rfl rfl rfl rfl rfl (Ef.vcat underlying32 el81 underlying32 edgeV_row rfl aF rfl cj.vec (by omega) (by unfold maxLen;omega) (by have:=ay.size;omega) ?_)
    intro fK fL bq ck aG fM
    have bt:ChP w bq ((fun k=>k=gb)):=cf.ch aG (fun i hi hlt=>absurd hlt (by have:=(aF.row hi).1;have:=a5.size;omega))
    refine⟨fun _=>⟨bt,(ci.ch aG (aF.rl (by have:=bo.lt;omega)))⟩,?_⟩
    have dC:=((((Q.le T).cn U (by have:=Q.lt;omega)).le (ad.trans (J.trans ay))).ch aG (aF.rl (by have:=Q.lt;have:=T.size;have:=U.size;have:=ad.size;have:=J.size;omega)))
    have dD:=((((aa.le T).cb U (aa.rn (by omega))).le (ad.trans (J.trans ay))).ch aG ((Apart.symm (fun q R S=>by have:=(aa.row R).2;have:=(aF.row S).1;have:=T.size;have:=U.size;have:=ad.size;have:=J.size;omega))))
    have dE:=((((ab.le T).cb U (ab.rn (by omega))).le (ad.trans (J.trans ay))).ch aG ((Apart.symm (fun q R S=>by have:=(ab.row R).2;have:=(aF.row S).1;have:=T.size;have:=U.size;have:=ad.size;have:=J.size;omega))))
    have dG:=((((ac.le T).cb U (ac.rn (by omega))).le (ad.trans (J.trans ay))).ch aG ((Apart.symm (fun q R S=>by have:=(ac.row R).2;have:=(aF.row S).1;have:=T.size;have:=U.size;have:=ad.size;have:=J.size;omega))))
    have dH:BestAt bq bs gb bk:=⟨_,_,_,_,_,_,dC,dD,dE,dG,hbe,hbl.1,hbl.2.1,hbl.2.2⟩
    have dI:=ih ([(g.filter (fun e=>decide (e.t=at_))).getD j noEdge]++way) (by omega) (((g.filter (fun e=>decide (e.t=at_))).getD j noEdge).f) bk bq bt (ck.mono (Nat.le_trans hbs0 a5.size))
    have dJ:=dI (by omega) (by omega) (ck.rl (by have:=Q.lt;have:=T.size;have:=U.size;have:=ad.size;have:=J.size;omega)) dH
    refine GR.ef rfl rfl rfl rfl rfl (Ef.callC go115 rfl rfl rfl (dJ) ?_)
    rintro _ fN ⟨rfl,⟨dK,dL,dM,dN,dO,dP,dQ,dR,dS,dU,dV,dW,dX,dY⟩,a6⟩
    refine⟨_,rfl,?_⟩
    have dZ:=bt.sub a6 (fun i hi hlt=>(by subst hi;exact rfl))
    refine noT (by kernel_rfl) (GR.nil (E.blkN (E.thenN (WC.region (Wa (.add rfl rfl (by omega)) rfl (Wn 1 rfl (W.nil ?_)))))))
    have d0:=((cj.ch aG ((Apart.symm (fun q R S=>by have:=(a4.row R).2;have:=(aF.row S).1;have:=ad.size;have:=J.size;omega)))).chP a6 (fun q hqq hF=>(by subst hF;exact hWg hqq)))
    have d1:=(((((P.le T).cb U (P.rn (by omega))).le (ad.trans (J.trans ay))).ch aG ((Apart.symm (fun q R S=>by have:=(P.row R).2;have:=(aF.row S).1;have:=T.size;have:=U.size;have:=ad.size;have:=J.size;omega)))).chP a6 (fun q hqq hF=>(by subst hF;exact(P.rl (by have:=ap.lt;omega)) hqq)))
    refine E.again (j+1,(lookR g m fr to a x k ([(g.filter (fun e=>decide (e.t=at_))).getD j noEdge]++way) (((g.filter (fun e=>decide (e.t=at_))).getD j noEdge).f) bk),dK,dL,dM,dN,dO,dP) (.of rfl) ?_ ?_
    ·exact⟨by omega,(by rw[fold_next (z:=noEdge) (l:=(g.filter (fun e=>decide (e.t=at_)))) (by omega),<-hbk];exact(if_neg (by simp only[skipR,Bool.or_eq_true,decide_eq_true_eq,not_or];exact⟨ai,c5⟩)).symm),dV,⟨dW,dX,dY⟩,dZ,by have:=av;have:=T.size;have:=U.size;have:=ad.size;have:=J.size;have:=ay.size;have:=aG.size;have:=a6.size;omega,d0,d1,dR,dS,dU,dQ⟩
    first|omega|(simp only[];omega)
   refine Cn rfl (dF c4) (WC.exit (E.thenX (E.thenX (E.blkH (E.end_ (E.ret0 rfl ?_))))))
   have hnc:¬cutR way (oddsR m way a x) b:=(by first|exact not_cut1 H hwl|exact not_cut2 s u (.inl (hbn I))|exact not_cut2 s u (.inr L))
   have hje:j=(g.filter (fun e=>decide (e.t=at_))).length:=(by omega)
   have hlk:lookR g m fr to a x (k+1) way at_ b=bk:=(by rw[lookR_go hnc K (by rw[hwl];omega),hbk,hje,List.take_length];rfl)
   rw[hlk]
   exact⟨rfl,⟨_,_,_,_,_,_,Q,aa,ab,ac,hbe,hbl.1,hbl.2.1,hbl.2.2⟩,au⟩
  refine Wg (Any.rd (.dec (.move rfl) (congrArg not ((Bool.eq_false_iff.2 I)))) _) rfl (Wg (.loadAll ag61 (by rfl) rfl aQ) rfl ?_)
  refine Wg (Any.rd (.field0 fa190_1 rfl) _) rfl (Wg (.bpart [.slice An ((digs b.odds.n).length) cn,.slice Ad ((digs b.odds.d).length) cd] ag61 rfl (by decide) rfl ap rfl) rfl ?_)
  have bu:=((an.le C).cb D (an.rn (by omega)))
  have bv:=((ao.le C).cb D (ao.rn (by omega)))
  have aU:=((hBn.le (o.trans C)).cb D (hBn.rn (by have:=o.size;omega)))
  have aV:=((hBd.le (o.trans C)).cb D (hBd.rn (by have:=o.size;omega)))
  refine W.efg rfl rfl rfl (rfl) rfl rfl (Ef.call go41 rfl rfl (fcmp_ok aE bu.vec bv.vec (by omega) (by omega) aU.vec aV.vec (by omega) (by omega)) ?_)
  rintro _ bw ⟨rfl,O⟩
  refine⟨_,rfl,?_⟩
  have aM:=L3.le O
  refine Wn 1 rfl (Wg (Any.rd (.pickT rfl rfl rfl) _) rfl (Wg (Any.rd (.pickF rfl rfl rfl) _) rfl (Wn 1 rfl (Nx ?_))))
  by_cases L:(cmpF (takF (⟨((oddsR m way a x).1.n),((oddsR m way a x).1.d)⟩:Fr)) (takF (⟨b.odds.n,b.odds.d⟩:Fr)))<0
  ·refine Cy rfl (dT L) (Rt (E.thenR (E.ret0 rfl ?_)))
   have hlk:lookR g m fr to a x (k+1) way at_ b=b:=(by first|exact lookR_cut (cut_of H hwl (.inl s))|exact lookR_cut (cut_of H hwl (.inr (.inl u)))|exact lookR_cut (cut_of H hwl (.inr (.inr ⟨hbs I,L⟩)))|exact lookR_old (by first|exact not_cut1 H hwl|exact not_cut2 s u (.inl (hbn I))|exact not_cut2 s u (.inr L)) K (fun hh=>hh.elim (hbs I) c2)|exact lookR_old (by first|exact not_cut1 H hwl|exact not_cut2 s u (.inl (hbn I))|exact not_cut2 s u (.inr L)) K (fun hh=>hh.elim (hbs aj) c2)|exact lookR_end (by first|exact not_cut1 H hwl|exact not_cut2 s u (.inl (hbn I))|exact not_cut2 s u (.inr L)) K (by rw[hwl];omega))
   rw[hlk]
   exact⟨rfl,⟨_,_,_,_,_,_,(ap.le O),(((hBw.le (o.trans C)).cb D (hBw.rn (by have:=o.size;omega))).le O),(aU.le O),(aV.le O),hBe,hBl,hBm,hBo⟩,aM⟩
  refine Cn rfl (dF L) (Sn (Sq (Sr (Wn 1 rfl (Wr (.loadB (v:= .int .i64 (fr)) na3 rfl (hE.h6.chP aM hE.n6) rfl) rfl (Wn 1 rfl (Nx ?_)))))))
  by_cases K:at_=fr
  ·refine Cy rfl (dT K) (Sq (Sr (Wn 1 rfl (Wr (.loadAll ag61 (by rfl) rfl (aQ.le O)) rfl ?_))))
   refine Wn 1 rfl (Wa (.buildP [.slice A n c,.slice al ((digs ((oddsR m way a x).1.n)).length) am,.slice aq ((digs ((oddsR m way a x).1.d)).length) ar,.int .i64 ((oddsR m way a x).2.1)] pl190 z190 rfl rfl) rfl (W.ef rfl rfl rfl (Ef.allocA z190 fun cm d2 d3 (d4:Blk d2 cm 190 #[.slice none 0 0,.slice none 0 0,.slice none 0 0,.int .i64 (0)]) aO=>?_)))
   have d5:=aM.le aO
   refine W.sA sz190 rfl rfl d4 ?_
   intro bx a7 aP
   have a7:Blk bx cm 190 #[.slice A n c,.slice al ((digs ((oddsR m way a x).1.n)).length) am,.slice aq ((digs ((oddsR m way a x).1.d)).length) ar,.int .i64 ((oddsR m way a x).2.1)]:=a7
   have d6:ChP w bx ((fun k=>k=gb)):=d5.ch aP (fun i hi hlt=>by cases hi;exact absurd hlt (by have:=aM.size;have:=d3;omega))
   refine Nx (Sr (Wa (.field0 fa190_0 rfl) rfl ?_))
   have a8:=((ap.le (O.trans aO)).cn aP (by have:=ap.lt;have:=O.size;omega))
   refine Wr (.loadB (v:= .slice Aw b.way.length cw) na32 rfl a8 rfl) rfl (Wa (.isNil underlying32 rfl) rfl (Wa (.dec (.move rfl) ((Bool.eq_false_iff.2 I))) rfl (Wg (.loadAll ag190 (by rfl) rfl a7) rfl ?_)))
   refine Wg (.loadAll ag190 (by rfl) rfl a8) rfl ?_
   have co:=((((hW.le (o.trans C)).cb D (hW.rn (by have:=o.size;omega))).le (O.trans aO)).cb aP (hW.rn (by have:=o.size;have:=C.size;have:=D.size;have:=O.size;omega)))
   have bz:=((bu.le (O.trans aO)).cb aP (bu.rn (by have:=O.size;omega)))
   have bA:=((bv.le (O.trans aO)).cb aP (bv.rn (by have:=O.size;omega)))
   have cp:=((((hBw.le (o.trans C)).cb D (hBw.rn (by have:=o.size;omega))).le (O.trans aO)).cb aP (hBw.rn (by have:=o.size;have:=C.size;have:=D.size;have:=O.size;omega)))
   have cq:=((aU.le (O.trans aO)).cb aP (aU.rn (by have:=O.size;omega)))
   have cr:=((aV.le (O.trans aO)).cb aP (aV.rn (by have:=O.size;omega)))
   refine W.efg rfl rfl rfl (rfl) rfl rfl (Ef.call go117 rfl rfl (better_ok bx co.vec bz.vec bA.vec (by omega) (by omega) (by omega) cp.vec cq.vec cr.vec (by omega) (by omega) (by omega)) ?_)
   rintro _ fO ⟨rfl,az⟩
   refine⟨_,rfl,?_⟩
   have cs:=d6.le az
   refine Wn 1 rfl (Nx ?_)
   by_cases c2:(betterR (⟨way,⟨((oddsR m way a x).1.n),((oddsR m way a x).1.d)⟩,(oddsR m way a x).2.1⟩:Fnd) (⟨b.way,⟨b.odds.n,b.odds.d⟩,b.sent⟩:Fnd))=true
   ·refine Cy rfl (c2) (WC.region (Wr (.loadAll ag190 (by rfl) rfl (a7.le az)) rfl ?_))
    refine W.sA sz190 rfl rfl (a8.le az) ?_
    intro ct bB a9
    have bB:Blk ct gb 190 #[.slice A n c,.slice al ((digs ((oddsR m way a x).1.n)).length) am,.slice aq ((digs ((oddsR m way a x).1.d)).length) ar,.int .i64 ((oddsR m way a x).2.1)]:=bB
    have d7:ChP w ct ((fun k=>k=gb)):=cs.ch a9 (fun i hi _=>by cases hi;exact rfl)
    refine Nx (Rt (E.thenR ?_))
    have d8:=((co.le az).ch a9 (fun q hq=>by cases hq;exact hWg))
    refine E.ret0 rfl ?_
    have hnc:¬cutR way (oddsR m way a x) b:=(by first|exact not_cut1 H hwl|exact not_cut2 s u (.inl (hbn I))|exact not_cut2 s u (.inr L))
    have hwn:way≠[]:=fun hh=>by first|exact absurd ((congrArg List.length hh).symm.trans hwl) (by simp;omega)|exact absurd K (hfr (by omega))
    have hlk:lookR g m fr to a x (k+1) way at_ b=(fndR way (oddsR m way a x)):=lookR_new hnc K (by first|exact .inl (hbn I)|exact .inl (hbn aj)|exact .inr c2)
    rw[hlk]
    subst hwl
    exact⟨rfl,⟨_,_,_,_,_,_,bB,d8,(((bz.le az).cb a9 (bz.rl (by have:=ah.lt;omega))).mono hbs0),(((bA.le az).cb a9 (bA.rl (by have:=ah.lt;omega))).mono hbs0),fun h=>absurd h hwn,(show way.length<=8 by omega),hol.1,hol.2⟩,d7⟩
   refine Cn rfl ((Bool.eq_false_iff.2 c2)) (Sn (Rt (E.thenR (E.ret0 rfl ?_))))
   have hlk:lookR g m fr to a x (k+1) way at_ b=b:=(by first|exact lookR_cut (cut_of H hwl (.inl s))|exact lookR_cut (cut_of H hwl (.inr (.inl u)))|exact lookR_cut (cut_of H hwl (.inr (.inr ⟨hbs I,L⟩)))|exact lookR_old (by first|exact not_cut1 H hwl|exact not_cut2 s u (.inl (hbn I))|exact not_cut2 s u (.inr L)) K (fun hh=>hh.elim (hbs I) c2)|exact lookR_old (by first|exact not_cut1 H hwl|exact not_cut2 s u (.inl (hbn I))|exact not_cut2 s u (.inr L)) K (fun hh=>hh.elim (hbs aj) c2)|exact lookR_end (by first|exact not_cut1 H hwl|exact not_cut2 s u (.inl (hbn I))|exact not_cut2 s u (.inr L)) K (by rw[hwl];omega))
   rw[hlk]
   exact⟨rfl,⟨_,_,_,_,_,_,(a8.le az),(cp.le az),(cq.le az),(cr.le az),hBe,hBl,hBm,hBo⟩,cs⟩
  refine Cn rfl (dF K) (Sn (Sq (Sr (Wn 1 rfl (Wr (.len underlying32 rfl) rfl (Wn 1 rfl (Nx ?_)))))))
  by_cases c3:((n:Nat):Int)=8
  ·refine Cy rfl (dT c3) (Rt (E.thenR (E.ret0 rfl ?_)))
   have hlk:lookR g m fr to a x (k+1) way at_ b=b:=(by first|exact lookR_cut (cut_of H hwl (.inl s))|exact lookR_cut (cut_of H hwl (.inr (.inl u)))|exact lookR_cut (cut_of H hwl (.inr (.inr ⟨hbs I,L⟩)))|exact lookR_old (by first|exact not_cut1 H hwl|exact not_cut2 s u (.inl (hbn I))|exact not_cut2 s u (.inr L)) K (fun hh=>hh.elim (hbs I) c2)|exact lookR_old (by first|exact not_cut1 H hwl|exact not_cut2 s u (.inl (hbn I))|exact not_cut2 s u (.inr L)) K (fun hh=>hh.elim (hbs aj) c2)|exact lookR_end (by first|exact not_cut1 H hwl|exact not_cut2 s u (.inl (hbn I))|exact not_cut2 s u (.inr L)) K (by rw[hwl];omega))
   rw[hlk]
   exact⟨rfl,⟨_,_,_,_,_,_,(ap.le O),(((hBw.le (o.trans C)).cb D (hBw.rn (by have:=o.size;omega))).le O),(aU.le O),(aV.le O),hBe,hBl,hBm,hBo⟩,aM⟩
  refine Cn rfl (dF c3) (Sn (Sr (Wr (.loadB (v:= .slice Ag ng cg) na32 rfl (hE.h7.chP aM hE.n7) rfl) rfl (Wn 1 rfl (W.cl go118 rfl rfl (in_ok at_ bw (hE.hg.chP aM hE.hgg) (by omega)) ?_)))))
  rintro _ d9 ⟨cu,cv,rfl,cA,aS⟩
  refine Wr (.len underlying32 rfl) rfl (Wn 1 rfl (Nx (WC.block ?_)))
  refine WC.loop (ι:=Nat×Fnd×((Option Addr))×Nat×((Option Addr))×Nat×((Option Addr))×Nat) (fun⟨j,bk,Ax,cx,Ay,cy,Az,cz⟩=>[(0,.slice A n c),(8,.pointer (some ⟨b8,0,none⟩)),(9,.pointer (some ⟨b9,0,none⟩)),(73,.slice cu ((g.filter (fun e=>decide (e.t=at_))).length) cv),(74,.int .i64 ((((g.filter (fun e=>decide (e.t=at_))).length:Nat):Int))),(75,.int .i64 (((j:Nat):Int)))]) (fun⟨j,bk,Ax,cx,Ay,cy,Az,cz⟩ N=>(j<=(g.filter (fun e=>decide (e.t=at_))).length)/\(bk=((g.filter (fun e=>decide (e.t=at_))).take j).foldl (stepR (lookR g m fr to a x k) way to) b)/\(bk.way=[]->Ax=none)/\(bk.way.length<=8/\(digs bk.odds.n).length<=100/\(digs bk.odds.d).length<=100)/\ChP w N ((fun k=>k=gb))/\d9.heap.size<=N.heap.size/\OVec N bs 81 edgeV 9 A n c way/\OVec N bw.heap.size 81 edgeV 9 cu ((g.filter (fun e=>decide (e.t=at_))).length) cv (g.filter (fun e=>decide (e.t=at_)))/\OVec N bs 81 edgeV 9 Ax bk.way.length cx bk.way/\OVec N bs 273 dv 1 Ay ((digs bk.odds.n).length) cy (digs bk.odds.n)/\OVec N bs 273 dv 1 Az ((digs bk.odds.d).length) cz (digs bk.odds.d)/\Blk N gb 190 #[.slice Ax bk.way.length cx,.slice Ay ((digs bk.odds.n).length) cy,.slice Az ((digs bk.odds.d).length) cz,.int .i64 (bk.sent)]) (fun⟨j,bk,Ax,cx,Ay,cy,Az,cz⟩=>(g.filter (fun e=>decide (e.t=at_))).length-j) (0,b,Aw,cw,An,cn,Ad,cd) ?_ ?_ ?_
  ·exact .of rfl
  ·exact⟨Nat.zero_le _,rfl,hBe,⟨hBl,hBm,hBo⟩,(aM.le aS),Nat.le_refl _,(((hW.le (o.trans C)).cb D (hW.rn (by have:=o.size;omega))).le (O.trans aS)),cA,(((hBw.le (o.trans C)).cb D (hBw.rn (by have:=o.size;omega))).le (O.trans aS)),(aU.le (O.trans aS)),(aV.le (O.trans aS)),(ap.le (O.trans aS))⟩
  rintro⟨j,bk,Ax,cx,Ay,cy,Az,cz⟩ N ⟨hj,hbk,hbe,hbl,au,av,ak,P,aa,ab,ac,Q⟩
  have fP:bw.heap.size<=N.heap.size:=by have:=aS.size;omega
  refine Sr (Wn 1 rfl (Nx (Sq ?_)))
  by_cases c4:((j:Nat):Int)<(((g.filter (fun e=>decide (e.t=at_))).length:Nat):Int)
  ·refine Cy rfl (dT c4) (Sn (Sq (WC.block (Sr (Wa (.idxS (j) underlying32 sz81 rfl rfl (cA.vec.isSome edgeV_row (by omega)) (rfl) (by omega)) rfl (Wr (.vload ag81 rfl P.vec edgeV_row (getS (g.filter (fun e=>decide (e.t=at_))) noEdge (by first|omega|(simp only[List.length_cons,List.length_nil];omega)))) rfl ?_))))))
   refine W.ef rfl rfl rfl (Ef.allocA z81 fun bC ea eb (ec:Blk ea bC 81 (edgeV noEdge).toArray) V=>?_)
   have ed:=au.le V
   refine W.ef0 rfl rfl (Ef.storeAll sz81 (by rfl) rfl rfl ec (by simp only[List.size_toArray,edgeV_row.len]) (edgeV_row.one ((g.filter (fun e=>decide (e.t=at_))).getD j noEdge)) ?_)
   intro bD aZ X
   have aZ:Blk bD bC 81 (edgeV ((g.filter (fun e=>decide (e.t=at_))).getD j noEdge)).toArray:=aZ
   have bE:ChP w bD ((fun k=>k=gb)):=ed.ch X (fun i hi hlt=>by cases hi;exact absurd hlt (by have:=au.size;have:=eb;omega))
   refine Nx (Sq (Sr (Wa (.field0 fa81_0 rfl) rfl (Wr (.loadB (v:= .int .i64 (((g.filter (fun e=>decide (e.t=at_))).getD j noEdge).f)) na3 rfl aZ rfl) rfl (Wr (.loadB (v:= .int .i64 (to)) na3 rfl (hE.h8.chP bE hE.n8) rfl) rfl (Wn 1 rfl ?_))))))
   by_cases ai:(((g.filter (fun e=>decide (e.t=at_))).getD j noEdge).f)=to
   ·refine Dt ai rfl rfl (Wn 4 rfl (Nx (WC.condT rfl (WC.exit (E.thenX (E.blkH (E.thenN (WC.region (Wa (.add rfl rfl (by omega)) rfl (Wn 1 rfl (W.nil ?_)))))))))))
    have ee:=((ak.le V).cb X (ak.rn (by omega)))
    have eg:=((P.le V).cb X (P.rn (by omega)))
    have eh:=((aa.le V).cb X (aa.rn (by omega)))
    have ei:=((ab.le V).cb X (ab.rn (by omega)))
    have ej:=((ac.le V).cb X (ac.rn (by omega)))
    have ek:=((Q.le V).cn X (by have:=Q.lt;omega))
    refine E.again (j+1,bk,Ax,cx,Ay,cy,Az,cz) (.of rfl) ?_ ?_
    ·exact⟨by omega,(by rw[fold_next (z:=noEdge) (l:=(g.filter (fun e=>decide (e.t=at_)))) (by omega),<-hbk];exact(if_pos (by first|(unfold skipR;rw[dT ai];exact Bool.true_or _)|(unfold skipR;rw[c5];exact Bool.or_true _))).symm),hbe,hbl,bE,by have:=av;have:=V.size;have:=X.size;omega,ee,eg,eh,ei,ej,ek⟩
    first|omega|(simp only[];omega)
   refine Df ai rfl rfl (Wn 1 rfl (Wg (Any.rd (.makeFunc rfl) _) rfl ?_))
   have ba:=((ak.le V).cb X (ak.rn (by omega)))
   refine W.efg rfl rfl rfl (rfl) rfl rfl (Ef.call go119 rfl rfl (rtcontains_ok (fun y=>decide (y.f=((g.filter (fun e=>decide (e.t=at_))).getD j noEdge).f)) go120 bD ba.vec (by omega) (fun y w1 hl=>seen_ok y w1 (aZ.le hl))) ?_)
   rintro _ fQ ⟨rfl,ae⟩
   refine⟨_,rfl,?_⟩
   have cB:=bE.le ae
   refine Wn 1 rfl (Nx ?_)
   by_cases c5:(way.any (fun y=>decide (y.f=((g.filter (fun e=>decide (e.t=at_))).getD j noEdge).f)))=true
   ·refine Cy rfl (c5) (WC.exit (E.thenX (E.blkH (E.thenN (WC.region (Wa (.add rfl rfl (by omega)) rfl (Wn 1 rfl (W.nil ?_))))))))
    have el:=(((P.le V).cb X (P.rn (by omega))).le ae)
    have em:=(((aa.le V).cb X (aa.rn (by omega))).le ae)
    have en:=(((ab.le V).cb X (ab.rn (by omega))).le ae)
    have eo:=(((ac.le V).cb X (ac.rn (by omega))).le ae)
    have ep:=(((Q.le V).cn X (by have:=Q.lt;omega)).le ae)
    refine E.again (j+1,bk,Ax,cx,Ay,cy,Az,cz) (.of rfl) ?_ ?_
    ·exact⟨by omega,(by rw[fold_next (z:=noEdge) (l:=(g.filter (fun e=>decide (e.t=at_)))) (by omega),<-hbk];exact(if_pos (by first|(unfold skipR;rw[dT ai];exact Bool.true_or _)|(unfold skipR;rw[c5];exact Bool.or_true _))).symm),hbe,hbl,cB,by have:=av;have:=V.size;have:=X.size;have:=ae.size;omega,(ba.le ae),el,em,en,eo,ep⟩
    first|omega|(simp only[];omega)
   refine Cn rfl ((Bool.eq_false_iff.2 c5)) (Sn (WC.drawR (fun aL w'=>ChP w w' ((fun k=>k=gb))/\Blk w' bC 81 (edgeV ((g.filter (fun e=>decide (e.t=at_))).getD j noEdge)).toArray) [0,1,3,5,6,2,4,7] mixed (by kernel_rfl) fun aL J=>?_))
   have bb:=cB.le J
   have bF:=(aZ.le (ae.trans J))
   refine⟨⟨bb,bF⟩,?_⟩
   refine GR.rd rfl rfl (fun w' hs=> .loadB (v:= .func (.func 115) #[] #[.pointer (some ⟨b2,0,none⟩),.pointer (some ⟨b3,0,none⟩),.pointer (some ⟨b4,0,none⟩),.pointer (some ⟨gb,0,none⟩),.pointer (some ⟨b6,0,none⟩),.pointer (some ⟨b7,0,none⟩),.pointer (some ⟨b8,0,none⟩),.pointer (some ⟨b9,0,none⟩)]) na191 rfl (hE.h9.chP hs.1 hE.n9) rfl) rfl rfl rfl (GR.rd rfl rfl (fun w' hs=> .loadAll ag81 (by rfl) rfl hs.2) rfl rfl rfl ?_)
   refine GR.any rfl rfl (.move rfl) rfl rfl rfl (GR.any rfl rfl (.field0 fa81_0 rfl) rfl rfl rfl (GR.rd rfl rfl (fun w' hs=> .loadB (v:= .int .i64 (((g.filter (fun e=>decide (e.t=at_))).getD j noEdge).f)) na3 rfl hs.2 rfl) rfl rfl rfl (GR.ef rfl rfl rfl rfl rfl (Ef.buildSliceV (len:=1) [_] underlying32 el81 rfl (by simp[Value.cells,edgeV_row.len]) rfl (by decide) (by decide) ?_))))
   intro cC cD er bG aA
   have cE:=bb.le aA
   have bG:Blk cD cC 81 (([(g.filter (fun e=>decide (e.t=at_))).getD j noEdge]).map edgeV).flatten.toArray:=bG
   have aH:OVec cD aL.heap.size 81 edgeV 9 (some ⟨cC,0,none⟩) 1 1 ([(g.filter (fun e=>decide (e.t=at_))).getD j noEdge]):=bG.ovec er edgeV_row rfl rfl (by decide)
   have cF:=(bF.le aA)
   refine⟨fun _=>⟨cE,cF⟩,?_⟩
   have cG:=(ba.le (ae.trans (J.trans aA)))
   refine GR.ef rfl rfl rfl rfl rfl (Ef.vcat underlying32 el81 underlying32 edgeV_row rfl aH rfl cG.vec (by omega) (by unfold maxLen;omega) (by have:=aA.size;omega) ?_)
   intro fR fS bH cH aI fT
   have bI:ChP w bH ((fun k=>k=gb)):=cE.ch aI (fun i hi hlt=>absurd hlt (by have:=(aH.row hi).1;have:=bb.size;omega))
   refine⟨fun _=>⟨bI,(cF.ch aI (aH.rl (by have:=bF.lt;omega)))⟩,?_⟩
   have es:=((((Q.le V).cn X (by have:=Q.lt;omega)).le (ae.trans (J.trans aA))).ch aI (aH.rl (by have:=Q.lt;have:=V.size;have:=X.size;have:=ae.size;have:=J.size;omega)))
   have et:=((((aa.le V).cb X (aa.rn (by omega))).le (ae.trans (J.trans aA))).ch aI ((Apart.symm (fun q R S=>by have:=(aa.row R).2;have:=(aH.row S).1;have:=V.size;have:=X.size;have:=ae.size;have:=J.size;omega))))
   have eu:=((((ab.le V).cb X (ab.rn (by omega))).le (ae.trans (J.trans aA))).ch aI ((Apart.symm (fun q R S=>by have:=(ab.row R).2;have:=(aH.row S).1;have:=V.size;have:=X.size;have:=ae.size;have:=J.size;omega))))
   have ew:=((((ac.le V).cb X (ac.rn (by omega))).le (ae.trans (J.trans aA))).ch aI ((Apart.symm (fun q R S=>by have:=(ac.row R).2;have:=(aH.row S).1;have:=V.size;have:=X.size;have:=ae.size;have:=J.size;omega))))
   have ex:BestAt bH bs gb bk:=⟨_,_,_,_,_,_,es,et,eu,ew,hbe,hbl.1,hbl.2.1,hbl.2.2⟩
   have ey:=ih ([(g.filter (fun e=>decide (e.t=at_))).getD j noEdge]++way) (by omega) (((g.filter (fun e=>decide (e.t=at_))).getD j noEdge).f) bk bH bI (cH.mono (Nat.le_trans hbs0 bb.size))
   have ez:=ey (by omega) (by omega) (cH.rl (by have:=Q.lt;have:=V.size;have:=X.size;have:=ae.size;have:=J.size;omega)) ex
   refine GR.ef rfl rfl rfl rfl rfl (Ef.callC go115 rfl rfl rfl (ez) ?_)
   rintro _ fU ⟨rfl,⟨eA,eB,eC,eD,eE,eF,eG,eH,eI,eJ,eK,eL,eM,eN⟩,bc⟩
   refine⟨_,rfl,?_⟩
   have eO:=bI.sub bc (fun i hi hlt=>(by subst hi;exact rfl))
   refine noT (by kernel_rfl) (GR.nil (E.blkN (E.thenN (WC.region (Wa (.add rfl rfl (by omega)) rfl (Wn 1 rfl (W.nil ?_)))))))
   have eP:=((cG.ch aI ((Apart.symm (fun q R S=>by have:=(ba.row R).2;have:=(aH.row S).1;have:=ae.size;have:=J.size;omega)))).chP bc (fun q hqq hF=>(by subst hF;exact hWg hqq)))
   have eQ:=(((((P.le V).cb X (P.rn (by omega))).le (ae.trans (J.trans aA))).ch aI ((Apart.symm (fun q R S=>by have:=(P.row R).2;have:=(aH.row S).1;have:=V.size;have:=X.size;have:=ae.size;have:=J.size;omega)))).chP bc (fun q hqq hF=>(by subst hF;exact(P.rl (by have:=ap.lt;have:=O.size;omega)) hqq)))
   refine E.again (j+1,(lookR g m fr to a x k ([(g.filter (fun e=>decide (e.t=at_))).getD j noEdge]++way) (((g.filter (fun e=>decide (e.t=at_))).getD j noEdge).f) bk),eA,eB,eC,eD,eE,eF) (.of rfl) ?_ ?_
   ·exact⟨by omega,(by rw[fold_next (z:=noEdge) (l:=(g.filter (fun e=>decide (e.t=at_)))) (by omega),<-hbk];exact(if_neg (by simp only[skipR,Bool.or_eq_true,decide_eq_true_eq,not_or];exact⟨ai,c5⟩)).symm),eK,⟨eL,eM,eN⟩,eO,by have:=av;have:=V.size;have:=X.size;have:=ae.size;have:=J.size;have:=aA.size;have:=aI.size;have:=bc.size;omega,eP,eQ,eH,eI,eJ,eG⟩
   first|omega|(simp only[];omega)
  refine Cn rfl (dF c4) (WC.exit (E.thenX (E.thenX (E.blkH (E.end_ (E.ret0 rfl ?_))))))
  have hnc:¬cutR way (oddsR m way a x) b:=(by first|exact not_cut1 H hwl|exact not_cut2 s u (.inl (hbn I))|exact not_cut2 s u (.inr L))
  have hje:j=(g.filter (fun e=>decide (e.t=at_))).length:=(by omega)
  have hlk:lookR g m fr to a x (k+1) way at_ b=bk:=(by rw[lookR_go hnc K (by rw[hwl];omega),hbk,hje,List.take_length];rfl)
  rw[hlk]
  exact⟨rfl,⟨_,_,_,_,_,_,Q,aa,ab,ac,hbe,hbl.1,hbl.2.1,hbl.2.2⟩,au⟩
 refine Df H rfl rfl (Wn 3 rfl (W.skipu rfl rfl rfl rfl rfl (W.skipu rfl rfl rfl rfl rfl (W.skipu rfl rfl rfl rfl rfl (W.skipu rfl rfl rfl rfl rfl (Wn 2 rfl ?_))))))
 refine W.skipu rfl rfl rfl rfl rfl (W.skipu rfl rfl rfl rfl rfl (W.skipu rfl rfl rfl rfl rfl (W.skipu rfl rfl rfl rfl rfl (W.skipu rfl rfl rfl rfl rfl (W.skipu rfl rfl rfl rfl rfl ?_)))))
 refine W.skipu rfl rfl rfl rfl rfl (W.skipu rfl rfl rfl rfl rfl (W.skipu rfl rfl rfl rfl rfl (W.skipu rfl rfl rfl rfl rfl (Wn 2 rfl (Nx (WC.condF rfl (Sn (Sq (Sr (Wn 1 rfl (Wr (.loadB (v:= .int .i64 (fr)) na3 rfl (hE.h6.chP L3 hE.n6) rfl) rfl ?_)))))))))))
 refine Wn 1 rfl (Nx ?_)
 by_cases K:at_=fr
 ·refine Cy rfl (dT K) (Sq (Sr (Wn 1 rfl (Wr (.loadAll ag61 (by rfl) rfl aQ) rfl ?_))))
  refine Wn 1 rfl (Wa (.buildP [.slice A n c,.slice al ((digs ((oddsR m way a x).1.n)).length) am,.slice aq ((digs ((oddsR m way a x).1.d)).length) ar,.int .i64 ((oddsR m way a x).2.1)] pl190 z190 rfl rfl) rfl (W.ef rfl rfl rfl (Ef.allocA z190 fun cI eR eS (eT:Blk eR cI 190 #[.slice none 0 0,.slice none 0 0,.slice none 0 0,.int .i64 (0)]) aw=>?_)))
  have eU:=L3.le aw
  refine W.sA sz190 rfl rfl eT ?_
  intro bJ a0 ax
  have a0:Blk bJ cI 190 #[.slice A n c,.slice al ((digs ((oddsR m way a x).1.n)).length) am,.slice aq ((digs ((oddsR m way a x).1.d)).length) ar,.int .i64 ((oddsR m way a x).2.1)]:=a0
  have cJ:ChP w bJ ((fun k=>k=gb)):=eU.ch ax (fun i hi hlt=>by cases hi;exact absurd hlt (by have:=L3.size;have:=eS;omega))
  refine Nx (Sr (Wa (.field0 fa190_0 rfl) rfl ?_))
  have a1:=((((ah.le (o.trans C)).cn D (by have:=ah.lt;have:=o.size;omega)).le aw).cn ax (by have:=ah.lt;have:=o.size;have:=C.size;have:=D.size;omega))
  refine Wr (.loadB (v:= .slice Aw b.way.length cw) na32 rfl a1 rfl) rfl (Wa (.isNil underlying32 rfl) rfl ?_)
  by_cases aj:Aw.isNone=true
  ·refine Wa (.dec (.move rfl) (aj)) rfl (Wn 4 rfl (Nx (WC.condT rfl (WC.region (Wr (.loadAll ag190 (by rfl) rfl a0) rfl ?_)))))
   refine W.sA sz190 rfl rfl a1 ?_
   intro cK bK bd
   have bK:Blk cK gb 190 #[.slice A n c,.slice al ((digs ((oddsR m way a x).1.n)).length) am,.slice aq ((digs ((oddsR m way a x).1.d)).length) ar,.int .i64 ((oddsR m way a x).2.1)]:=bK
   have eV:ChP w cK ((fun k=>k=gb)):=cJ.ch bd (fun i hi _=>by cases hi;exact rfl)
   refine Nx (Rt (E.thenR ?_))
   have eW:=(((((hW.le (o.trans C)).cb D (hW.rn (by have:=o.size;omega))).le aw).cb ax (hW.rn (by have:=o.size;have:=C.size;have:=D.size;omega))).ch bd (fun q hq=>by cases hq;exact hWg))
   refine E.ret0 rfl ?_
   have hnc:¬cutR way (oddsR m way a x) b:=(by first|exact not_cut1 H hwl|exact not_cut2 s u (.inl (hbn I))|exact not_cut2 s u (.inr L))
   have hwn:way≠[]:=fun hh=>by first|exact absurd ((congrArg List.length hh).symm.trans hwl) (by simp;omega)|exact absurd K (hfr (by omega))
   have hlk:lookR g m fr to a x (k+1) way at_ b=(fndR way (oddsR m way a x)):=lookR_new hnc K (by first|exact .inl (hbn I)|exact .inl (hbn aj)|exact .inr c2)
   rw[hlk]
   subst hwl
   exact⟨rfl,⟨_,_,_,_,_,_,bK,eW,((((((an.le C).cb D (an.rn (by omega))).le aw).cb ax (an.rn (by have:=C.size;have:=D.size;omega))).cb bd (an.rl (by have:=ah.lt;omega))).mono hbs0),((((((ao.le C).cb D (ao.rn (by omega))).le aw).cb ax (ao.rn (by have:=C.size;have:=D.size;omega))).cb bd (ao.rl (by have:=ah.lt;omega))).mono hbs0),fun h=>absurd h hwn,(show way.length<=8 by omega),hol.1,hol.2⟩,eV⟩
  refine Wa (.dec (.move rfl) ((Bool.eq_false_iff.2 aj))) rfl (Wg (.loadAll ag190 (by rfl) rfl a0) rfl ?_)
  refine Wg (.loadAll ag190 (by rfl) rfl a1) rfl ?_
  have cL:=((((hW.le (o.trans C)).cb D (hW.rn (by have:=o.size;omega))).le aw).cb ax (hW.rn (by have:=o.size;have:=C.size;have:=D.size;omega)))
  have bL:=((((an.le C).cb D (an.rn (by omega))).le aw).cb ax (an.rn (by have:=C.size;have:=D.size;omega)))
  have bM:=((((ao.le C).cb D (ao.rn (by omega))).le aw).cb ax (ao.rn (by have:=C.size;have:=D.size;omega)))
  have cM:=((((hBw.le (o.trans C)).cb D (hBw.rn (by have:=o.size;omega))).le aw).cb ax (hBw.rn (by have:=o.size;have:=C.size;have:=D.size;omega)))
  have cN:=((((hBn.le (o.trans C)).cb D (hBn.rn (by have:=o.size;omega))).le aw).cb ax (hBn.rn (by have:=o.size;have:=C.size;have:=D.size;omega)))
  have cO:=((((hBd.le (o.trans C)).cb D (hBd.rn (by have:=o.size;omega))).le aw).cb ax (hBd.rn (by have:=o.size;have:=C.size;have:=D.size;omega)))
  refine W.efg rfl rfl rfl (rfl) rfl rfl (Ef.call go117 rfl rfl (better_ok bJ cL.vec bL.vec bM.vec (by omega) (by omega) (by omega) cM.vec cN.vec cO.vec (by omega) (by omega) (by omega)) ?_)
  rintro _ fV ⟨rfl,aB⟩
  refine⟨_,rfl,?_⟩
  have cP:=cJ.le aB
  refine Wn 1 rfl (Nx ?_)
  by_cases c2:(betterR (⟨way,⟨((oddsR m way a x).1.n),((oddsR m way a x).1.d)⟩,(oddsR m way a x).2.1⟩:Fnd) (⟨b.way,⟨b.odds.n,b.odds.d⟩,b.sent⟩:Fnd))=true
  ·refine Cy rfl (c2) (WC.region (Wr (.loadAll ag190 (by rfl) rfl (a0.le aB)) rfl ?_))
   refine W.sA sz190 rfl rfl (a1.le aB) ?_
   intro cQ bN be
   have bN:Blk cQ gb 190 #[.slice A n c,.slice al ((digs ((oddsR m way a x).1.n)).length) am,.slice aq ((digs ((oddsR m way a x).1.d)).length) ar,.int .i64 ((oddsR m way a x).2.1)]:=bN
   have eX:ChP w cQ ((fun k=>k=gb)):=cP.ch be (fun i hi _=>by cases hi;exact rfl)
   refine Nx (Rt (E.thenR ?_))
   have eY:=((cL.le aB).ch be (fun q hq=>by cases hq;exact hWg))
   refine E.ret0 rfl ?_
   have hnc:¬cutR way (oddsR m way a x) b:=(by first|exact not_cut1 H hwl|exact not_cut2 s u (.inl (hbn I))|exact not_cut2 s u (.inr L))
   have hwn:way≠[]:=fun hh=>by first|exact absurd ((congrArg List.length hh).symm.trans hwl) (by simp;omega)|exact absurd K (hfr (by omega))
   have hlk:lookR g m fr to a x (k+1) way at_ b=(fndR way (oddsR m way a x)):=lookR_new hnc K (by first|exact .inl (hbn I)|exact .inl (hbn aj)|exact .inr c2)
   rw[hlk]
   subst hwl
   exact⟨rfl,⟨_,_,_,_,_,_,bN,eY,(((bL.le aB).cb be (bL.rl (by have:=ah.lt;omega))).mono hbs0),(((bM.le aB).cb be (bM.rl (by have:=ah.lt;omega))).mono hbs0),fun h=>absurd h hwn,(show way.length<=8 by omega),hol.1,hol.2⟩,eX⟩
  refine Cn rfl ((Bool.eq_false_iff.2 c2)) (Sn (Rt (E.thenR (E.ret0 rfl ?_))))
  have hlk:lookR g m fr to a x (k+1) way at_ b=b:=(by first|exact lookR_cut (cut_of H hwl (.inl s))|exact lookR_cut (cut_of H hwl (.inr (.inl u)))|exact lookR_cut (cut_of H hwl (.inr (.inr ⟨hbs I,L⟩)))|exact lookR_old (by first|exact not_cut1 H hwl|exact not_cut2 s u (.inl (hbn I))|exact not_cut2 s u (.inr L)) K (fun hh=>hh.elim (hbs I) c2)|exact lookR_old (by first|exact not_cut1 H hwl|exact not_cut2 s u (.inl (hbn I))|exact not_cut2 s u (.inr L)) K (fun hh=>hh.elim (hbs aj) c2)|exact lookR_end (by first|exact not_cut1 H hwl|exact not_cut2 s u (.inl (hbn I))|exact not_cut2 s u (.inr L)) K (by rw[hwl];omega))
  rw[hlk]
  exact⟨rfl,⟨_,_,_,_,_,_,(a1.le aB),(cM.le aB),(cN.le aB),(cO.le aB),hBe,hBl,hBm,hBo⟩,cP⟩
 refine Cn rfl (dF K) (Sn (Sq (Sr (Wn 1 rfl (Wr (.len underlying32 rfl) rfl (Wn 1 rfl (Nx ?_)))))))
 by_cases c3:((n:Nat):Int)=8
 ·refine Cy rfl (dT c3) (Rt (E.thenR (E.ret0 rfl ?_)))
  have hlk:lookR g m fr to a x (k+1) way at_ b=b:=(by first|exact lookR_cut (cut_of H hwl (.inl s))|exact lookR_cut (cut_of H hwl (.inr (.inl u)))|exact lookR_cut (cut_of H hwl (.inr (.inr ⟨hbs I,L⟩)))|exact lookR_old (by first|exact not_cut1 H hwl|exact not_cut2 s u (.inl (hbn I))|exact not_cut2 s u (.inr L)) K (fun hh=>hh.elim (hbs I) c2)|exact lookR_old (by first|exact not_cut1 H hwl|exact not_cut2 s u (.inl (hbn I))|exact not_cut2 s u (.inr L)) K (fun hh=>hh.elim (hbs aj) c2)|exact lookR_end (by first|exact not_cut1 H hwl|exact not_cut2 s u (.inl (hbn I))|exact not_cut2 s u (.inr L)) K (by rw[hwl];omega))
  rw[hlk]
  exact⟨rfl,⟨_,_,_,_,_,_,((ah.le (o.trans C)).cn D (by have:=ah.lt;have:=o.size;omega)),((hBw.le (o.trans C)).cb D (hBw.rn (by have:=o.size;omega))),((hBn.le (o.trans C)).cb D (hBn.rn (by have:=o.size;omega))),((hBd.le (o.trans C)).cb D (hBd.rn (by have:=o.size;omega))),hBe,hBl,hBm,hBo⟩,L3⟩
 refine Cn rfl (dF c3) (Sn (Sr (Wr (.loadB (v:= .slice Ag ng cg) na32 rfl (hE.h7.chP L3 hE.n7) rfl) rfl (Wn 1 rfl (W.cl go118 rfl rfl (in_ok at_ aE (hE.hg.chP L3 hE.hgg) (by omega)) ?_)))))
 rintro _ eZ ⟨cR,cS,rfl,cT,aT⟩
 refine Wr (.len underlying32 rfl) rfl (Wn 1 rfl (Nx (WC.block ?_)))
 refine WC.loop (ι:=Nat×Fnd×((Option Addr))×Nat×((Option Addr))×Nat×((Option Addr))×Nat) (fun⟨j,bk,Ax,cx,Ay,cy,Az,cz⟩=>[(0,.slice A n c),(8,.pointer (some ⟨b8,0,none⟩)),(9,.pointer (some ⟨b9,0,none⟩)),(73,.slice cR ((g.filter (fun e=>decide (e.t=at_))).length) cS),(74,.int .i64 ((((g.filter (fun e=>decide (e.t=at_))).length:Nat):Int))),(75,.int .i64 (((j:Nat):Int)))]) (fun⟨j,bk,Ax,cx,Ay,cy,Az,cz⟩ N=>(j<=(g.filter (fun e=>decide (e.t=at_))).length)/\(bk=((g.filter (fun e=>decide (e.t=at_))).take j).foldl (stepR (lookR g m fr to a x k) way to) b)/\(bk.way=[]->Ax=none)/\(bk.way.length<=8/\(digs bk.odds.n).length<=100/\(digs bk.odds.d).length<=100)/\ChP w N ((fun k=>k=gb))/\eZ.heap.size<=N.heap.size/\OVec N bs 81 edgeV 9 A n c way/\OVec N aE.heap.size 81 edgeV 9 cR ((g.filter (fun e=>decide (e.t=at_))).length) cS (g.filter (fun e=>decide (e.t=at_)))/\OVec N bs 81 edgeV 9 Ax bk.way.length cx bk.way/\OVec N bs 273 dv 1 Ay ((digs bk.odds.n).length) cy (digs bk.odds.n)/\OVec N bs 273 dv 1 Az ((digs bk.odds.d).length) cz (digs bk.odds.d)/\Blk N gb 190 #[.slice Ax bk.way.length cx,.slice Ay ((digs bk.odds.n).length) cy,.slice Az ((digs bk.odds.d).length) cz,.int .i64 (bk.sent)]) (fun⟨j,bk,Ax,cx,Ay,cy,Az,cz⟩=>(g.filter (fun e=>decide (e.t=at_))).length-j) (0,b,Aw,cw,An,cn,Ad,cd) ?_ ?_ ?_
 ·exact .of rfl
 ·exact⟨Nat.zero_le _,rfl,hBe,⟨hBl,hBm,hBo⟩,(L3.le aT),Nat.le_refl _,(((hW.le (o.trans C)).cb D (hW.rn (by have:=o.size;omega))).le aT),cT,(((hBw.le (o.trans C)).cb D (hBw.rn (by have:=o.size;omega))).le aT),(((hBn.le (o.trans C)).cb D (hBn.rn (by have:=o.size;omega))).le aT),(((hBd.le (o.trans C)).cb D (hBd.rn (by have:=o.size;omega))).le aT),(((ah.le (o.trans C)).cn D (by have:=ah.lt;have:=o.size;omega)).le aT)⟩
 rintro⟨j,bk,Ax,cx,Ay,cy,Az,cz⟩ N ⟨hj,hbk,hbe,hbl,au,av,ak,P,aa,ab,ac,Q⟩
 have fW:aE.heap.size<=N.heap.size:=by have:=aT.size;omega
 refine Sr (Wn 1 rfl (Nx (Sq ?_)))
 by_cases c4:((j:Nat):Int)<(((g.filter (fun e=>decide (e.t=at_))).length:Nat):Int)
 ·refine Cy rfl (dT c4) (Sn (Sq (WC.block (Sr (Wa (.idxS (j) underlying32 sz81 rfl rfl (cT.vec.isSome edgeV_row (by omega)) (rfl) (by omega)) rfl (Wr (.vload ag81 rfl P.vec edgeV_row (getS (g.filter (fun e=>decide (e.t=at_))) noEdge (by first|omega|(simp only[List.length_cons,List.length_nil];omega)))) rfl ?_))))))
  refine W.ef rfl rfl rfl (Ef.allocA z81 fun bO e0 e1 (e2:Blk e0 bO 81 (edgeV noEdge).toArray) Y=>?_)
  have e3:=au.le Y
  refine W.ef0 rfl rfl (Ef.storeAll sz81 (by rfl) rfl rfl e2 (by simp only[List.size_toArray,edgeV_row.len]) (edgeV_row.one ((g.filter (fun e=>decide (e.t=at_))).getD j noEdge)) ?_)
  intro bP a2 Z
  have a2:Blk bP bO 81 (edgeV ((g.filter (fun e=>decide (e.t=at_))).getD j noEdge)).toArray:=a2
  have bQ:ChP w bP ((fun k=>k=gb)):=e3.ch Z (fun i hi hlt=>by cases hi;exact absurd hlt (by have:=au.size;have:=e1;omega))
  refine Nx (Sq (Sr (Wa (.field0 fa81_0 rfl) rfl (Wr (.loadB (v:= .int .i64 (((g.filter (fun e=>decide (e.t=at_))).getD j noEdge).f)) na3 rfl a2 rfl) rfl (Wr (.loadB (v:= .int .i64 (to)) na3 rfl (hE.h8.chP bQ hE.n8) rfl) rfl (Wn 1 rfl ?_))))))
  by_cases ai:(((g.filter (fun e=>decide (e.t=at_))).getD j noEdge).f)=to
  ·refine Dt ai rfl rfl (Wn 4 rfl (Nx (WC.condT rfl (WC.exit (E.thenX (E.blkH (E.thenN (WC.region (Wa (.add rfl rfl (by omega)) rfl (Wn 1 rfl (W.nil ?_)))))))))))
   have e4:=((ak.le Y).cb Z (ak.rn (by omega)))
   have e5:=((P.le Y).cb Z (P.rn (by omega)))
   have e6:=((aa.le Y).cb Z (aa.rn (by omega)))
   have e7:=((ab.le Y).cb Z (ab.rn (by omega)))
   have e8:=((ac.le Y).cb Z (ac.rn (by omega)))
   have e9:=((Q.le Y).cn Z (by have:=Q.lt;omega))
   refine E.again (j+1,bk,Ax,cx,Ay,cy,Az,cz) (.of rfl) ?_ ?_
   ·exact⟨by omega,(by rw[fold_next (z:=noEdge) (l:=(g.filter (fun e=>decide (e.t=at_)))) (by omega),<-hbk];exact(if_pos (by first|(unfold skipR;rw[dT ai];exact Bool.true_or _)|(unfold skipR;rw[c5];exact Bool.or_true _))).symm),hbe,hbl,bQ,by have:=av;have:=Y.size;have:=Z.size;omega,e4,e5,e6,e7,e8,e9⟩
   first|omega|(simp only[];omega)
  refine Df ai rfl rfl (Wn 1 rfl (Wg (Any.rd (.makeFunc rfl) _) rfl ?_))
  have bf:=((ak.le Y).cb Z (ak.rn (by omega)))
  refine W.efg rfl rfl rfl (rfl) rfl rfl (Ef.call go119 rfl rfl (rtcontains_ok (fun y=>decide (y.f=((g.filter (fun e=>decide (e.t=at_))).getD j noEdge).f)) go120 bP bf.vec (by omega) (fun y w1 hl=>seen_ok y w1 (a2.le hl))) ?_)
  rintro _ fX ⟨rfl,af⟩
  refine⟨_,rfl,?_⟩
  have cU:=bQ.le af
  refine Wn 1 rfl (Nx ?_)
  by_cases c5:(way.any (fun y=>decide (y.f=((g.filter (fun e=>decide (e.t=at_))).getD j noEdge).f)))=true
  ·refine Cy rfl (c5) (WC.exit (E.thenX (E.blkH (E.thenN (WC.region (Wa (.add rfl rfl (by omega)) rfl (Wn 1 rfl (W.nil ?_))))))))
   have fa:=(((P.le Y).cb Z (P.rn (by omega))).le af)
   have fb:=(((aa.le Y).cb Z (aa.rn (by omega))).le af)
   have fc:=(((ab.le Y).cb Z (ab.rn (by omega))).le af)
   have fd:=(((ac.le Y).cb Z (ac.rn (by omega))).le af)
   have fe:=(((Q.le Y).cn Z (by have:=Q.lt;omega)).le af)
   refine E.again (j+1,bk,Ax,cx,Ay,cy,Az,cz) (.of rfl) ?_ ?_
   ·exact⟨by omega,(by rw[fold_next (z:=noEdge) (l:=(g.filter (fun e=>decide (e.t=at_)))) (by omega),<-hbk];exact(if_pos (by first|(unfold skipR;rw[dT ai];exact Bool.true_or _)|(unfold skipR;rw[c5];exact Bool.or_true _))).symm),hbe,hbl,cU,by have:=av;have:=Y.size;have:=Z.size;have:=af.size;omega,(bf.le af),fa,fb,fc,fd,fe⟩
   first|omega|(simp only[];omega)
  refine Cn rfl ((Bool.eq_false_iff.2 c5)) (Sn (WC.drawR (fun aL w'=>ChP w w' ((fun k=>k=gb))/\Blk w' bO 81 (edgeV ((g.filter (fun e=>decide (e.t=at_))).getD j noEdge)).toArray) [0,1,3,5,6,2,4,7] mixed (by kernel_rfl) fun aL J=>?_))
  have bg:=cU.le J
  have bR:=(a2.le (af.trans J))
  refine⟨⟨bg,bR⟩,?_⟩
  refine GR.rd rfl rfl (fun w' hs=> .loadB (v:= .func (.func 115) #[] #[.pointer (some ⟨b2,0,none⟩),.pointer (some ⟨b3,0,none⟩),.pointer (some ⟨b4,0,none⟩),.pointer (some ⟨gb,0,none⟩),.pointer (some ⟨b6,0,none⟩),.pointer (some ⟨b7,0,none⟩),.pointer (some ⟨b8,0,none⟩),.pointer (some ⟨b9,0,none⟩)]) na191 rfl (hE.h9.chP hs.1 hE.n9) rfl) rfl rfl rfl (GR.rd rfl rfl (fun w' hs=> .loadAll ag81 (by rfl) rfl hs.2) rfl rfl rfl ?_)
  refine GR.any rfl rfl (.move rfl) rfl rfl rfl (GR.any rfl rfl (.field0 fa81_0 rfl) rfl rfl rfl (GR.rd rfl rfl (fun w' hs=> .loadB (v:= .int .i64 (((g.filter (fun e=>decide (e.t=at_))).getD j noEdge).f)) na3 rfl hs.2 rfl) rfl rfl rfl (GR.ef rfl rfl rfl rfl rfl (Ef.buildSliceV (len:=1) [_] underlying32 el81 rfl (by simp[Value.cells,edgeV_row.len]) rfl (by decide) (by decide) ?_))))
  intro cV cW ff bS aC
  have cX:=bg.le aC
  have bS:Blk cW cV 81 (([(g.filter (fun e=>decide (e.t=at_))).getD j noEdge]).map edgeV).flatten.toArray:=bS
  have aJ:OVec cW aL.heap.size 81 edgeV 9 (some ⟨cV,0,none⟩) 1 1 ([(g.filter (fun e=>decide (e.t=at_))).getD j noEdge]):=bS.ovec ff edgeV_row rfl rfl (by decide)
  have cY:=(bR.le aC)
  refine⟨fun _=>⟨cX,cY⟩,?_⟩
  have cZ:=(bf.le (af.trans (J.trans aC)))
  refine GR.ef rfl rfl rfl rfl rfl (Ef.vcat underlying32 el81 underlying32 edgeV_row rfl aJ rfl cZ.vec (by omega) (by unfold maxLen;omega) (by have:=aC.size;omega) ?_)
  intro fY fZ bT c6 aK f0
  have bU:ChP w bT ((fun k=>k=gb)):=cX.ch aK (fun i hi hlt=>absurd hlt (by have:=(aJ.row hi).1;have:=bg.size;omega))
  refine⟨fun _=>⟨bU,(cY.ch aK (aJ.rl (by have:=bR.lt;omega)))⟩,?_⟩
  have fg:=((((Q.le Y).cn Z (by have:=Q.lt;omega)).le (af.trans (J.trans aC))).ch aK (aJ.rl (by have:=Q.lt;have:=Y.size;have:=Z.size;have:=af.size;have:=J.size;omega)))
  have fh:=((((aa.le Y).cb Z (aa.rn (by omega))).le (af.trans (J.trans aC))).ch aK ((Apart.symm (fun q R S=>by have:=(aa.row R).2;have:=(aJ.row S).1;have:=Y.size;have:=Z.size;have:=af.size;have:=J.size;omega))))
  have fi:=((((ab.le Y).cb Z (ab.rn (by omega))).le (af.trans (J.trans aC))).ch aK ((Apart.symm (fun q R S=>by have:=(ab.row R).2;have:=(aJ.row S).1;have:=Y.size;have:=Z.size;have:=af.size;have:=J.size;omega))))
  have fj:=((((ac.le Y).cb Z (ac.rn (by omega))).le (af.trans (J.trans aC))).ch aK ((Apart.symm (fun q R S=>by have:=(ac.row R).2;have:=(aJ.row S).1;have:=Y.size;have:=Z.size;have:=af.size;have:=J.size;omega))))
  have fk:BestAt bT bs gb bk:=⟨_,_,_,_,_,_,fg,fh,fi,fj,hbe,hbl.1,hbl.2.1,hbl.2.2⟩
  have fl:=ih ([(g.filter (fun e=>decide (e.t=at_))).getD j noEdge]++way) (by omega) (((g.filter (fun e=>decide (e.t=at_))).getD j noEdge).f) bk bT bU (c6.mono (Nat.le_trans hbs0 bg.size))
  have fm:=fl (by omega) (by omega) (c6.rl (by have:=Q.lt;have:=Y.size;have:=Z.size;have:=af.size;have:=J.size;omega)) fk
  refine GR.ef rfl rfl rfl rfl rfl (Ef.callC go115 rfl rfl rfl (fm) ?_)
  rintro _ f1 ⟨rfl,⟨fp,fq,fs,ft,fu,fv,fw,fx,fy,fz,fA,fB,fC,fD⟩,bh⟩
  refine⟨_,rfl,?_⟩
  have fE:=bU.sub bh (fun i hi hlt=>(by subst hi;exact rfl))
  refine noT (by kernel_rfl) (GR.nil (E.blkN (E.thenN (WC.region (Wa (.add rfl rfl (by omega)) rfl (Wn 1 rfl (W.nil ?_)))))))
  have fF:=((cZ.ch aK ((Apart.symm (fun q R S=>by have:=(bf.row R).2;have:=(aJ.row S).1;have:=af.size;have:=J.size;omega)))).chP bh (fun q hqq hF=>(by subst hF;exact hWg hqq)))
  have fG:=(((((P.le Y).cb Z (P.rn (by omega))).le (af.trans (J.trans aC))).ch aK ((Apart.symm (fun q R S=>by have:=(P.row R).2;have:=(aJ.row S).1;have:=Y.size;have:=Z.size;have:=af.size;have:=J.size;omega)))).chP bh (fun q hqq hF=>(by subst hF;exact(P.rl (by have:=ah.lt;have:=o.size;have:=C.size;have:=D.size;omega)) hqq)))
  refine E.again (j+1,(lookR g m fr to a x k ([(g.filter (fun e=>decide (e.t=at_))).getD j noEdge]++way) (((g.filter (fun e=>decide (e.t=at_))).getD j noEdge).f) bk),fp,fq,fs,ft,fu,fv) (.of rfl) ?_ ?_
  ·exact⟨by omega,(by rw[fold_next (z:=noEdge) (l:=(g.filter (fun e=>decide (e.t=at_)))) (by omega),<-hbk];exact(if_neg (by simp only[skipR,Bool.or_eq_true,decide_eq_true_eq,not_or];exact⟨ai,c5⟩)).symm),fA,⟨fB,fC,fD⟩,fE,by have:=av;have:=Y.size;have:=Z.size;have:=af.size;have:=J.size;have:=aC.size;have:=aK.size;have:=bh.size;omega,fF,fG,fx,fy,fz,fw⟩
  first|omega|(simp only[];omega)
 refine Cn rfl (dF c4) (WC.exit (E.thenX (E.thenX (E.blkH (E.end_ (E.ret0 rfl ?_))))))
 have hnc:¬cutR way (oddsR m way a x) b:=(by first|exact not_cut1 H hwl|exact not_cut2 s u (.inl (hbn I))|exact not_cut2 s u (.inr L))
 have hje:j=(g.filter (fun e=>decide (e.t=at_))).length:=(by omega)
 have hlk:lookR g m fr to a x (k+1) way at_ b=bk:=(by rw[lookR_go hnc K (by rw[hwl];omega),hbk,hje,List.take_length];rfl)
 rw[hlk]
 exact⟨rfl,⟨_,_,_,_,_,_,Q,aa,ab,ac,hbe,hbl.1,hbl.2.1,hbl.2.2⟩,au⟩


theorem look_ok {bs base gp ng cg b2 b3 b4 gb b6 b7 b8 b9:Nat}{F:Nat->Prop}{m:MF}{Ag:Option Addr}{g:List Gsp.Edge}{fr to a x:Int}:∀(k:Nat) (way:List Gsp.Edge) {A:Option Addr} {n c:Nat} (hk1:1<=k) (at_:Int) (b:Fnd) (w:World),LookE w base gp F m Ag ng cg g fr to a x b2 b3 b4 gb b6 b7 b8 b9->bs<=w.heap.size->OVec w bs 81 edgeV 9 A n c way->n+k=9->(n=0->A=none)->(n=0->at_≠fr)->rowOf A c≠some gb->BestAt w bs gb b->
    Calls prog 115 #[.slice A n c,.int .i64 at_,.pointer (some ⟨b2,0,none⟩),.pointer (some ⟨b3,0,none⟩),.pointer (some ⟨b4,0,none⟩),.pointer (some ⟨gb,0,none⟩),.pointer (some ⟨b6,0,none⟩),.pointer (some ⟨b7,0,none⟩),.pointer (some ⟨b8,0,none⟩),.pointer (some ⟨b9,0,none⟩)] w fun r w2=>r= .returned (.tuple #[])/\BestAt w2 bs gb (lookR g m fr to a x k way at_ b)/\ChP w w2 (fun k=>k=gb)
  |0,_,_,_,_,h,_,_,_,_,_,_,_,_,_,_,_=>absurd h (by decide)
  |k+1,way,A,n,c,_,at_,b,w,hE,hbs,hW,hnk,hn0,hnf,hWg,hB=>by
    obtain⟨Aw,cw,An,cn,Ad,cd,hB⟩:=hB
    refine look_step at_ w hE (fun way' A' n' c' hk1 at' b' d hc hW' hn' e hg' hB'=>look_ok k way' hk1 at' b' d (hE.chP hc) (Nat.le_trans hbs hc.size) hW' hn' (fun h=>by omega) (fun h=>by omega) hg' hB') hbs hW hWg (by omega) hB hn0 hnf

end Go.Proofs.YtocheaahlpiajaaGreatDoor

namespace Go.Proofs.YtocheaahlpiajaaGreatDoor
open Tryz
open Go Go.Sx Go.Num Go.Gsp Go.Nsp Go.Msp Go.Rtp
set_option maxRecDepth 20000
set_option maxHeartbeats 4000000
theorem best_none {w:World}{bs gb:Nat}(h:Blk w gb 190 #[.slice none 0 0,.slice none 0 0,.slice none 0 0,.int .i64 0]):BestAt w bs gb noFnd:=by
  refine⟨none,0,none,0,none,0,?_,OVec.nil _ _ _ _ _ _,?_,?_,fun _=>rfl,by decide,?_,?_⟩
  · show Blk w gb 190 #[.slice none 0 0,.slice none (digs 0).length 0,.slice none (digs 0).length 0,.int .i64 0]
    rw[digs_zero];exact h
  · show OVec w bs 273 dv 1 none (digs 0).length 0 (digs 0)
    rw[digs_zero];exact OVec.nil _ _ _ _ _ _
  · show OVec w bs 273 dv 1 none (digs 0).length 0 (digs 0)
    rw[digs_zero];exact OVec.nil _ _ _ _ _ _
  · show(digs 0).length<=100
    rw[digs_zero];decide
  · show(digs 0).length<=100
    rw[digs_zero];decide
theorem bestR_none {g:List Gsp.Edge}{m:MF}{fr to a x:Int}(hb:badR g fr to a x=false)(h:(lookR g m fr to a x 9 [] to noFnd).way=[]):bestR g m fr to a x=([],⟨0,0⟩,19):=by unfold bestR;rw[if_neg (by rw[hb];decide),if_pos h]
theorem bestR_some {g:List Gsp.Edge}{m:MF}{fr to a x:Int}(hb:badR g fr to a x=false)(h:(lookR g m fr to a x 9 [] to noFnd).way≠[]):bestR g m fr to a x=((lookR g m fr to a x 9 [] to noFnd).way,(lookR g m fr to a x 9 [] to noFnd).odds,0):=by unfold bestR;rw[if_neg (by rw[hb];decide),if_neg h]
theorem rbest_ok {base gp:Nat}{F:Nat->Prop}{m:MF}(fr to a x:Int){A:Option Addr}{n c:Nat}{g:List Gsp.Edge}(w:World)(hP:MPool w base gp F m)(hV:Vec w edgeV 9 A n g)(hn:n<=1000000):Calls prog 46 #[.slice A n c,.pointer (some ⟨gp,0,none⟩),.int .i64 (fr),.int .i64 (to),.int .i64 (a),.int .i64 (x)] w fun r w'=>∃Aw cw An cn Ad cd,r= .returned (.tuple #[.slice Aw (bestR g m fr to a x).1.length cw,.agg #[.slice An (digs (bestR g m fr to a x).2.1.n).length cn,.slice Ad (digs (bestR g m fr to a x).2.1.d).length cd],.int .i64 (bestR g m fr to a x).2.2])/\OVec w' w.heap.size 81 edgeV 9 Aw (bestR g m fr to a x).1.length cw (bestR g m fr to a x).1/\OVec w' w.heap.size 273 dv 1 An (digs (bestR g m fr to a x).2.1.n).length cn (digs (bestR g m fr to a x).2.1.n)/\OVec w' w.heap.size 273 dv 1 Ad (digs (bestR g m fr to a x).2.1.d).length cd (digs (bestR g m fr to a x).2.1.d)/\Le w w':=by
 have hl:=hV.1
 have hgm:=hP.good
 refine enter func46 rfl rfl (Sr (W.ef rfl rfl rfl (Ef.box rfl fun T aY bR (aZ:Blk aY T 32 #[.slice A n c]) ad=>(W.ef rfl rfl rfl (Ef.box rfl fun U a0 bS (ao:Blk a0 U 55 #[.pointer (some ⟨gp,0,none⟩)]) V=>(W.ef rfl rfl rfl ?_))))))
 refine Ef.box rfl fun X a1 bT (a2:Blk a1 X 3 #[.int .i64 (fr)]) L=>(W.ef rfl rfl rfl (Ef.box rfl fun Y a3 bU (a4:Blk a3 Y 3 #[.int .i64 (to)]) I=>(W.ef rfl rfl rfl (Ef.box rfl fun Z a5 bV (a6:Blk a5 Z 3 #[.int .i64 (a)]) H=>(W.ef rfl rfl rfl ?_)))))
 refine Ef.box rfl fun aa a7 bW (a8:Blk a7 aa 3 #[.int .i64 (x)]) C=>?_
 have J:=((((((Le.refl w).trans ad).trans V).trans L).trans I).trans H).trans C
 refine Wn 1 rfl (W.ef rfl rfl rfl (Ef.allocA z61 fun D aF N (s:Blk aF D 61 #[.slice none 0 0,.slice none 0 0]) z=>?_))
 have L7:=J.trans z
 refine Wn 1 rfl (Nx (Sq (Sr ?_)))
 have f8:=(aZ.le (V.trans (L.trans (I.trans (H.trans (C.trans z))))))
 refine Wr (.loadB (v:= .slice A n c) na32 rfl f8 rfl) rfl (W.cl go68 rfl rfl (gright_ok aF (hV.le L7) (by omega)) ?_)
 rintro _ a9 ⟨rfl,f⟩
 have L9:=L7.trans f
 refine Wn 1 rfl ?_
 by_cases K:(rightG g)=true
 ·refine Wa (.dec (.move rfl) (congrArg not (K))) rfl ?_
  have aG:=(a2.le (I.trans (H.trans (C.trans (z.trans f)))))
  refine Wg (.loadB (v:= .int .i64 (fr)) na3 rfl aG rfl) rfl (W.efg rfl rfl rfl (rfl) rfl rfl (Ef.call go114 rfl rfl (rtwithin_ok fr 0 11 a9) ?_))
  rintro _ ba ⟨rfl,j⟩
  refine⟨_,rfl,?_⟩
  have aH:=L9.trans j
  refine Wn 2 rfl ?_
  by_cases O:(inB fr 0 11)=true
  ·refine Wa (.dec (.move rfl) (congrArg not (O))) rfl ?_
   have aI:=(a4.le (H.trans (C.trans (z.trans (f.trans j)))))
   refine Wg (.loadB (v:= .int .i64 (to)) na3 rfl aI rfl) rfl (W.efg rfl rfl rfl (rfl) rfl rfl (Ef.call go114 rfl rfl (rtwithin_ok to 0 11 ba) ?_))
   rintro _ bb ⟨rfl,l⟩
   refine⟨_,rfl,?_⟩
   have ap:=aH.trans l
   refine Wn 2 rfl ?_
   by_cases P:(inB to 0 11)=true
   ·refine Wa (.dec (.move rfl) (congrArg not (P))) rfl ?_
    have ae:=(aG.le (j.trans l))
    refine Wg (.loadB (v:= .int .i64 (fr)) na3 rfl ae rfl) rfl ?_
    have af:=(aI.le l)
    refine Wg (.loadB (v:= .int .i64 (to)) na3 rfl af rfl) rfl (Wn 2 rfl ?_)
    by_cases Q:fr=to
    ·refine Dt Q rfl rfl (Wn 9 rfl (Nx (WC.condT rfl (Sr (Wa (.buildP [.slice none 0 0,.slice none 0 0] pl61 z61 rfl rfl) rfl (Wn 1 rfl (W.sA sz61 rfl rfl (s.le (f.trans (j.trans l))) ?_)))))))
     intro bc aq bd
     have aq:Blk bc D 61 #[.slice none 0 0,.slice none 0 0]:=aq
     have be:=ap.tb bd J N
     refine Wn 1 rfl (Nx (Rt (E.thenR (E.retG3 rfl rfl (resA rfl aq ag61 (by rfl)) rfl ?_))))
     rw[bestR_bad (by unfold badR;simp[K,O,P,Q])]
     exact⟨none,0,none,0,none,0,by simp only[digs_zero];rfl,OVec.nil _ _ _ _ _ _,by simp only[digs_zero];exact OVec.nil _ _ _ _ _ _,by simp only[digs_zero];exact OVec.nil _ _ _ _ _ _,be⟩
    refine Df Q rfl rfl ?_
    have ah:=(a6.le (C.trans (z.trans (f.trans (j.trans l)))))
    refine Wg (.loadB (v:= .int .i64 (a)) na3 rfl ah rfl) rfl (W.efg rfl rfl rfl (rfl) rfl rfl (Ef.call go114 rfl rfl (rtwithin_ok a 1 1125899906842624 bb) ?_))
    rintro _ bf ⟨rfl,e⟩
    refine⟨_,rfl,?_⟩
    have aJ:=ap.trans e
    refine Wn 2 rfl ?_
    by_cases ab:(inB a 1 1125899906842624)=true
    ·refine Wa (.dec (.move rfl) (congrArg not (ab))) rfl ?_
     have ai:=(a8.le (z.trans (f.trans (j.trans (l.trans e)))))
     refine Wg (.loadB (v:= .int .i64 (x)) na3 rfl ai rfl) rfl (W.efg rfl rfl rfl (rfl) rfl rfl (Ef.call go114 rfl rfl (rtwithin_ok x 1 1048576 bf) ?_))
     rintro _ bX ⟨rfl,b⟩
     refine⟨_,rfl,?_⟩
     have aj:=aJ.trans b
     refine Wn 2 rfl (Nx ?_)
     by_cases c0:(inB x 1 1048576)=true
     ·refine Cn rfl (congrArg not (c0)) ?_
      have hbad:badR g fr to a x=false:=by unfold badR;simp[K,O,P,Q,ab,c0]
      have hft:=(bad_T hbad).2.2.2.1
      refine Sn (Sr (W.ef rfl rfl rfl (Ef.allocA z190 fun t bg ar (au:Blk bg t 190 #[.slice none 0 0,.slice none 0 0,.slice none 0 0,.int .i64 (0)]) o=>?_)))
      have aK:=aj.trans o
      refine Nx (Sr (W.ef rfl rfl rfl (Ef.alloc z191 fun R bh aL (bi:Blk bh R 191 #[.nilFunc]) u=>(Nx (Sr (Wa (.makeFunc rfl) rfl (W.ef0 rfl rfl (Ef.store sz191 rfl rfl bi (by first|decide|(simp;done)) (rfl) ?_))))))))
      intro ak al y
      have al:Blk ak R 191 #[.func (.func 115) #[] #[.pointer (some ⟨U,0,none⟩),.pointer (some ⟨Z,0,none⟩),.pointer (some ⟨aa,0,none⟩),.pointer (some ⟨t,0,none⟩),.pointer (some ⟨X,0,none⟩),.pointer (some ⟨T,0,none⟩),.pointer (some ⟨Y,0,none⟩),.pointer (some ⟨R,0,none⟩)]]:=al
      have ac:=(aK.trans u).tb y aK aL
      refine Nx (Sr (Wr (.loadB (v:= .func (.func 115) #[] #[.pointer (some ⟨U,0,none⟩),.pointer (some ⟨Z,0,none⟩),.pointer (some ⟨aa,0,none⟩),.pointer (some ⟨t,0,none⟩),.pointer (some ⟨X,0,none⟩),.pointer (some ⟨T,0,none⟩),.pointer (some ⟨Y,0,none⟩),.pointer (some ⟨R,0,none⟩)]) na191 rfl al rfl) rfl ?_))
      have aM:=((af.le (e.trans (b.trans (o.trans u)))).cn y (by have:=af.lt;have:=e.size;have:=b.size;have:=o.size;omega))
      refine Wr (.loadB (v:= .int .i64 (to)) na3 rfl aM rfl) rfl ?_
      have bj:=((ao.le (L.trans (I.trans (H.trans (C.trans (z.trans (f.trans (j.trans (l.trans (e.trans (b.trans (o.trans u)))))))))))).cn y (by have:=ao.lt;have:=L.size;have:=I.size;have:=H.size;have:=C.size;have:=z.size;have:=f.size;have:=j.size;have:=l.size;have:=e.size;have:=b.size;have:=o.size;omega))
      have bk:=((ah.le (e.trans (b.trans (o.trans u)))).cn y (by have:=ah.lt;have:=e.size;have:=b.size;have:=o.size;omega))
      have bl:=((ai.le (b.trans (o.trans u))).cn y (by have:=ai.lt;have:=b.size;have:=o.size;omega))
      have bm:=((au.le u).cn y (by have:=au.lt;omega))
      have bn:=((ae.le (e.trans (b.trans (o.trans u)))).cn y (by have:=ae.lt;have:=e.size;have:=b.size;have:=o.size;omega))
      have bo:=((f8.le (f.trans (j.trans (l.trans (e.trans (b.trans (o.trans u))))))).cn y (by have:=f8.lt;have:=f.size;have:=j.size;have:=l.size;have:=e.size;have:=b.size;have:=o.size;omega))
      have bp:=((hP.le (ad.trans (V.trans (L.trans (I.trans (H.trans (C.trans (z.trans (f.trans (j.trans (l.trans (e.trans (b.trans (o.trans u)))))))))))))).ch y (fun q hqq hF=>by cases hqq;have:=hP.lt hF;have:=ad.size;have:=V.size;have:=L.size;have:=I.size;have:=H.size;have:=C.size;have:=z.size;have:=f.size;have:=j.size;have:=l.size;have:=e.size;have:=b.size;have:=o.size;have:=aL;omega))
      have bq:LookE ak base gp F m A n c g fr to a x U Z aa t X T Y R:=⟨bj,bk,bl,bn,bo,aM,al,bp,(hV.le ac),(show U≠t from by have:=ao.lt;have:=L.size;have:=I.size;have:=H.size;have:=C.size;have:=z.size;have:=f.size;have:=j.size;have:=l.size;have:=e.size;have:=b.size;omega),(show Z≠t from by have:=ah.lt;have:=e.size;have:=b.size;omega),(show aa≠t from by have:=ai.lt;have:=b.size;omega),(show X≠t from by have:=ae.lt;have:=e.size;have:=b.size;omega),(show T≠t from by have:=f8.lt;have:=f.size;have:=j.size;have:=l.size;have:=e.size;have:=b.size;omega),(show Y≠t from by have:=af.lt;have:=e.size;have:=b.size;omega),(show R≠t from by have:=au.lt;omega),(fun k hk he=>(show¬F t from(fun hF=>by have:=hP.lt hF;have:=ad.size;have:=V.size;have:=L.size;have:=I.size;have:=H.size;have:=C.size;have:=z.size;have:=f.size;have:=j.size;have:=l.size;have:=e.size;have:=b.size;have:=ar;omega)) (he▸hk)),(fun q h1 h2 _ he=>by have:=hV.blk_lt edgeV_row h2 h1;have:=aj.size;have:=ar;omega),hn⟩
      have bt:=look_ok 9 [] (by decide) to noFnd ak bq (bs:=ak.heap.size) (Nat.le_refl _) (OVec.nil _ _ _ _ _ _) (by decide) (fun _=>rfl) (fun _ h=>hft h.symm) (by simp[rowOf]) (best_none bm)
      refine W.ef rfl rfl rfl (Ef.callC go115 rfl rfl rfl (bt) ?_)
      rintro _ bY ⟨rfl,⟨am,aO,aP,aQ,aR,aS,aT,av,aU,aV,bu,bZ,b0,b1⟩,aw⟩
      refine⟨_,rfl,?_⟩
      have aW:=ac.chP_then aw (fun i hi=>(by subst hi;exact Nat.le_trans aj.size ar))
      refine Nx (Sq (Sr (Wa (.field0 fa190_0 rfl) rfl (Wr (.loadB (v:= .slice am ((lookR g m fr to a x 9 [] to noFnd).way.length) aO) na32 rfl aT rfl) rfl (Wa (.isNil underlying32 rfl) rfl (Nx ?_))))))
      by_cases c1:am.isNone=true
      ·refine Cy rfl (c1) (Sr (Wa (.buildP [.slice none 0 0,.slice none 0 0] pl61 z61 rfl rfl) rfl (Wn 1 rfl (W.sA sz61 rfl rfl (((s.le (f.trans (j.trans (l.trans (e.trans (b.trans (o.trans u))))))).cn y (by have:=s.lt;have:=f.size;have:=j.size;have:=l.size;have:=e.size;have:=b.size;have:=o.size;omega)).chP aw (fun hF=>(show D≠t from by have:=s.lt;have:=f.size;have:=j.size;have:=l.size;have:=e.size;have:=b.size;omega) hF)) ?_))))
       intro bv ax bw
       have ax:Blk bv D 61 #[.slice none 0 0,.slice none 0 0]:=ax
       have bx:=aW.tb bw J N
       refine Wn 1 rfl (Nx (Rt (E.thenR (E.retG3 rfl rfl (resA rfl ax ag61 (by rfl)) rfl ?_))))
       rw[bestR_none hbad (Decidable.byContradiction fun hh=>by have hs:=av.vec.isSome edgeV_row (List.length_pos_iff.2 hh);have hc:=c1;revert hc hs;cases am<;>simp)]
       exact⟨none,0,none,0,none,0,by simp only[digs_zero];rfl,OVec.nil _ _ _ _ _ _,by simp only[digs_zero];exact OVec.nil _ _ _ _ _ _,by simp only[digs_zero];exact OVec.nil _ _ _ _ _ _,bx⟩
      refine Cn rfl ((Bool.eq_false_iff.2 c1)) (Sn (Sq (WC.draw [0,1,2,3,4,5,6] mixed (by kernel_rfl) fun w9 S=>(Ga rfl (.field0 fa190_0 rfl) ?_))))
      have aX:=(aT.le S)
      refine Gd rfl (.loadB (v:= .slice am ((lookR g m fr to a x 9 [] to noFnd).way.length) aO) na32 rfl aX rfl) (Ga rfl (.field0 fa190_1 rfl) (Gd rfl (.bpart [.slice aP ((digs (lookR g m fr to a x 9 [] to noFnd).odds.n).length) aQ,.slice aR ((digs (lookR g m fr to a x 9 [] to noFnd).odds.d).length) aS] ag61 rfl (by decide) rfl aX rfl) (Gn 1 rfl ?_)))
      have bz:=((((s.le (f.trans (j.trans (l.trans (e.trans (b.trans (o.trans u))))))).cn y (by have:=s.lt;have:=f.size;have:=j.size;have:=l.size;have:=e.size;have:=b.size;have:=o.size;omega)).chP aw (fun hF=>(show D≠t from by have:=s.lt;have:=f.size;have:=j.size;have:=l.size;have:=e.size;have:=b.size;omega) hF)).le S)
      refine G.ef0 rfl rfl rfl rfl (Ef.storeAll sz61 (by rfl) rfl rfl bz (by rfl) (by simp[Value.oneCell']) ?_)
      intro bA ay an
      refine noT (by kernel_rfl) ?_
      have ay:Blk bA D 61 #[.slice aP ((digs (lookR g m fr to a x 9 [] to noFnd).odds.n).length) aQ,.slice aR ((digs (lookR g m fr to a x 9 [] to noFnd).odds.d).length) aS]:=ay
      refine Gn 1 rfl (G.nil (E.thenN (Rt ?_)))
      have bB:=((aV.le S).cb an (aV.rl (by have:=s.lt;have:=f.size;have:=j.size;have:=l.size;have:=e.size;have:=b.size;have:=o.size;have:=u.size;have:=y.size;omega)))
      refine E.retG3 rfl rfl (resA rfl ay ag61 (by rfl)) rfl ?_
      rw[bestR_some hbad (fun hh=>c1 (by rw[bu hh];rfl))]
      exact⟨_,_,_,_,_,_,rfl,(((av.le S).cb an (av.rl (by have:=s.lt;have:=f.size;have:=j.size;have:=l.size;have:=e.size;have:=b.size;have:=o.size;have:=u.size;have:=y.size;omega))).mono ac.size),(((aU.le S).cb an (aU.rl (by have:=s.lt;have:=f.size;have:=j.size;have:=l.size;have:=e.size;have:=b.size;have:=o.size;have:=u.size;have:=y.size;omega))).mono ac.size),(bB.mono ac.size),((aW.trans S).tb an J N)⟩
     refine Cy rfl (congrArg not ((Bool.eq_false_iff.2 c0))) (Sr (Wa (.buildP [.slice none 0 0,.slice none 0 0] pl61 z61 rfl rfl) rfl (Wn 1 rfl (W.sA sz61 rfl rfl (s.le (f.trans (j.trans (l.trans (e.trans b))))) ?_))))
     intro bC az bD
     have az:Blk bC D 61 #[.slice none 0 0,.slice none 0 0]:=az
     have bE:=aj.tb bD J N
     refine Wn 1 rfl (Nx (Rt (E.thenR (E.retG3 rfl rfl (resA rfl az ag61 (by rfl)) rfl ?_))))
     rw[bestR_bad (by unfold badR;simp[K,O,P,Q,ab,c0])]
     exact⟨none,0,none,0,none,0,by simp only[digs_zero];rfl,OVec.nil _ _ _ _ _ _,by simp only[digs_zero];exact OVec.nil _ _ _ _ _ _,by simp only[digs_zero];exact OVec.nil _ _ _ _ _ _,bE⟩
    refine Wa (.dec (.move rfl) (congrArg not ((Bool.eq_false_iff.2 ab)))) rfl (Wn 4 rfl (Nx (WC.condT rfl (Sr (Wa (.buildP [.slice none 0 0,.slice none 0 0] pl61 z61 rfl rfl) rfl (Wn 1 rfl (W.sA sz61 rfl rfl (s.le (f.trans (j.trans (l.trans e)))) ?_)))))))
    intro bF aA bG
    have aA:Blk bF D 61 #[.slice none 0 0,.slice none 0 0]:=aA
    have bH:=aJ.tb bG J N
    refine Wn 1 rfl (Nx (Rt (E.thenR (E.retG3 rfl rfl (resA rfl aA ag61 (by rfl)) rfl ?_))))
    rw[bestR_bad (by unfold badR;simp[K,O,P,Q,ab])]
    exact⟨none,0,none,0,none,0,by simp only[digs_zero];rfl,OVec.nil _ _ _ _ _ _,by simp only[digs_zero];exact OVec.nil _ _ _ _ _ _,by simp only[digs_zero];exact OVec.nil _ _ _ _ _ _,bH⟩
   refine Wa (.dec (.move rfl) (congrArg not ((Bool.eq_false_iff.2 P)))) rfl (Wn 14 rfl (Nx (WC.condT rfl (Sr (Wa (.buildP [.slice none 0 0,.slice none 0 0] pl61 z61 rfl rfl) rfl (Wn 1 rfl (W.sA sz61 rfl rfl (s.le (f.trans (j.trans l))) ?_)))))))
   intro bI aB bJ
   have aB:Blk bI D 61 #[.slice none 0 0,.slice none 0 0]:=aB
   have bK:=ap.tb bJ J N
   refine Wn 1 rfl (Nx (Rt (E.thenR (E.retG3 rfl rfl (resA rfl aB ag61 (by rfl)) rfl ?_))))
   rw[bestR_bad (by unfold badR;simp[K,O,P])]
   exact⟨none,0,none,0,none,0,by simp only[digs_zero];rfl,OVec.nil _ _ _ _ _ _,by simp only[digs_zero];exact OVec.nil _ _ _ _ _ _,by simp only[digs_zero];exact OVec.nil _ _ _ _ _ _,bK⟩
  refine Wa (.dec (.move rfl) (congrArg not ((Bool.eq_false_iff.2 O)))) rfl (Wn 19 rfl (Nx (WC.condT rfl (Sr (Wa (.buildP [.slice none 0 0,.slice none 0 0] pl61 z61 rfl rfl) rfl (Wn 1 rfl (W.sA sz61 rfl rfl (s.le (f.trans j)) ?_)))))))
  intro bL aC bM
  have aC:Blk bL D 61 #[.slice none 0 0,.slice none 0 0]:=aC
  have bN:=aH.tb bM J N
  refine Wn 1 rfl (Nx (Rt (E.thenR (E.retG3 rfl rfl (resA rfl aC ag61 (by rfl)) rfl ?_))))
  rw[bestR_bad (by unfold badR;simp[K,O])]
  exact⟨none,0,none,0,none,0,by simp only[digs_zero];rfl,OVec.nil _ _ _ _ _ _,by simp only[digs_zero];exact OVec.nil _ _ _ _ _ _,by simp only[digs_zero];exact OVec.nil _ _ _ _ _ _,bN⟩
 refine Wa (.dec (.move rfl) (congrArg not ((Bool.eq_false_iff.2 K)))) rfl (Wn 24 rfl (Nx (WC.condT rfl (Sr (Wa (.buildP [.slice none 0 0,.slice none 0 0] pl61 z61 rfl rfl) rfl (Wn 1 rfl (W.sA sz61 rfl rfl (s.le f) ?_)))))))
 intro bO aE bP
 have aE:Blk bO D 61 #[.slice none 0 0,.slice none 0 0]:=aE
 have bQ:=L9.tb bP J N
 refine Wn 1 rfl (Nx (Rt (E.thenR (E.retG3 rfl rfl (resA rfl aE ag61 (by rfl)) rfl ?_))))
 rw[bestR_bad (by unfold badR;simp[K])]
 exact⟨none,0,none,0,none,0,by simp only[digs_zero];rfl,OVec.nil _ _ _ _ _ _,by simp only[digs_zero];exact OVec.nil _ _ _ _ _ _,by simp only[digs_zero];exact OVec.nil _ _ _ _ _ _,bQ⟩
end Go.Proofs.YtocheaahlpiajaaGreatDoor

namespace Go.Proofs.YtocheaahlpiajaaGreatDoor
open Tryz
open Go Go.Sx Go.Num Go.Gsp Go.Nsp Go.Msp Go.Rtp
set_option maxRecDepth 20000
def knV (q:Kn):List Value:=[.int .i64 q.p,.int .i64 q.d,.int .i64 q.a]
theorem knV_row:RowF knV 3:=⟨fun _=>rfl,fun x v hv=>by simp[knV]at hv;rcases hv with rfl|rfl|rfl<;>rfl,by decide⟩
def I64n (x:Int):Prop:= -9223372036854775808<=x/\x<=9223372036854775807
theorem getD_in {α:Type}{l:List α}{z:α}{k:Nat}(h:k<l.length):l.getD k z∈l:=by
  have:l.getD k z=l[k]:=by simp[List.getD,h]
  rw[this];exact List.getElem_mem h
theorem mind_next {g:List Gsp.Edge}{l:List Kn}{k:Nat}(hk:k<l.length):(l.take (k+1)).foldl (mindS g) (fun _=>none)=mindS g ((l.take k).foldl (mindS g) (fun _=>none)) (l.getD k noKn):=by
  rw[List.take_add_one,List.foldl_append]
  simp[List.getD,hk]
theorem edge39_ok (c f t ro m:Int)(w:World):Calls prog 43 #[.int .i64 (c),.int .i64 (f),.int .i64 (t),.int .i64 (ro),.int .i64 (m)] w fun r w'=>r= .returned (.agg (edgeV ⟨f,t,c,ro,⟨0,0,5,1,m⟩⟩).toArray)/\Le w w':=by
 refine enter func43 rfl rfl ?_
 have d:=Le.refl w
 refine Sr (W.ef rfl rfl rfl (Ef.allocA z81 fun e h i (j:Blk h e 81 (edgeV noEdge).toArray) k=>(Nx (Sr (Wn 5 rfl (Wa (.buildP (polV (⟨0,0,5,1,m⟩)) pl79 z79 rfl rfl) rfl (Wa (.buildP (edgeV (⟨f,t,c,ro,⟨0,0,5,1,m⟩⟩)) pl81 z81 rfl rfl) rfl (W.ef0 rfl rfl ?_))))))))
 refine Ef.storeAll sz81 (by rfl) rfl rfl j (by simp only[List.size_toArray,edgeV_row.len]) (edgeV_row.one (⟨f,t,c,ro,⟨0,0,5,1,m⟩⟩)) ?_
 intro l b n
 have b:Blk l e 81 (edgeV (⟨f,t,c,ro,⟨0,0,5,1,m⟩⟩)).toArray:=b
 refine Nx (Rt (E.retG1 rfl (resA rfl b ag81 (by rfl)) ?_))
 exact⟨rfl,((d.trans k).tb n d i)⟩

theorem few_ok {A A2:Option Addr}{n c n2 c2:Nat}(w:World):Calls prog 25 #[.slice A n c,.slice A2 n2 c2] w fun r w'=>r= .returned (.bool (decide (n<=8)&&decide (n2<=20)))/\Le w w':=by
 refine enter func25 rfl rfl ?_
 have b:=Le.refl w
 refine Sr (Wn 1 rfl (Nx (Sr (Wn 1 rfl (Wr (.len underlying32 rfl) rfl (Wn 1 rfl ?_))))))
 by_cases d:((n:Nat):Int)<=8
 ·refine Dt d rfl rfl (Wn 1 rfl (Wg (.len underlying53 rfl) rfl (Wn 3 rfl (Nx (Rt (E.retG1 rfl rfl ?_))))))
  exact⟨rB (Bool.eq_iff_iff.2 (by simp only[Bool.and_eq_true,decide_eq_true_eq,Bool.false_eq_true,false_iff,not_and];omega)),b⟩
 refine Df d rfl rfl (Wn 5 rfl (Nx (Rt (E.retG1 rfl rfl ?_))))
 exact⟨rB (Bool.eq_iff_iff.2 (by simp only[Bool.and_eq_true,decide_eq_true_eq,Bool.false_eq_true,false_iff,not_and];omega)),b⟩

theorem mind_ok {A A2:Option Addr}{n c n2 c2:Nat}{g:List Gsp.Edge}{l:List Kn}(w:World)(hV:Vec w edgeV 9 A n g)(hL:Vec w knV 3 A2 n2 l)(hgl:∀q∈l,I64n q.d)(hn:n<=9223372036854775807)(hn2:n2<=9223372036854775807):Calls prog 26 #[.slice A n c,.slice A2 n2 c2] w fun r w'=>∃gp F,r= .returned (.pointer (some ⟨gp,0,none⟩))/\MPool w' w.heap.size gp F (mindG g l)/\Le w w':=by
 have hl:=hV.1;have Q:=hL.1
 refine enter func26 rfl rfl ?_
 have u:=Le.refl w
 refine Sr (Wn 1 rfl (Nx (Sr (W.cl go64 rfl rfl (new_mind w) ?_))))
 rintro _ R ⟨H,S,rfl,T,U⟩
 refine Wn 1 rfl (Nx (Sq (Sr (Wn 1 rfl (Nx (WC.block (WC.loop (ι:=Nat) (fun k=>[(0,.slice A n c),(1,.slice A2 n2 c2),(5,.pointer (some ⟨H,0,none⟩)),(6,.int .i64 (((k:Nat):Int)))]) (fun k f=>(k<=n2)/\Le w f/\R.heap.size<=f.heap.size/\MPool f w.heap.size H S ((l.take k).foldl (mindS g) (fun _=>none))) (fun k=>n2-k) 0 ?_ ?_ ?_)))))))
 ·exact .of rfl
 ·exact⟨Nat.zero_le _,(u.trans U),Nat.le_refl _,T⟩
 rintro k f ⟨hk,e,m,b⟩
 refine Sq (Sr (Wn 2 rfl (Wr (.len underlying53 rfl) rfl (Wn 1 rfl ?_))))
 by_cases I:((k:Nat):Int)<((n2:Nat):Int)
 ·refine Dt I rfl rfl (Wn 1 rfl (Wg (Any.rd (.dec (.notNilP (by kernel_rfl) rfl) rfl) _) rfl (Wn 1 rfl (Nx (WC.condT rfl (Sn (Sq (WC.block (Sq (Sr (Wn 2 rfl (Wa (.idxS (k) underlying53 sz161 rfl rfl (hL.isSome knV_row (by omega)) (rfl) (by omega)) rfl (Wa (.vfield fa161_0 (hL.isSome knV_row (by omega)) rfl) rfl (Wr (.vcell (j:=k) (o:=0) (v:= .int .i64 ((l.getD k noKn).p)) na3 rfl (hL.le e) knV_row (getS l noKn (by omega)) rfl) rfl ?_))))))))))))))
  refine Wn 1 rfl ?_
  by_cases J:((l.getD k noKn).p)<0
  ·refine Dt J rfl rfl (Wn 9 rfl (Nx (WC.condT rfl ?_)))
   have hnx:=mind_next (g:=g) (l:=l) (k:=k) (by omega)
   have hms:((l.take (k+1)).foldl (mindS g) (fun _=>none))=((l.take k).foldl (mindS g) (fun _=>none)):=(by rw[hnx];unfold mindS;exact if_pos (by omega))
   refine WC.exit (E.thenX (E.blkH (E.thenN (WC.region (Wn 1 rfl (Wa (.add rfl rfl (by omega)) rfl (Wn 1 rfl (W.nil (E.again (k+1) (.of rfl) ?_ ?_)))))))))
   ·exact⟨by omega,e,by have:=m;omega,(by rw[hnx];unfold mindS;first|(rw[if_pos (by omega)];exact b)|(rw[if_neg (by omega),if_pos (by omega)];exact b)|(rw[if_neg (by omega),if_neg (by omega)];exact b))⟩
   first|omega|(simp only[];omega)
  refine Df J rfl rfl (Wn 2 rfl (Wg (Any.rd (.idxS (k) underlying53 sz161 rfl rfl (hL.isSome knV_row (by omega)) (rfl) (by omega)) _) rfl (Wg (Any.rd (.vfield fa161_0 (hL.isSome knV_row (by omega)) rfl) _) rfl (Wg (.vcell (j:=k) (o:=0) (v:= .int .i64 ((l.getD k noKn).p)) na3 rfl (hL.le e) knV_row (getS l noKn (by omega)) rfl) rfl (Wn 1 rfl (Wg (.len underlying32 rfl) rfl ?_))))))
  refine Wn 2 rfl (Nx ?_)
  by_cases K:((n:Nat):Int)<=((l.getD k noKn).p)
  ·refine Cy rfl (dT K) ?_
   have hnx:=mind_next (g:=g) (l:=l) (k:=k) (by omega)
   have hms:((l.take (k+1)).foldl (mindS g) (fun _=>none))=((l.take k).foldl (mindS g) (fun _=>none)):=(by rw[hnx];unfold mindS;exact if_pos (by omega))
   refine WC.exit (E.thenX (E.blkH (E.thenN (WC.region (Wn 1 rfl (Wa (.add rfl rfl (by omega)) rfl (Wn 1 rfl (W.nil (E.again (k+1) (.of rfl) ?_ ?_)))))))))
   ·exact⟨by omega,e,by have:=m;omega,(by rw[hnx];unfold mindS;first|(rw[if_pos (by omega)];exact b)|(rw[if_neg (by omega),if_pos (by omega)];exact b)|(rw[if_neg (by omega),if_neg (by omega)];exact b))⟩
   first|omega|(simp only[];omega)
  refine Cn rfl (dF K) ?_
  have V:=hgl (l.getD k noKn) (getD_in (z:=noKn) (by omega))
  unfold I64n at V
  have hnx:=mind_next (g:=g) (l:=l) (k:=k) (by omega)
  refine Sn (Sr (Wn 2 rfl (Wa (.idxS (k) underlying53 sz161 rfl rfl (hL.isSome knV_row (by omega)) (rfl) (by omega)) rfl (Wa (.vfield fa161_1 (hL.isSome knV_row (by omega)) rfl) rfl (Wr (.vcell (j:=k) (o:=1) (v:= .int .i64 ((l.getD k noKn).d)) na3 rfl (hL.le e) knV_row (getS l noKn (by omega)) rfl) rfl (Wa (.and1 rfl rfl (by omega)) rfl (Wn 1 rfl (Nx ?_))))))))
  by_cases c2:(((l.getD k noKn).d)%2)=0
  ·refine Cy rfl (dT c2) (WC.draw [0,1,2,3,4,5,6,7,8,9,10,11,12,13,14] mixed (by kernel_rfl) fun X x=>?_)
   have s:=e.trans x
   refine Gn 4 rfl (Ga rfl (.idxS (k) underlying53 sz161 rfl rfl (hL.isSome knV_row (by omega)) (rfl) (by omega)) (Ga rfl (.vfield fa161_0 (hL.isSome knV_row (by omega)) rfl) (Gd rfl (.vcell (j:=k) (o:=0) (v:= .int .i64 ((l.getD k noKn).p)) na3 rfl (hL.le s) knV_row (getS l noKn (by omega)) rfl) (Ga rfl (.idxS ((l.getD k noKn).p.toNat) underlying32 sz81 rfl rfl (hV.isSome edgeV_row (by omega)) (by omega) (by omega)) (Gd rfl (.vload ag81 rfl (hV.le s) edgeV_row (getS g noEdge (by omega))) ?_)))))
   refine Gn 2 rfl (Ga rfl (.idxS (k) underlying53 sz161 rfl rfl (hL.isSome knV_row (by omega)) (rfl) (by omega)) (Ga rfl (.vfield fa161_2 (hL.isSome knV_row (by omega)) rfl) (Gd rfl (.vcell (j:=k) (o:=2) (v:= .int .i64 ((l.getD k noKn).a)) na3 rfl (hL.le s) knV_row (getS l noKn (by omega)) rfl) ?_)))
   have L:=(b.le x)
   refine G.ef rfl rfl rfl rfl rfl (Ef.call go80 rfl rfl (fail_mind (g.getD ((l.getD k noKn).p.toNat) noEdge) ((l.getD k noKn).a) L) ?_)
   rintro _ Y ⟨rfl,y,Z,N⟩
   refine⟨_,rfl,?_⟩
   refine noT (by kernel_rfl) (G.nil (E.blkN (E.thenN (WC.region (Wn 1 rfl (Wa (.add rfl rfl (by omega)) rfl (Wn 1 rfl (W.nil (E.again (k+1) (.of rfl) ?_ ?_)))))))))
   ·exact⟨by omega,(s.chP_then N (fun i hi=>Nat.le_trans u.size (L.old hi))),by have:=m;have:=x.size;have:=N.size;omega,(by rw[hnx];unfold mindS;first|(rw[if_pos (by omega)];exact y)|(rw[if_neg (by omega),if_pos (by omega)];exact y)|(rw[if_neg (by omega),if_neg (by omega)];exact y))⟩
   first|omega|(simp only[];omega)
  refine Cn rfl (dF c2) (WC.draw [0,1,2,3,4,5,6,7,8,9,10,11,12,13,14] mixed (by kernel_rfl) fun w8 C=>?_)
  have t:=e.trans C
  refine Gn 4 rfl (Ga rfl (.idxS (k) underlying53 sz161 rfl rfl (hL.isSome knV_row (by omega)) (rfl) (by omega)) (Ga rfl (.vfield fa161_0 (hL.isSome knV_row (by omega)) rfl) (Gd rfl (.vcell (j:=k) (o:=0) (v:= .int .i64 ((l.getD k noKn).p)) na3 rfl (hL.le t) knV_row (getS l noKn (by omega)) rfl) (Ga rfl (.idxS ((l.getD k noKn).p.toNat) underlying32 sz81 rfl rfl (hV.isSome edgeV_row (by omega)) (by omega) (by omega)) (Gd rfl (.vload ag81 rfl (hV.le t) edgeV_row (getS g noEdge (by omega))) ?_)))))
  refine Gn 2 rfl (Ga rfl (.idxS (k) underlying53 sz161 rfl rfl (hL.isSome knV_row (by omega)) (rfl) (by omega)) (Ga rfl (.vfield fa161_2 (hL.isSome knV_row (by omega)) rfl) (Gd rfl (.vcell (j:=k) (o:=2) (v:= .int .i64 ((l.getD k noKn).a)) na3 rfl (hL.le t) knV_row (getS l noKn (by omega)) rfl) ?_)))
  have O:=(b.le C)
  refine G.ef rfl rfl rfl rfl rfl (Ef.call go81 rfl rfl (pass_mind (g.getD ((l.getD k noKn).p.toNat) noEdge) ((l.getD k noKn).a) O) ?_)
  rintro _ aa ⟨rfl,D,ab,P⟩
  refine⟨_,rfl,?_⟩
  refine noT (by kernel_rfl) (G.nil (E.blkN (E.thenN (WC.region (Wn 1 rfl (Wa (.add rfl rfl (by omega)) rfl (Wn 1 rfl (W.nil (E.again (k+1) (.of rfl) ?_ ?_)))))))))
  ·exact⟨by omega,(t.chP_then P (fun i hi=>Nat.le_trans u.size (O.old hi))),by have:=m;have:=C.size;have:=P.size;omega,(by rw[hnx];unfold mindS;first|(rw[if_pos (by omega)];exact D)|(rw[if_neg (by omega),if_pos (by omega)];exact D)|(rw[if_neg (by omega),if_neg (by omega)];exact D))⟩
  first|omega|(simp only[];omega)
 refine Df I rfl rfl (Wn 3 rfl (Nx (WC.condF rfl (WC.exit (E.thenX (E.thenX (E.blkH (E.thenN (Sr (Wn 2 rfl (Nx (Rt (E.retG1 rfl rfl ?_)))))))))))))
 have hke:k=n2:=(by omega)
 subst hke
 rw[show MPool=MPool from rfl]
 exact⟨_,_,rfl,(by have h:=b;rw[<-Q,List.take_length]at h;exact h),e⟩
end Go.Proofs.YtocheaahlpiajaaGreatDoor

namespace Go.Proofs.YtocheaahlpiajaaGreatDoor
open Tryz
open Go Go.Sx Go.Num Go.Gsp Go.Nsp Go.Msp Go.Rtp
set_option maxRecDepth 20000
theorem share_set {o:List Int}{a n v:Int}{i nn:Nat}(hl:o.length=nn)(hi:i<nn)(h:∀j,j<i->o.getD j 0=shareI a n j)(hv:v=shareI a n i):∀j,j<i+1->(o.set i v).getD j 0=shareI a n j:=by
  intro j hj
  by_cases e:j=i
  · subst e;rw[hv];simp[List.getD,hl,hi]
  · rw[<-h j (by omega)]
    simp[List.getD,List.getElem?_set_ne (Ne.symm e)]
theorem set_get {o:List Int}{i:Nat}{v:Int}(h:i<o.length):(o.set i v).getD i 0=v:=by
  rw[List.getD_eq_getElem?_getD,List.getElem?_set_self h]
  rfl
theorem share_up {a n:Int}(h0:0<=a/n)(h1:1<=n)(hr:0<a%n):a/n+1<=a:=by
  have hd:=Int.mul_ediv_add_emod a n
  have hq:1*(a/n)<=n*(a/n):=Int.mul_le_mul_of_nonneg_right h1 h0
  rw[Int.one_mul]at hq
  omega
theorem shares_all {o:List Int}{a n:Int}(h1:1<=n)(h8:n<=8)(h3:n<=a)(hl:o.length=n.toNat)(h:∀j,j<n.toNat->o.getD j 0=shareI a n j):o=sharesL a n:=by
  obtain⟨k1,_,c,_⟩:=sharesL_ok h1 h8 h3
  refine List.ext_getElem (by rw[hl,k1]) fun i d e=>?_
  have b:=h i (by omega)
  have f:=c i (by omega)
  rw[<-f]at b
  simpa[List.getD,d,e]using b
theorem shares_ok (a n:Int)(w:World)(ha:a<=9223372036854775807):Calls prog 14 #[.int .i64 (a),.int .i64 (n)] w fun r w'=>∃A c,r= .returned (.slice A (sharesL a n).length c)/\OVec w' w.heap.size 3 iv 1 A (sharesL a n).length c (sharesL a n)/\A.isNone=decide (sharesL a n=[])/\Le w w':=by
 refine enter func14 rfl rfl ?_
 have d:=Le.refl w
 refine Sr (Wn 1 rfl (Nx (Sq (Sr (Wn 2 rfl ?_)))))
 by_cases m:n<1
 ·refine Dt m rfl rfl (Wn 8 rfl (Nx (WC.condT rfl (Sr (Wn 1 rfl (Nx (Rt (E.thenR (E.retG1 rfl rfl ?_)))))))))
  have hz:sharesL a n=[]:=(by unfold sharesL;rw[if_pos (by omega)])
  rw[hz]
  exact⟨none,0,rfl,OVec.nil _ _ _ _ _ _,rfl,d⟩
 refine Df m rfl rfl (Wn 3 rfl ?_)
 by_cases s:8<n
 ·refine Dt s rfl rfl (Wn 4 rfl (Nx (WC.condT rfl (Sr (Wn 1 rfl (Nx (Rt (E.thenR (E.retG1 rfl rfl ?_)))))))))
  have hz:sharesL a n=[]:=(by unfold sharesL;rw[if_pos (by omega)])
  rw[hz]
  exact⟨none,0,rfl,OVec.nil _ _ _ _ _ _,rfl,d⟩
 refine Df s rfl rfl (Wn 4 rfl (Nx ?_))
 by_cases t:a<n
 ·refine Cy rfl (dT t) (Sr (Wn 1 rfl (Nx (Rt (E.thenR (E.retG1 rfl rfl ?_))))))
  have hz:sharesL a n=[]:=(by unfold sharesL;rw[if_pos (by omega)])
  rw[hz]
  exact⟨none,0,rfl,OVec.nil _ _ _ _ _ _,rfl,d⟩
 refine Cn rfl (dF t) ?_
 have hqa:=Int.ediv_le_self n (show 0<=a by omega)
 have I:=Int.ediv_nonneg (show 0<=a by omega) (show 0<=n by omega)
 refine Sn (Sr (Wa (.as (.move rfl) (int_eq (b:=((n.toNat:Nat):Int)) (by omega))) rfl (W.ef rfl rfl rfl (Ef.vmake 0 n.toNat underlying23 el3 iv_row rfl rfl (rfl) rfl (rfl) (by omega) (by unfold maxLen;omega) ?_))))
 intro u J L f x
 refine Wn 1 rfl (Nx (Sq (Sr (Wn 2 rfl (Nx (WC.block (WC.loop (ι:=Nat×(List Int)) (fun⟨i,o⟩=>[(0,.int .i64 (a)),(1,.int .i64 (n)),(5,.slice (some ⟨u,0,none⟩) n.toNat n.toNat),(20,.int .i64 (n)),(21,.int .i64 (((i:Nat):Int)))]) (fun⟨i,o⟩ e=>(i<=n.toNat)/\(o.length=n.toNat)/\(∀j,j<i->o.getD j 0=shareI a n j)/\Le w e/\J.heap.size<=e.heap.size/\OVec e w.heap.size 3 iv 1 (some ⟨u,0,none⟩) n.toNat n.toNat o) (fun⟨i,o⟩=>n.toNat-i) (0,(List.replicate n.toNat 0)) ?_ ?_ ?_)))))))
 ·exact .of rfl
 ·exact⟨Nat.zero_le _,List.length_replicate,fun j hj=>absurd hj (Nat.not_lt_zero _),(d.trans x),Nat.le_refl _,f⟩
 rintro⟨i,o⟩ e ⟨hi,hol,hos,y,z,k⟩
 have N:w.heap.size<=e.heap.size:=by have:=x.size;omega
 refine Sr (Wn 1 rfl (Nx (Sq ?_)))
 by_cases C:((i:Nat):Int)<n
 ·refine Cy rfl (dT C) (Sn (Sq (WC.block (Sr (Wn 2 rfl (Nx (Sr (Wn 4 rfl (Wa (.quo rfl rfl (by omega)) rfl (Wa (.idxS (i) underlying23 sz3 rfl rfl (f.vec.isSome iv_row (by omega)) (rfl) (by omega)) rfl (W.ef0 rfl rfl (Ef.vset (j:=i) (o:=0) (a/n) sz3 rfl (by omega) rfl k iv_row (getS o 0 (by omega)) (by decide) rfl rfl ?_))))))))))))
  intro O h l
  have D:=y.then_ l (fun q hq=>Nat.le_trans d.size (k.row hq).1)
  refine Nx (Sr (Wn 3 rfl (Wa (.rem rfl rfl (by omega)) rfl (Wn 1 rfl (Nx ?_)))))
  by_cases F:((i:Nat):Int)<(a%n)
  ·refine Cy rfl (dT F) (WC.region (Wn 2 rfl ?_))
   have hls:(o.set i (a/n)).length=n.toNat:=by rw[List.length_set];exact hol
   refine Wa (.idxS (i) underlying23 sz3 rfl rfl (f.vec.isSome iv_row (by omega)) (rfl) (by omega)) rfl (Wr (.vone (v:= .int .i64 (((o.set i (a/n)).getD i 0))) na3 rfl h.vec iv_row (getS (o.set i (a/n)) 0 (by first|omega|(simp only[List.length_cons,List.length_nil];omega))) rfl) rfl ?_)
   have hgs:=set_get (v:=a/n) (show i<o.length by omega)
   have hsu:=share_up I (show 1<=n by omega) (by omega)
   refine Wa (.add rfl rfl (by omega)) rfl (Wa (.idxS (i) underlying23 sz3 rfl rfl (f.vec.isSome iv_row (by omega)) (rfl) (by omega)) rfl (W.ef0 rfl rfl (Ef.vset (j:=i) (o:=0) (((o.set i (a/n)).getD i 0)+1) sz3 rfl (by omega) rfl h iv_row (getS (o.set i (a/n)) 0 (by omega)) (by decide) rfl rfl fun P K H=>(W.nil (E.blkN (E.thenN (WC.region (Wa (.add rfl rfl (by omega)) rfl ?_))))))))
   refine Wn 1 rfl (W.nil (E.again (i+1,(o.set i (a/n+1))) (.of rfl) ?_ ?_))
   ·exact⟨by omega,by simp[hol],share_set hol (by omega) hos (by unfold shareI;rw[if_pos (by omega)]),(D.then_ H (fun q hq=>Nat.le_trans d.size (h.row hq).1)),by have:=z;have:=l.size;have:=H.size;omega,(K.cast rfl (by rw[hgs,List.set_set]))⟩
   first|omega|(simp only[];omega)
  refine Cn rfl (dF F) (WC.skip (E.blkN (E.thenN (WC.region (Wa (.add rfl rfl (by omega)) rfl (Wn 1 rfl (W.nil (E.again (i+1,(o.set i (a/n))) (.of rfl) ?_ ?_))))))))
  ·exact⟨by omega,by simp[hol],share_set hol (by omega) hos (by unfold shareI;rw[if_neg (by omega)];omega),D,by have:=z;have:=l.size;omega,h⟩
  first|omega|(simp only[];omega)
 refine Cn rfl (dF C) (WC.exit (E.thenX (E.thenX (E.blkH (E.thenN (Sr (Wn 2 rfl (Nx (Rt (E.retG1 rfl rfl ?_))))))))))
 have hin:i=n.toNat:=(by omega)
 have hos':=shares_all (by omega) (by omega) (by omega) hol (fun j hj=>hos j (by omega))
 have hsl:=sharesL_ok (a:=a) (n:=n) (by omega) (by omega) (by omega)
 rw[dF hsl.2.2.2,hsl.1]
 subst hos'
 exact⟨_,_,rfl,(k.mono d.size),rfl,y⟩
end Go.Proofs.YtocheaahlpiajaaGreatDoor

namespace Go.Sx
open Go Go.RowKit
section
variable {α β:Type}{w w':World}{b1 b2 e1 e2 s1 s2 n1 n2 c d:Nat}{f:α->List Value}{g:β->List Value}{A B:Option Addr}{xs:List α}{ys:List β}
theorem OVec.apart_ty (h1:OVec w b1 e1 f s1 A n1 c xs)(h2:OVec w b2 e2 g s2 B n2 d ys)(hne:e1≠e2):Apart A c B d:=fun q hA hB=>by
  rcases h2.2.2 with⟨_,rfl⟩|⟨g',cur,rfl,_,hh,_⟩
  · rw[rowOf_zero]at hB;cases hB
  · have:=rowOf_lit hB
    subst this
    exact OVec.ne_blk h1 (show Blk w _ e2 cur from hh) hne hA
theorem OVec.ch_ty (h1:OVec w b1 e1 f s1 A n1 c xs)(hc:Ch w w' (rowOf B d))(h2:OVec w b2 e2 g s2 B n2 d ys)(hne:e1≠e2):OVec w' b1 e1 f s1 A n1 c xs:=h1.ch hc fun q hq ha=>h1.apart_ty h2 hne q ha hq
theorem OVec.ch_blk {t k:Nat}{cs:Array Value}(h1:OVec w b1 e1 f s1 A n1 c xs)(hc:Ch w w' (some k))(h2:Blk w k t cs)(hne:e1≠t):OVec w' b1 e1 f s1 A n1 c xs:=h1.ch hc fun q hq ha=>by
  cases hq
  exact h1.ne_blk h2 hne ha
end
end Go.Sx
namespace Go.Proofs.YtocheaahlpiajaaGreatDoor
open Go Go.Sx Go.Num Go.Gsp Go.Nsp Go.Msp Go.Rtp
set_option maxRecDepth 20000
structure PaR where
  amt:Int
  wA:Option Addr
  wN:Nat
  wC:Nat
  sA:Option Addr
  sN:Nat
  sC:Nat
  tA:Option Addr
  tN:Nat
  tC:Nat
def noPaR:PaR:=⟨0,none,0,0,none,0,0,none,0,0⟩
def prV (r:PaR):List Value:=[.int .i64 r.amt,.slice r.wA r.wN r.wC,.slice r.sA r.sN r.sC,.slice r.tA r.tN r.tC]
theorem prV_row:RowF prV 4:=⟨fun _=>rfl,fun x v hv=>by simp[prV]at hv;rcases hv with rfl|rfl|rfl|rfl<;>rfl,by decide⟩
structure PaAt (w:World)(bs:Nat)(r:PaR)(p:Prt):Prop where
  amt:r.amt=p.amt
  way:OVec w bs 81 edgeV 9 r.wA r.wN r.wC p.way
  sent:OVec w bs 3 iv 1 r.sA r.sN r.sC p.sent
  till:OVec w bs 3 iv 1 r.tA r.tN r.tC p.till
def PasAt (w:World)(bs:Nat)(rs:List PaR)(ps:List Prt):Prop:=rs.length=ps.length/\∀i,i<ps.length->PaAt w bs (rs.getD i noPaR) (ps.getD i noPrt)
section
variable {w w':World}{bs bs':Nat}{r:PaR}{p:Prt}{rs:List PaR}{ps:List Prt}{F:Nat->Prop}
theorem PaAt.le (h:PaAt w bs r p)(k:Le w w'):PaAt w' bs r p:=⟨h.1,h.2.le k,h.3.le k,h.4.le k⟩
theorem PaAt.mono (h:PaAt w bs r p)(k:bs'<=bs):PaAt w bs' r p:=⟨h.1,h.2.mono k,h.3.mono k,h.4.mono k⟩
theorem PaAt.chP (h:PaAt w bs r p)(k:ChP w w' F)(hF:∀i,F i->i<bs):PaAt w' bs r p:=
  ⟨h.1,h.2.chP k fun g hg hf=>by have:=(h.2.row hg).1;have:=hF g hf;omega,h.3.chP k fun g hg hf=>by have:=(h.3.row hg).1;have:=hF g hf;omega,h.4.chP k fun g hg hf=>by have:=(h.4.row hg).1;have:=hF g hf;omega⟩
theorem PaAt.chO {b e s n c:Nat}{α:Type}{f:α->List Value}{A:Option Addr}{xs:List α}(h:PaAt w bs r p)(k:Ch w w' (rowOf A c))(o:OVec w b e f s A n c xs)(h1:81≠e)(h2:3≠e):PaAt w' bs r p:=
  ⟨h.1,h.2.ch_ty k o h1,h.3.ch_ty k o h2,h.4.ch_ty k o h2⟩
theorem PaAt.chB {g t:Nat}{cs:Array Value}(h:PaAt w bs r p)(k:Ch w w' (some g))(o:Blk w g t cs)(h1:81≠t)(h2:3≠t):PaAt w' bs r p:=
  ⟨h.1,h.2.ch_blk k o h1,h.3.ch_blk k o h2,h.4.ch_blk k o h2⟩
theorem PasAt.nil (w:World)(bs:Nat):PasAt w bs [] []:=⟨rfl,fun i hi=>absurd hi (Nat.not_lt_zero _)⟩
theorem PasAt.le (h:PasAt w bs rs ps)(k:Le w w'):PasAt w' bs rs ps:=⟨h.1,fun i hi=>(h.2 i hi).le k⟩
theorem PasAt.mono (h:PasAt w bs rs ps)(k:bs'<=bs):PasAt w bs' rs ps:=⟨h.1,fun i hi=>(h.2 i hi).mono k⟩
theorem PasAt.chP (h:PasAt w bs rs ps)(k:ChP w w' F)(hF:∀i,F i->i<bs):PasAt w' bs rs ps:=⟨h.1,fun i hi=>(h.2 i hi).chP k hF⟩
theorem PasAt.chO {b e s n c:Nat}{α:Type}{f:α->List Value}{A:Option Addr}{xs:List α}(h:PasAt w bs rs ps)(k:Ch w w' (rowOf A c))(o:OVec w b e f s A n c xs)(h1:81≠e)(h2:3≠e):PasAt w' bs rs ps:=⟨h.1,fun i hi=>(h.2 i hi).chO k o h1 h2⟩
theorem PasAt.chB {g t:Nat}{cs:Array Value}(h:PasAt w bs rs ps)(k:Ch w w' (some g))(o:Blk w g t cs)(h1:81≠t)(h2:3≠t):PasAt w' bs rs ps:=⟨h.1,fun i hi=>(h.2 i hi).chB k o h1 h2⟩
theorem getD_app1 {α:Type}{z x:α}{l:List α}{i:Nat}(h:i<l.length):(l++[x]).getD i z=l.getD i z:=by
  rw[List.getD_eq_getElem?_getD,List.getD_eq_getElem?_getD,List.getElem?_append_left h]
theorem getD_app2 {α:Type}{z x:α}{l:List α}:(l++[x]).getD l.length z=x:=by
  rw[List.getD_eq_getElem?_getD,List.getElem?_append_right (Nat.le_refl _),Nat.sub_self]
  rfl
theorem PasAt.push (h:PasAt w bs rs ps)(k:PaAt w bs r p):PasAt w bs (rs++[r]) (ps++[p]):=by
  refine⟨by simp[h.1],fun i hi=>?_⟩
  simp only[List.length_append,List.length_cons,List.length_nil]at hi
  by_cases e:i<ps.length
  · rw[getD_app1 e,getD_app1 (by rw[h.1];exact e)]
    exact h.2 i e
  · have:i=ps.length:=by omega
    subst this
    rw[getD_app2,<-h.1,getD_app2]
    exact k
theorem PasAt.cast {ps':List Prt}(h:PasAt w bs rs ps)(e:ps=ps'):PasAt w bs rs ps':=e▸h
end
end Go.Proofs.YtocheaahlpiajaaGreatDoor

namespace Go.Proofs.YtocheaahlpiajaaGreatDoor
open Tryz
open Go Go.Sx Go.Num Go.Gsp Go.Nsp Go.Msp Go.Rtp
set_option maxRecDepth 20000
set_option maxHeartbeats 4000000
structure SendE (w:World)(F:Nat->Prop)(gp:Nat)(Ag:Option Addr)(ng cg:Nat)(g:List Gsp.Edge)(fr to x:Int)(b1 b2 b3 b4 b5 b6:Nat):Prop where
  h1:Blk w b1 32 #[.slice Ag ng cg]
  h2:Blk w b2 55 #[.pointer (some ⟨gp,0,none⟩)]
  h3:Blk w b3 3 #[.int .i64 fr]
  h4:Blk w b4 3 #[.int .i64 to]
  h5:Blk w b5 3 #[.int .i64 x]
  hg:Vec w edgeV 9 Ag ng g
  n1:¬(F b1\/b1=b6)
  n2:¬(F b2\/b2=b6)
  n3:¬(F b3\/b3=b6)
  n4:¬(F b4\/b4=b6)
  n5:¬(F b5\/b5=b6)
  n6:¬F b6
  ngg:∀q,blkOf Ag=some q->0<ng->q<w.heap.size->¬(F q\/q=b6)
  hng:ng<=1000000
def OddAt (w:World)(bs b6:Nat)(p:Fr×(Nat->Prop)):Prop:=∃An cn Ad cd,Blk w b6 61 #[.slice An (digs p.1.n).length cn,.slice Ad (digs p.1.d).length cd]/\OVec w bs 273 dv 1 An (digs p.1.n).length cn (digs p.1.n)/\OVec w bs 273 dv 1 Ad (digs p.1.d).length cd (digs p.1.d)/\(∀q,rowOf An cn=some q->¬p.2 q)/\(∀q,rowOf Ad cd=some q->¬p.2 q)/\rowOf An cn≠some b6/\rowOf Ad cd≠some b6
section
variable {w w':World}{bs b6:Nat}{p:Fr×(Nat->Prop)}
theorem OddAt.lt (h:OddAt w bs b6 p):b6<w.heap.size:=by
  obtain⟨_,_,_,_,b,_⟩:=h
  exact b.lt
theorem OddAt.le (h:OddAt w bs b6 p)(k:Le w w'):OddAt w' bs b6 p:=by
  obtain⟨An,cn,Ad,cd,b,c,d,e⟩:=h
  exact⟨An,cn,Ad,cd,b.le k,c.le k,d.le k,e⟩
theorem OddAt.chB {g t:Nat}{cs:Array Value}(h:OddAt w bs b6 p)(k:Ch w w' (some g))(o:Blk w g t cs)(h1:61≠t)(h2:273≠t):OddAt w' bs b6 p:=by
  obtain⟨An,cn,Ad,cd,k1,k2,c,d⟩:=h
  refine⟨An,cn,Ad,cd,k1.ch k (fun he=>?_),k2.ch_blk k o h2,c.ch_blk k o h2,d⟩
  have he':=Option.some.inj he
  subst he'
  have e:w.heap[g]? =_:=k1
  have b:w.heap[g]? =_:=o
  rw[e]at b
  injection b with e3
  injection e3 with _ e4 _
  exact h1 e4
theorem OddAt.chO {b e s n c:Nat}{α:Type}{f:α->List Value}{A:Option Addr}{xs:List α}(h:OddAt w bs b6 p)(k:Ch w w' (rowOf A c))(o:OVec w b e f s A n c xs)(h1:61≠e)(h2:273≠e):OddAt w' bs b6 p:=by
  obtain⟨An,cn,Ad,cd,k1,k2,d,i⟩:=h
  exact⟨An,cn,Ad,cd,k1.ch k (fun he=>o.ne_blk k1 (Ne.symm h1) he),k2.ch_ty k o h2,d.ch_ty k o h2,i⟩
end
def stepT (g : List Gsp.Edge) (fr to x : Int) (s : TrS) (share : Int) : TrS := ⟨s.out ++ [⟨share, (bestR g s.m fr to share x).1, (costG (bestR g s.m fr to share x).1 share x).1, (costG (bestR g s.m fr to share x).1 share x).2.1⟩],
      mulF s.odds (bestR g s.m fr to share x).2.1,sentK s.m (bestR g s.m fr to share x).1 (costG (bestR g s.m fr to share x).1 share x).1 (bestR g s.m fr to share x).1.length⟩
theorem tryS_yes {g:List Gsp.Edge}{fr to x share:Int}{s:TrS}(h:(bestR g s.m fr to share x).2.2=0):tryS g fr to x (some s) share=some (stepT g fr to x s share):=by
  unfold tryS stepT;simp only;rw[if_pos h]
theorem tryS_no {g:List Gsp.Edge}{fr to x share:Int}{s:TrS}(h:(bestR g s.m fr to share x).2.2≠0):tryS g fr to x (some s) share=none:=by
  unfold tryS;simp only;rw[if_neg h]
theorem send_step {base bs gp ng cg cn cd b1 b2 b3 b4 b5 b6:Nat}{F:Nat->Prop}{m:MF}{o:Fr}{out:List Prt}{Ag An Ad:Option Addr}{g:List Gsp.Edge}{fr to x:Int}(share:Int)(w:World)(hE:SendE w F gp Ag ng cg g fr to x b1 b2 b3 b4 b5 b6)(hP:MPool w base gp F m)(hB0:Blk w b6 61 #[.slice An (digs o.n).length cn,.slice Ad (digs o.d).length cd])(hBn:OVec w bs 273 dv 1 An (digs o.n).length cn (digs o.n))(hBd:OVec w bs 273 dv 1 Ad (digs o.d).length cd (digs o.d))(hBnF:∀q,rowOf An cn=some q->¬F q)(hBdF:∀q,rowOf Ad cd=some q->¬F q)(hBnb:rowOf An cn≠some b6)(hBdb:rowOf Ad cd≠some b6)(hol:LenF o 5000)(hok:okF o)(hbs:bs<=w.heap.size):Calls prog 86 #[.int .i64 (share),.pointer (some ⟨b1,0,none⟩),.pointer (some ⟨b2,0,none⟩),.pointer (some ⟨b3,0,none⟩),.pointer (some ⟨b4,0,none⟩),.pointer (some ⟨b5,0,none⟩),.pointer (some ⟨b6,0,none⟩)] w fun r w'=>ChP w w' (fun k=>F k\/k=b6)/\(((bestR g m fr to share x).2.2≠0/\r= .returned (.tuple #[.agg (prV noPaR).toArray,.bool false]))\/((bestR g m fr to share x).2.2=0/\∃r1,r= .returned (.tuple #[.agg (prV r1).toArray,.bool true])/\PaAt w' w.heap.size r1 ⟨share,(bestR g m fr to share x).1,(costG (bestR g m fr to share x).1 share x).1,(costG (bestR g m fr to share x).1 share x).2.1⟩/\MPool w' base gp F (stepT g fr to x ⟨out,o,m⟩ share).m/\OddAt w' bs b6 ((stepT g fr to x ⟨out,o,m⟩ share).odds,F))):=by
 have hgm:=hP.good
 have hgl:=hE.hg.1
 have hng:=hE.hng
 unfold LenF at hol
 refine enter func86 rfl rfl ?_
 have L0:=ChP.refl w ((fun k=>F k\/k=b6))
 refine Sr (W.ef rfl rfl rfl (Ef.allocA z34 fun J K ao (S:Blk K J 34 #[.int .i64 (0),.slice none 0 0,.slice none 0 0,.slice none 0 0]) D=>?_))
 have L:=L0.le D
 refine Wn 1 rfl (Nx (Sr (Wr (.loadB (v:= .slice Ag ng cg) na32 rfl (hE.h1.chP L hE.n1) rfl) rfl (Wr (.loadB (v:= .pointer (some ⟨gp,0,none⟩)) na55 rfl (hE.h2.chP L hE.n2) rfl) rfl (Wr (.loadB (v:= .int .i64 (fr)) na3 rfl (hE.h3.chP L hE.n3) rfl) rfl (Wr (.loadB (v:= .int .i64 (to)) na3 rfl (hE.h4.chP L hE.n4) rfl) rfl (Wn 1 rfl ?_)))))))
 refine Wr (.loadB (v:= .int .i64 (x)) na3 rfl (hE.h5.chP L hE.n5) rfl) rfl ?_
 have I:=(hP.le D)
 obtain⟨b1,T⟩:∃z,z=bestR g m fr to share x:=⟨_,rfl⟩
 have bh:=bestR_len (g:=g) (fr:=fr) (to:=to) (a:=share) (x:=x) hgm
 rw[<-T]at bh
 refine W.cl go46 rfl rfl ((by have k:=rbest_ok (c:=cg) fr to share x K I (hE.hg.chP L hE.ngg) (by omega);rw[<-T]at k;exact k)) ?_
 rintro _ b7 ⟨N,O,U,V,X,Y,rfl,aq,aT,aU,b⟩
 have L3:=L.le b
 refine Wn 2 rfl (Wa (.extract (v:= .agg #[.slice U ((digs b1.2.1.n).length) V,.slice X ((digs b1.2.1.d).length) Y]) rfl rfl) rfl (Wn 1 rfl (W.ef rfl rfl rfl (Ef.allocA z61 fun Z bi ar (bj:Blk bi Z 61 #[.slice none 0 0,.slice none 0 0]) h=>?_))))
 have L4:=L3.le h
 refine Wn 1 rfl (W.sA sz61 rfl rfl bj ?_)
 intro aa au j
 have au:Blk aa Z 61 #[.slice U ((digs b1.2.1.n).length) V,.slice X ((digs b1.2.1.d).length) Y]:=au
 have L5:ChP w aa ((fun k=>F k\/k=b6)):=L4.ch j (fun i hi hlt=>by cases hi;exact absurd hlt (by have:=L3.size;have:=ar;omega))
 refine Wn 1 rfl (Nx (Sq (Sr (Wn 2 rfl (Nx ?_)))))
 by_cases c0:b1.2.2≠0
 ·refine Cy rfl (dT c0) (Sr (Wa (.buildP [.int .i64 (0),.slice none 0 0,.slice none 0 0,.slice none 0 0] pl34 z34 rfl rfl) rfl (W.sA sz34 rfl rfl ((S.le (b.trans h)).cn j (by have:=S.lt;have:=b.size;omega)) ?_)))
  intro aV av bk
  have av:Blk aV J 34 #[.int .i64 (0),.slice none 0 0,.slice none 0 0,.slice none 0 0]:=av
  have L7:ChP w aV ((fun k=>F k\/k=b6)):=L5.ch bk (fun i hi hlt=>by cases hi;exact absurd hlt (by have:=L0.size;have:=ao;omega))
  refine Wn 1 rfl (Nx (Rt (E.thenR (E.retG2 rfl (resA rfl av ag34 (by rfl)) rfl ?_))))
  exact⟨L7,.inl ⟨by rw[<-T];assumption,rfl⟩⟩
 refine Cn rfl (dF c0) ?_
 have bl:b1.2.2=0:=by omega
 have aw:(bestR g m fr to share x).2.2=0:=by rw[<-T];exact bl
 obtain⟨_,hcd,_,_⟩:=bestR_ok hgm aw
 rw[<-T]at hcd
 have hcl:=costG_lens hcd.cost
 refine Sn (Sr (Wn 2 rfl (Wr (.loadB (v:= .int .i64 (x)) na3 rfl (hE.h5.chP L5 hE.n5) rfl) rfl ?_)))
 have f8:=((aq.le h).cb j (aq.rn (by omega)))
 refine W.cl go38 rfl rfl (cost_ok share x aa f8.vec (by omega)) ?_
 rintro _ bm ⟨ab,ac,ad,ae,rfl,ax,bn,l⟩
 refine Wn 7 rfl (Nx (Sq (Sr (Wn 1 rfl (Wr (.len underlying32 rfl) rfl (Wn 1 rfl (Nx (WC.block ?_))))))))
 have bo:=(((I.le (b.trans h)).ch j (fun q hqq hF=>by cases hqq;have:=I.lt hF;have:=b.size;have:=ar;omega)).le l)
 have bp:=(((aT.le h).cb j (aT.rn (by omega))).le l)
 have bq:=(((aU.le h).cb j (aU.rn (by omega))).le l)
 refine WC.loop (ι:=Nat) (fun k=>[(0,.int .i64 (share)),(2,.pointer (some ⟨b2,0,none⟩)),(6,.pointer (some ⟨b6,0,none⟩)),(8,.pointer (some ⟨J,0,none⟩)),(10,.slice N b1.1.length O),(11,.pointer (some ⟨Z,0,none⟩)),(13,.slice ab ((costG b1.1 share x).1.length) ac),(14,.slice ad ((costG b1.1 share x).2.1.length) ae),(40,.slice N b1.1.length O),(41,.int .i64 (((b1.1.length:Nat):Int))),(42,.int .i64 (((k:Nat):Int)))]) (fun k e=>(k<=b1.1.length)/\ChP w e ((fun k=>F k\/k=b6))/\bm.heap.size<=e.heap.size/\Blk e b6 61 #[.slice An ((digs o.n).length) cn,.slice Ad ((digs o.d).length) cd]/\OVec e bs 273 dv 1 An ((digs o.n).length) cn (digs o.n)/\OVec e bs 273 dv 1 Ad ((digs o.d).length) cd (digs o.d)/\Blk e J 34 #[.int .i64 (0),.slice none 0 0,.slice none 0 0,.slice none 0 0]/\OVec e K.heap.size 81 edgeV 9 N b1.1.length O b1.1/\Blk e Z 61 #[.slice U ((digs b1.2.1.n).length) V,.slice X ((digs b1.2.1.d).length) Y]/\OVec e K.heap.size 273 dv 1 U ((digs b1.2.1.n).length) V (digs b1.2.1.n)/\OVec e K.heap.size 273 dv 1 X ((digs b1.2.1.d).length) Y (digs b1.2.1.d)/\OVec e aa.heap.size 3 iv 1 ab ((costG b1.1 share x).1.length) ac ((costG b1.1 share x).1)/\OVec e aa.heap.size 3 iv 1 ad ((costG b1.1 share x).2.1.length) ae ((costG b1.1 share x).2.1)/\MPool e base gp F (sentK m b1.1 (costG b1.1 share x).1 k)) (fun k=>b1.1.length-k) 0 ?_ ?_ ?_
 ·exact .of rfl
 ·exact⟨Nat.zero_le _,(L5.le l),Nat.le_refl _,(((hB0.le (D.trans (b.trans h))).cn j (by have:=hB0.lt;have:=D.size;have:=b.size;omega)).le l),(((hBn.le (D.trans (b.trans h))).cb j (hBn.rn (by have:=D.size;have:=b.size;omega))).le l),(((hBd.le (D.trans (b.trans h))).cb j (hBd.rn (by have:=D.size;have:=b.size;omega))).le l),(((S.le (b.trans h)).cn j (by have:=S.lt;have:=b.size;omega)).le l),(f8.le l),(au.le l),bp,bq,ax,bn,bo⟩
 rintro k e ⟨hk,aj,bt,P,ay,az,ak,ah,aA,aB,aC,al,am,ai⟩
 have b8:K.heap.size<=e.heap.size:=by have:=b.size;have:=h.size;have:=j.size;have:=l.size;omega
 have b9:K.heap.size<=e.heap.size:=by have:=b.size;have:=h.size;have:=j.size;have:=l.size;omega
 have ca:K.heap.size<=e.heap.size:=by have:=b.size;have:=h.size;have:=j.size;have:=l.size;omega
 have cc:aa.heap.size<=e.heap.size:=by have:=l.size;omega
 have ce:aa.heap.size<=e.heap.size:=by have:=l.size;omega
 refine Sr (Wn 1 rfl (Nx (Sq ?_)))
 by_cases c1:((k:Nat):Int)<((b1.1.length:Nat):Int)
 ·refine Cy rfl (dT c1) (Sn (Sq (WC.block (Sr (Wn 1 rfl (Wa (.idxS (k) underlying32 sz81 rfl rfl (aq.vec.isSome edgeV_row (by omega)) (rfl) (by omega)) rfl (Wr (.vload ag81 rfl ah.vec edgeV_row (getS b1.1 noEdge (by first|omega|(simp only[List.length_cons,List.length_nil];omega)))) rfl ?_)))))))
  refine W.ef rfl rfl rfl (Ef.allocA z81 fun aE bu aF (bv:Blk bu aE 81 (edgeV noEdge).toArray) u=>?_)
  have bw:=aj.le u
  refine Wn 1 rfl (W.ef0 rfl rfl (Ef.storeAll sz81 (by rfl) rfl rfl bv (by simp only[List.size_toArray,edgeV_row.len]) (edgeV_row.one (b1.1.getD k noEdge)) ?_))
  intro aW aG y
  have aG:Blk aW aE 81 (edgeV (b1.1.getD k noEdge)).toArray:=aG
  have bx:ChP w aW ((fun k=>F k\/k=b6)):=bw.ch y (fun i hi hlt=>by cases hi;exact absurd hlt (by have:=aj.size;have:=aF;omega))
  refine Nx (Sq (WC.draw [0,1,2,3,4,5,6] mixed (by kernel_rfl) fun w8 s=>?_))
  have aX:=bx.le s
  refine Gd rfl (.loadB (v:= .pointer (some ⟨gp,0,none⟩)) na55 rfl (hE.h2.chP aX hE.n2) rfl) ?_
  have aY:=(aG.le s)
  refine Gd rfl (.loadAll ag81 (by rfl) rfl aY) ?_
  refine Gn 2 rfl (Ga rfl (.idxS (k) underlying23 sz3 rfl rfl (ax.vec.isSome iv_row (by omega)) (rfl) (by omega)) ?_)
  have ap:=(((al.le u).cb y (al.rn (by omega))).le s)
  refine Gd rfl (.vone (v:= .int .i64 ((((costG b1.1 share x).1).getD k 0))) na3 rfl ap.vec iv_row (getS ((costG b1.1 share x).1) 0 (by first|omega|(simp only[List.length_cons,List.length_nil];omega))) rfl) ?_
  have bz:=(((ai.le u).ch y (fun q hqq hF=>by cases hqq;have:=ai.lt hF;have:=aF;omega)).le s)
  refine G.ef rfl rfl rfl rfl rfl (Ef.call go81 rfl rfl (pass_mind (b1.1.getD k noEdge) (((costG b1.1 share x).1).getD k 0) bz) ?_)
  rintro _ cf ⟨rfl,bA,H,A⟩
  refine⟨_,rfl,?_⟩
  refine noT (by kernel_rfl) ?_
  have aZ:=(((P.le u).cn y (by have:=P.lt;omega)).le s)
  have a0:=(((ay.le u).cb y (ay.rn (by omega))).le s)
  have a1:=(((az.le u).cb y (az.rn (by omega))).le s)
  have a2:=(((ak.le u).cn y (by have:=ak.lt;omega)).le s)
  have aH:=(((ah.le u).cb y (ah.rn (by omega))).le s)
  have aI:=(((aB.le u).cb y (aB.rn (by omega))).le s)
  have aJ:=(((aC.le u).cb y (aC.rn (by omega))).le s)
  have a3:=(((aA.le u).cn y (by have:=aA.lt;omega)).le s)
  have aK:=(((am.le u).cb y (am.rn (by omega))).le s)
  have a4:=(show¬F b6 from hE.n6)
  have bB:¬F b6:=fun hF=>(H _ hF).elim a4 (fun hz=>by have:=aZ.lt;omega)
  have a5:=(show∀g,rowOf An cn=some g->¬F g from hBnF)
  have bC:∀g,rowOf An cn=some g->¬F g:=fun g hg hF=>(H _ hF).elim (a5 g hg) (fun hz=>by have:=(a0.row hg).2;omega)
  have a6:=(show∀g,rowOf Ad cd=some g->¬F g from hBdF)
  have bD:∀g,rowOf Ad cd=some g->¬F g:=fun g hg hF=>(H _ hF).elim (a6 g hg) (fun hz=>by have:=(a1.row hg).2;omega)
  have a7:=(show¬F J from(fun hF=>by have:=hP.lt hF;have:=ao;omega))
  have bE:¬F J:=fun hF=>(H _ hF).elim a7 (fun hz=>by have:=a2.lt;omega)
  have a8:=(show∀g,rowOf N O=some g->¬F g from(fun g hg hF=>by have:=I.lt hF;have:=(aH.row hg).1;omega))
  have bF:∀g,rowOf N O=some g->¬F g:=fun g hg hF=>(H _ hF).elim (a8 g hg) (fun hz=>by have:=(aH.row hg).2;omega)
  have a9:=(show∀g,rowOf U V=some g->¬F g from(fun g hg hF=>by have:=I.lt hF;have:=(aI.row hg).1;omega))
  have bG:∀g,rowOf U V=some g->¬F g:=fun g hg hF=>(H _ hF).elim (a9 g hg) (fun hz=>by have:=(aI.row hg).2;omega)
  have ba:=(show∀g,rowOf X Y=some g->¬F g from(fun g hg hF=>by have:=I.lt hF;have:=(aJ.row hg).1;omega))
  have bH:∀g,rowOf X Y=some g->¬F g:=fun g hg hF=>(H _ hF).elim (ba g hg) (fun hz=>by have:=(aJ.row hg).2;omega)
  have bb:=(show¬F Z from(fun hF=>by have:=I.lt hF;have:=b.size;have:=ar;omega))
  have bI:¬F Z:=fun hF=>(H _ hF).elim bb (fun hz=>by have:=a3.lt;omega)
  have bc:=(show∀g,rowOf ab ac=some g->¬F g from(fun g hg hF=>by have:=I.lt hF;have:=b.size;have:=h.size;have:=j.size;have:=(ap.row hg).1;omega))
  have bJ:∀g,rowOf ab ac=some g->¬F g:=fun g hg hF=>(H _ hF).elim (bc g hg) (fun hz=>by have:=(ap.row hg).2;omega)
  have bd:=(show∀g,rowOf ad ae=some g->¬F g from(fun g hg hF=>by have:=I.lt hF;have:=b.size;have:=h.size;have:=j.size;have:=(aK.row hg).1;omega))
  have bK:∀g,rowOf ad ae=some g->¬F g:=fun g hg hF=>(H _ hF).elim (bd g hg) (fun hz=>by have:=(aK.row hg).2;omega)
  refine G.nil (E.thenN (WC.draw [0,1,2,3,4,5,6] mixed (by kernel_rfl) fun w9 t=>?_))
  have be:=(aX.sub A (fun i hi hlt=>(.inl hi))).le t
  refine Gd rfl (.loadB (v:= .pointer (some ⟨gp,0,none⟩)) na55 rfl (hE.h2.chP be hE.n2) rfl) (Gd rfl (.loadAll ag81 (by rfl) rfl ((aY.chP A (show¬F aE from(fun hF=>by have:=ai.lt hF;have:=aF;omega))).le t)) ?_)
  refine Gn 2 rfl (Ga rfl (.idxS (k) underlying23 sz3 rfl rfl (ax.vec.isSome iv_row (by omega)) (rfl) (by omega)) ?_)
  have bf:=((ap.chP A bc).le t)
  refine Gd rfl (.vone (v:= .int .i64 ((((costG b1.1 share x).1).getD k 0))) na3 rfl bf.vec iv_row (getS ((costG b1.1 share x).1) 0 (by first|omega|(simp only[List.length_cons,List.length_nil];omega))) rfl) ?_
  refine G.ef rfl rfl rfl rfl rfl (Ef.call go87 rfl rfl (mov_mind (b1.1.getD k noEdge) (((costG b1.1 share x).1).getD k 0) (bA.le t)) ?_)
  rintro _ ci ⟨rfl,bL,cj,C⟩
  refine⟨_,rfl,?_⟩
  refine noT (by kernel_rfl) ?_
  have bM:=((aH.chP A a8).le t).chP C (show∀g,rowOf N O=some g->¬F g from bF)
  have bN:=((aI.chP A a9).le t).chP C (show∀g,rowOf U V=some g->¬F g from bG)
  have bO:=((aJ.chP A ba).le t).chP C (show∀g,rowOf X Y=some g->¬F g from bH)
  have bP:=((a3.chP A bb).le t).chP C (show¬F Z from bI)
  have bQ:=bf.chP C (show∀g,rowOf ab ac=some g->¬F g from bJ)
  have bR:=((aK.chP A bd).le t).chP C (show∀g,rowOf ad ae=some g->¬F g from bK)
  refine G.nil (E.blkN (E.thenN (WC.region (Wa (.add rfl rfl (by omega)) rfl (Wn 1 rfl (W.nil (E.again (k+1) (.of rfl) ?_ ?_)))))))
  ·exact⟨by omega,(be.sub C (fun i hi hlt=>(.inl hi))),by have:=bt;have:=u.size;have:=y.size;have:=s.size;have:=A.size;have:=t.size;have:=C.size;omega,(((aZ.chP A a4).le t).chP C (show¬F b6 from bB)),(((a0.chP A a5).le t).chP C (show∀g,rowOf An cn=some g->¬F g from bC)),(((a1.chP A a6).le t).chP C (show∀g,rowOf Ad cd=some g->¬F g from bD)),(((a2.chP A a7).le t).chP C (show¬F J from bE)),bM,bP,bN,bO,bQ,bR,bL⟩
  first|omega|(simp only[];omega)
 refine Cn rfl (dF c1) (WC.exit (E.thenX (E.thenX (E.blkH (E.thenN (Sr (Wr (.loadAll ag61 (by rfl) rfl P) rfl ?_)))))))
 refine Wr (.loadAll ag61 (by rfl) rfl aA) rfl ?_
 refine W.cl go88 rfl rfl (frcmul_ok e ay.vec az.vec (by omega) (by omega) aB.vec aC.vec (by omega) (by omega)) ?_
 rintro _ ck ⟨bS,bT,bU,bV,rfl,aL,aM,af⟩
 have bW:=aj.le af
 refine W.sA sz61 rfl rfl (P.le af) ?_
 intro bg aO Q
 have aO:Blk bg b6 61 #[.slice bS ((digs ((mulF (takF (⟨o.n,o.d⟩:Fr)) (takF (⟨b1.2.1.n,b1.2.1.d⟩:Fr))).n)).length) bT,.slice bU ((digs ((mulF (takF (⟨o.n,o.d⟩:Fr)) (takF (⟨b1.2.1.n,b1.2.1.d⟩:Fr))).d)).length) bV]:=aO
 have bX:ChP w bg ((fun k=>F k\/k=b6)):=bW.ch Q (fun i hi _=>by cases hi;exact(.inr rfl))
 refine Nx (Sr (Wn 4 rfl (Wa (.buildP [.int .i64 (share),.slice N b1.1.length O,.slice ab ((costG b1.1 share x).1.length) ac,.slice ad ((costG b1.1 share x).2.1.length) ae] pl34 z34 rfl rfl) rfl (W.sA sz34 rfl rfl ((ak.le af).cn Q (by have:=hB0.lt;omega)) ?_))))
 intro aP aQ R
 have aQ:Blk aP J 34 #[.int .i64 (share),.slice N b1.1.length O,.slice ab ((costG b1.1 share x).1.length) ac,.slice ad ((costG b1.1 share x).2.1.length) ae]:=aQ
 have bY:ChP w aP ((fun k=>F k\/k=b6)):=bX.ch R (fun i hi hlt=>by cases hi;exact absurd hlt (by have:=L0.size;have:=ao;omega))
 refine Wn 1 rfl (Nx (Rt ?_))
 have bZ:=(((ai.le af).ch Q (fun q hqq hF=>by cases hqq;exact hE.n6 hF)).ch R (fun q hqq hF=>by cases hqq;have:=hP.lt hF;have:=ao;omega))
 have b0:=(aO.cn R (by have:=hB0.lt;omega))
 have aR:=((aL.cb Q (aL.rl (by have:=P.lt;omega))).cb R (aL.rl (by have:=ak.lt;omega)))
 have aS:=((aM.cb Q (aM.rl (by have:=P.lt;omega))).cb R (aM.rl (by have:=ak.lt;omega)))
 refine E.retG2 rfl (resA rfl aQ ag34 (by rfl)) rfl ?_
 have hbo:okF b1.2.1:=by rw[T];exact(best_unit hgm aw).1
 have an:bestR g m fr to share x=b1:=T.symm
 have hkl:k=b1.1.length:=(by omega)
 subst hkl
 have hmm:(⟨(mulF (takF (⟨o.n,o.d⟩:Fr)) (takF (⟨b1.2.1.n,b1.2.1.d⟩:Fr))).n,(mulF (takF (⟨o.n,o.d⟩:Fr)) (takF (⟨b1.2.1.n,b1.2.1.d⟩:Fr))).d⟩:Fr)=mulF o b1.2.1:=(by rw[takF_id (f:=⟨o.n,o.d⟩) hok,takF_id (f:=⟨b1.2.1.n,b1.2.1.d⟩) hbo])
 have hmn:(mulF (takF (⟨o.n,o.d⟩:Fr)) (takF (⟨b1.2.1.n,b1.2.1.d⟩:Fr)))=mulF o b1.2.1:=hmm
 have hO:OddAt aP bs b6 (mulF (takF (⟨o.n,o.d⟩:Fr)) (takF (⟨b1.2.1.n,b1.2.1.d⟩:Fr)),F):=⟨_,_,_,_,b0,((aR.mono aj.size).mono hbs),((aS.mono aj.size).mono hbs),(fun g hg hF=>by have:=ai.lt hF;have:=(aR.row hg).1;omega),(fun g hg hF=>by have:=ai.lt hF;have:=(aS.row hg).1;omega),(aR.rl (by have:=P.lt;omega)),(aS.rl (by have:=P.lt;omega))⟩
 rw[hmn]at hO
 refine⟨bY,.inr ⟨aw,⟨share,_,_,_,_,_,_,_,_,_⟩,rfl,⟨rfl,?_,?_,?_⟩,?_,?_⟩⟩
 ·rw[an];exact((((ah.le af).cb Q (ah.rl (by have:=hB0.lt;have:=D.size;omega))).cb R (ah.rl (by have:=S.lt;omega))).mono L.size)
 ·rw[an];exact((((al.le af).cb Q (al.rl (by have:=hB0.lt;have:=D.size;have:=b.size;have:=h.size;have:=j.size;omega))).cb R (al.rl (by have:=S.lt;have:=b.size;have:=h.size;have:=j.size;omega))).mono L5.size)
 ·rw[an];exact((((am.le af).cb Q (am.rl (by have:=hB0.lt;have:=D.size;have:=b.size;have:=h.size;have:=j.size;omega))).cb R (am.rl (by have:=S.lt;have:=b.size;have:=h.size;have:=j.size;omega))).mono L5.size)
 ·unfold stepT;rw[an];exact bZ
 unfold stepT;rw[an];exact hO
end Go.Proofs.YtocheaahlpiajaaGreatDoor

namespace Go.Proofs.YtocheaahlpiajaaGreatDoor
open Tryz
open Go Go.Sx Go.Num Go.Gsp Go.Nsp Go.Msp Go.Rtp
set_option maxRecDepth 20000
set_option maxHeartbeats 4000000
theorem send_ok {w:World}{base bs gp ng cg b1 b2 b3 b4 b5 b6:Nat}{F:Nat->Prop}{s:TrS}{Ag:Option Addr}{g:List Gsp.Edge}{fr to x:Int}(share:Int)(hE:SendE w F gp Ag ng cg g fr to x b1 b2 b3 b4 b5 b6)(hP:MPool w base gp F s.m)(hO:OddAt w bs b6 (s.odds,F))(hl:LenF s.odds 5000)(hk:okF s.odds)(hbs:bs<=w.heap.size):
    Calls prog 86 #[.int .i64 share,.pointer (some ⟨b1,0,none⟩),.pointer (some ⟨b2,0,none⟩),.pointer (some ⟨b3,0,none⟩),.pointer (some ⟨b4,0,none⟩),.pointer (some ⟨b5,0,none⟩),.pointer (some ⟨b6,0,none⟩)] w fun r w'=>ChP w w' (fun k=>F k\/k=b6)/\(((bestR g s.m fr to share x).2.2≠0/\r= .returned (.tuple #[.agg (prV noPaR).toArray,.bool false]))\/((bestR g s.m fr to share x).2.2=0/\∃r1,r= .returned (.tuple #[.agg (prV r1).toArray,.bool true])/\PaAt w' w.heap.size r1 ⟨share,(bestR g s.m fr to share x).1,(costG (bestR g s.m fr to share x).1 share x).1,(costG (bestR g s.m fr to share x).1 share x).2.1⟩/\MPool w' base gp F (stepT g fr to x s share).m/\OddAt w' bs b6 ((stepT g fr to x s share).odds,F))):=by
  obtain⟨An,cn,Ad,cd,b,c,d,e,f,h,i⟩:=hO
  exact send_step (out:=s.out) share w hE hP b c d e f h i hl hk hbs
theorem send_yes {w:World}{base bs gp ng cg b1 b2 b3 b4 b5 b6:Nat}{F:Nat->Prop}{s:TrS}{Ag:Option Addr}{g:List Gsp.Edge}{fr to x:Int}(share:Int)(hE:SendE w F gp Ag ng cg g fr to x b1 b2 b3 b4 b5 b6)(hP:MPool w base gp F s.m)(hO:OddAt w bs b6 (s.odds,F))(hl:LenF s.odds 5000)(hk:okF s.odds)(hbs:bs<=w.heap.size)(h:(bestR g s.m fr to share x).2.2=0):
    Calls prog 86 #[.int .i64 share,.pointer (some ⟨b1,0,none⟩),.pointer (some ⟨b2,0,none⟩),.pointer (some ⟨b3,0,none⟩),.pointer (some ⟨b4,0,none⟩),.pointer (some ⟨b5,0,none⟩),.pointer (some ⟨b6,0,none⟩)] w fun r w'=>∃r1,r= .returned (.tuple #[.agg (prV r1).toArray,.bool true])/\PaAt w' w.heap.size r1 ⟨share,(bestR g s.m fr to share x).1,(costG (bestR g s.m fr to share x).1 share x).1,(costG (bestR g s.m fr to share x).1 share x).2.1⟩/\MPool w' base gp F (stepT g fr to x s share).m/\OddAt w' bs b6 ((stepT g fr to x s share).odds,F)/\ChP w w' (fun k=>F k\/k=b6):=by
  refine Calls.mono (send_ok share hE hP hO hl hk hbs) ?_
  rintro r w' ⟨hc,⟨k1,_⟩|⟨_,r1,k2,b,c,d⟩⟩
  · exact absurd h k1
  · exact⟨r1,k2,b,c,d,hc⟩
theorem send_no {w:World}{base bs gp ng cg b1 b2 b3 b4 b5 b6:Nat}{F:Nat->Prop}{s:TrS}{Ag:Option Addr}{g:List Gsp.Edge}{fr to x:Int}(share:Int)(hE:SendE w F gp Ag ng cg g fr to x b1 b2 b3 b4 b5 b6)(hP:MPool w base gp F s.m)(hO:OddAt w bs b6 (s.odds,F))(hl:LenF s.odds 5000)(hk:okF s.odds)(hbs:bs<=w.heap.size)(h:¬(bestR g s.m fr to share x).2.2=0):
    Calls prog 86 #[.int .i64 share,.pointer (some ⟨b1,0,none⟩),.pointer (some ⟨b2,0,none⟩),.pointer (some ⟨b3,0,none⟩),.pointer (some ⟨b4,0,none⟩),.pointer (some ⟨b5,0,none⟩),.pointer (some ⟨b6,0,none⟩)] w fun r w'=>r= .returned (.tuple #[.agg (prV noPaR).toArray,.bool false])/\ChP w w' (fun k=>F k\/k=b6):=by
  refine Calls.mono (send_ok share hE hP hO hl hk hbs) ?_
  rintro r w' ⟨hc,⟨_,k1⟩|⟨k1,_⟩⟩
  · exact⟨k1,hc⟩
  · exact absurd k1 h
theorem sharesL_le (a n:Int):(sharesL a n).length<=8:=by
  unfold sharesL
  split
  · exact Nat.zero_le _
  · rw[List.length_map,List.length_range];omega
def totP:List Prt->Int
  |[]=>0
  |p::ps=>p.sent.getD 0 0+totP ps
theorem totP_next {ps:List Prt}{k:Nat}(h:k<ps.length):totP (ps.take (k+1))=totP (ps.take k)+(ps.getD k noPrt).sent.getD 0 0:=by
  have ha:∀l:List Prt,∀p,totP (l++[p])=totP l+p.sent.getD 0 0:=fun l p=>by
    induction l with
    |nil=>show p.sent.getD 0 0+0=0+p.sent.getD 0 0;omega
    |cons y l ih=>show y.sent.getD 0 0+totP (l++[p])=y.sent.getD 0 0+totP l+p.sent.getD 0 0;rw[ih];omega
  rw[List.take_add_one]
  simp only[List.getD,h,List.getElem?_eq_getElem,Option.toList,Option.getD]
  exact ha _ _
theorem totP_zero {ps:List Prt}{k:Nat}(h:k<ps.length)(h0:(ps.getD k noPrt).sent.length=0):totP (ps.take k)=totP (ps.take (k+1)):=by
  rw[totP_next h,List.length_eq_zero_iff.1 h0]
  show _=_+(0:Int)
  omega
theorem tryG_arg {g:List Gsp.Edge}{m:MF}{fr to a x n:Int}(h1:1<=n)(h8:n<=8)(h:(tryG g m fr to a x n).2.2=1):(bestR g m fr to a x).2.2=1:=by
  unfold tryG at h
  split at h
  · omega
  · split at h
    · cases h
    · cases h
def TotOk (ps:List Prt):Prop:=ps.length<=8/\∀p∈ps,∀s∈p.sent,0<=s/\s<=1125899906842624
theorem totP_ok {ps:List Prt}(h:TotOk ps):∀k:Nat,0<=totP (ps.take k)/\totP (ps.take k)<=k*1125899906842624
  |0=>by simp[totP]
  |k+1=>by
    have ih:=totP_ok h k
    rcases Nat.lt_or_ge k ps.length with q|q
    · rw[totP_next q]
      have hm:ps.getD k noPrt∈ps:=getD_mem (z:=noPrt) q
      have:0<=(ps.getD k noPrt).sent.getD 0 0/\(ps.getD k noPrt).sent.getD 0 0<=1125899906842624:=by
        cases hs:(ps.getD k noPrt).sent with
        |nil=>simp
        |cons y l=>exact h.2 _ hm y (by rw[hs];exact List.mem_cons_self ..)
      omega
    · rw[List.take_of_length_le (by omega)]at ih ⊢
      omega
theorem sptry_ok {base gp:Nat}{F:Nat->Prop}{m:MF}(fr to a x n:Int){A:Option Addr}{n0 c:Nat}{g:List Gsp.Edge}(w:World)(hP:MPool w base gp F m)(hV:Vec w edgeV 9 A n0 g)(hn:n0<=1000000)(ha:a<=9223372036854775807):Calls prog 28 #[.slice A n0 c,.pointer (some ⟨gp,0,none⟩),.int .i64 (fr),.int .i64 (to),.int .i64 (a),.int .i64 (x),.int .i64 (n)] w fun r w'=>∃A c rs An cn Ad cd,r= .returned (.tuple #[.slice A (tryG g m fr to a x n).1.length c,.agg #[.slice An (digs (tryG g m fr to a x n).2.1.n).length cn,.slice Ad (digs (tryG g m fr to a x n).2.1.d).length cd],.int .i64 (tryG g m fr to a x n).2.2])/\OVec w' w.heap.size 34 prV 4 A (tryG g m fr to a x n).1.length c rs/\PasAt w' w.heap.size rs (tryG g m fr to a x n).1/\OVec w' w.heap.size 273 dv 1 An (digs (tryG g m fr to a x n).2.1.n).length cn (digs (tryG g m fr to a x n).2.1.n)/\OVec w' w.heap.size 273 dv 1 Ad (digs (tryG g m fr to a x n).2.1.d).length cd (digs (tryG g m fr to a x n).2.1.d)/\((tryG g m fr to a x n).1=[]->A=none)/\Le w w':=by
 have hl:=hV.1
 have hgm:=hP.good
 refine enter func28 rfl rfl (Sr (W.ef rfl rfl rfl (Ef.box rfl fun Y bO c3 (ba:Blk bO Y 32 #[.slice A n0 c]) bb=>?_)))
 have L1:=(Le.refl w).trans bb
 refine W.ef rfl rfl rfl (Ef.box rfl fun X bP bQ (av:Blk bP X 55 #[.pointer (some ⟨gp,0,none⟩)]) aP=>(W.ef rfl rfl rfl (Ef.box rfl fun Z bR c4 (bS:Blk bR Z 3 #[.int .i64 (fr)]) ad=>(W.ef rfl rfl rfl (Ef.box rfl ?_)))))
 intro aa bT c5 aQ ae
 have aQ:Blk bT aa 3 #[.int .i64 (to)]:=aQ
 refine W.ef rfl rfl rfl (Ef.box rfl fun ab bU c6 (bV:Blk bU ab 3 #[.int .i64 (x)]) af=>?_)
 have L5:=(((L1.trans aP).trans ad).trans ae).trans af
 refine Wn 1 rfl (W.ef rfl rfl rfl (Ef.allocA z61 fun Q bc al (H:Blk bc Q 61 #[.slice none 0 0,.slice none 0 0]) ah=>?_))
 have L6:=L5.trans ah
 refine Wn 1 rfl (Nx (Sq (Sr ?_)))
 have S:=(ba.le (aP.trans (ad.trans (ae.trans (af.trans ah)))))
 refine Wr (.loadB (v:= .slice A n0 c) na32 rfl S rfl) rfl ?_
 have f8:=(av.le (ad.trans (ae.trans (af.trans ah))))
 refine Wr (.loadB (v:= .pointer (some ⟨gp,0,none⟩)) na55 rfl f8 rfl) rfl ?_
 have T:=(bS.le (ae.trans (af.trans ah)))
 refine Wr (.loadB (v:= .int .i64 (fr)) na3 rfl T rfl) rfl ?_
 have U:=(aQ.le (af.trans ah))
 refine Wr (.loadB (v:= .int .i64 (to)) na3 rfl U rfl) rfl (Wn 1 rfl ?_)
 have V:=(bV.le ah)
 refine Wr (.loadB (v:= .int .i64 (x)) na3 rfl V rfl) rfl ?_
 have aR:=(hP.le (bb.trans (aP.trans (ad.trans (ae.trans (af.trans ah))))))
 obtain⟨b0,am⟩:∃z,z=bestR g m fr to a x:=⟨_,rfl⟩
 have bW:=bestR_len (g:=g) (fr:=fr) (to:=to) (a:=a) (x:=x) hgm
 rw[<-am]at bW
 refine W.cl go46 rfl rfl ((by have k:=rbest_ok (c:=c) fr to a x bc aR (hV.le L6) (by omega);rw[<-am]at k;exact k)) ?_
 rintro _ c7 ⟨c8,c9,bX,bY,bZ,b1,rfl,da,db,dc,b⟩
 have bd:=L6.trans b
 refine Wn 2 rfl (Wa (.extract (v:= .agg #[.slice bX ((digs b0.2.1.n).length) bY,.slice bZ ((digs b0.2.1.d).length) b1]) rfl rfl) rfl (Wn 1 rfl (W.ef rfl rfl rfl (Ef.allocA z61 fun b2 b3 be (b4:Blk b3 b2 61 #[.slice none 0 0,.slice none 0 0]) e=>(Wn 1 rfl (W.sA sz61 rfl rfl b4 ?_))))))
 intro aS dd f
 have aC:=(bd.trans e).tb f bd be
 refine Wn 1 rfl (Nx (Sr (Wn 2 rfl ?_)))
 by_cases bf:n<1
 ·refine Dt bf rfl rfl (Wn 7 rfl (Nx (WC.condT rfl (Sr (Wa (.buildP [.slice none 0 0,.slice none 0 0] pl61 z61 rfl rfl) rfl (Wn 1 rfl (W.sA sz61 rfl rfl ((H.le (b.trans e)).cn f (by have:=H.lt;have:=b.size;omega)) ?_)))))))
  intro b5 aT b6
  have aT:Blk b5 Q 61 #[.slice none 0 0,.slice none 0 0]:=aT
  have b7:=aC.tb b6 L5 al
  refine Wn 1 rfl (Nx (Rt (E.thenR (E.retG3 rfl rfl (resA rfl aT ag61 (by rfl)) rfl ?_))))
  rw[tryG_bad (by rw[<-am];omega)]
  exact⟨none,0,[],none,0,none,0,by simp only[digs_zero];rfl,OVec.nil _ _ _ _ _ _,PasAt.nil _ _,by simp only[digs_zero];exact OVec.nil _ _ _ _ _ _,by simp only[digs_zero];exact OVec.nil _ _ _ _ _ _,fun _=>rfl,b7⟩
 refine Df bf rfl rfl (Wn 3 rfl ?_)
 by_cases bg:8<n
 ·refine Dt bg rfl rfl (Wn 3 rfl (Nx (WC.condT rfl (Sr (Wa (.buildP [.slice none 0 0,.slice none 0 0] pl61 z61 rfl rfl) rfl (Wn 1 rfl (W.sA sz61 rfl rfl ((H.le (b.trans e)).cn f (by have:=H.lt;have:=b.size;omega)) ?_)))))))
  intro b8 aU b9
  have aU:Blk b8 Q 61 #[.slice none 0 0,.slice none 0 0]:=aU
  have ca:=aC.tb b9 L5 al
  refine Wn 1 rfl (Nx (Rt (E.thenR (E.retG3 rfl rfl (resA rfl aU ag61 (by rfl)) rfl ?_))))
  rw[tryG_bad (by rw[<-am];omega)]
  exact⟨none,0,[],none,0,none,0,by simp only[digs_zero];rfl,OVec.nil _ _ _ _ _ _,PasAt.nil _ _,by simp only[digs_zero];exact OVec.nil _ _ _ _ _ _,by simp only[digs_zero];exact OVec.nil _ _ _ _ _ _,fun _=>rfl,ca⟩
 refine Df bg rfl rfl (Wn 3 rfl (Nx ?_))
 by_cases c0:b0.2.2=1
 ·refine Cy rfl (dT c0) (Sr (Wa (.buildP [.slice none 0 0,.slice none 0 0] pl61 z61 rfl rfl) rfl (Wn 1 rfl (W.sA sz61 rfl rfl ((H.le (b.trans e)).cn f (by have:=H.lt;have:=b.size;omega)) ?_))))
  intro cc aV ce
  have aV:Blk cc Q 61 #[.slice none 0 0,.slice none 0 0]:=aV
  have cf:=aC.tb ce L5 al
  refine Wn 1 rfl (Nx (Rt (E.thenR (E.retG3 rfl rfl (resA rfl aV ag61 (by rfl)) rfl ?_))))
  rw[tryG_bad (by rw[<-am];omega)]
  exact⟨none,0,[],none,0,none,0,by simp only[digs_zero];rfl,OVec.nil _ _ _ _ _ _,PasAt.nil _ _,by simp only[digs_zero];exact OVec.nil _ _ _ _ _ _,by simp only[digs_zero];exact OVec.nil _ _ _ _ _ _,fun _=>rfl,cf⟩
 refine Cn rfl (dF c0) ?_
 have aW:¬(n<1\/8<n\/(bestR g m fr to a x).2.2=1):=by rw[<-am];omega
 refine Sn (Sr (Wn 2 rfl (W.cl go14 rfl rfl (shares_ok a n aS (by omega)) ?_)))
 rintro _ cg ⟨aX,bh,rfl,an,bi,j⟩
 have ao:=aC.trans j
 refine Wn 1 rfl (Nx (Sq (Sr (Wn 1 rfl (Wa (.isNil underlying23 rfl) rfl (Nx ?_))))))
 by_cases c1:aX.isNone=true
 ·refine Cy rfl (c1) (Sr (Wa (.buildP [.slice none 0 0,.slice none 0 0] pl61 z61 rfl rfl) rfl (Wn 1 rfl (W.sA sz61 rfl rfl (((H.le (b.trans e)).cn f (by have:=H.lt;have:=b.size;omega)).le j) ?_))))
  intro ci aY cj
  have aY:Blk ci Q 61 #[.slice none 0 0,.slice none 0 0]:=aY
  have ck:=ao.tb cj L5 al
  refine Wn 1 rfl (Nx (Rt (E.thenR (E.retG3 rfl rfl (resA rfl aY ag61 (by rfl)) rfl ?_))))
  rw[tryG_none aW (.inl (of_decide_eq_true (bi.symm.trans (by assumption))))]
  exact⟨none,0,[],none,0,none,0,by simp only[digs_zero];rfl,OVec.nil _ _ _ _ _ _,PasAt.nil _ _,by simp only[digs_zero];exact OVec.nil _ _ _ _ _ _,by simp only[digs_zero];exact OVec.nil _ _ _ _ _ _,fun _=>rfl,ck⟩
 refine Cn rfl ((Bool.eq_false_iff.2 c1)) ?_
 have hsn:sharesL a n≠[]:=fun hh=>absurd (bi.trans (dT hh)) (by assumption)
 have de:=sharesL_le a n
 refine Sn (Sr ?_)
 have ap:=(((f8.le (b.trans e)).cn f (by have:=f8.lt;have:=b.size;omega)).le j)
 refine Wr (.loadB (v:= .pointer (some ⟨gp,0,none⟩)) na55 rfl ap rfl) rfl ?_
 have cm:=(((aR.le (b.trans e)).ch f (fun q hqq hF=>by cases hqq;have:=aR.lt hF;have:=b.size;have:=be;omega)).le j)
 refine W.cl go85 rfl rfl (copy_mind cm) ?_
 rintro _ dg ⟨aw,ac,rfl,aq,t⟩
 refine W.ef0 rfl rfl (Ef.store sz55 rfl rfl (ap.le t) (by first|decide|(simp;done)) (rfl) ?_)
 intro ax ai o
 have ai:Blk ax X 55 #[.pointer (some ⟨aw,0,none⟩)]:=ai
 have aZ:=(ao.trans t).tb o L1 bQ
 refine Nx (Sr (W.cl go39 rfl rfl (fof_ok 1 1 ax (by omega) (by omega) (by omega)) ?_))
 rintro _ dh ⟨bj,bk,bl,bm,rfl,a0,a1,l⟩
 have ar:=aZ.trans l
 refine Wn 1 rfl (Wa (.extract (v:= .agg #[.slice bj ((digs ((lowF 1 1).n)).length) bk,.slice bl ((digs ((lowF 1 1).d)).length) bm]) rfl rfl) rfl (Wn 1 rfl (W.ef rfl rfl rfl (Ef.allocA z61 fun u cp aj (cq:Blk cp u 61 #[.slice none 0 0,.slice none 0 0]) L=>(W.sA sz61 rfl rfl cq ?_)))))
 intro R a2 N
 have a2:Blk R u 61 #[.slice bj ((digs ((lowF 1 1).n)).length) bk,.slice bl ((digs ((lowF 1 1).d)).length) bm]:=a2
 have aE:=(ar.trans L).tb N ar aj
 refine Wn 1 rfl (Nx (Sr ?_))
 have bn:=((a0.le L).cb N (a0.rn (by omega)))
 have bo:=((a1.le L).cb N (a1.rn (by omega)))
 have hgo:¬ac u:=(fun hF=>by have:=aq.lt hF;have:=o.size;have:=l.size;have:=aj;omega)
 have cr:(⟨(lowF 1 1).n,(lowF 1 1).d⟩:Fr)=⟨1,1⟩:=by decide
 have aF:OddAt R ax.heap.size u ((⟨(lowF 1 1).n,(lowF 1 1).d⟩:Fr),ac):=⟨_,_,_,_,a2,bn,bo,(fun g hg hF=>by have:=aq.lt hF;have:=o.size;have:=(bn.row hg).1;omega),(fun g hg hF=>by have:=aq.lt hF;have:=o.size;have:=(bo.row hg).1;omega),(a0.rn (by omega)),(a1.rn (by omega))⟩
 rw[cr]at aF
 refine Wa (.makeFunc rfl) rfl (Wn 1 rfl (Nx (Sr (Wn 1 rfl (Nx (Sq (Sr (Wn 1 rfl (Wr (.len underlying23 rfl) rfl (Wn 1 rfl (Nx (WC.block ?_))))))))))))
 have aG:=(((aq.ch o (fun q hqq hF=>by cases hqq;have:=aq.old hF;have:=ap.lt;omega)).le (l.trans L)).ch N (fun q hqq hF=>by cases hqq;have:=aq.lt hF;have:=o.size;have:=l.size;have:=aj;omega))
 have a3:=((((((H.le (b.trans e)).cn f (by have:=H.lt;have:=b.size;omega)).le (j.trans t)).cn o (by have:=av.lt;have:=ad.size;have:=ae.size;have:=af.size;omega)).le (l.trans L)).cn N (by have:=H.lt;have:=b.size;have:=e.size;have:=f.size;have:=j.size;have:=t.size;have:=o.size;have:=l.size;omega))
 have bp:=((((((S.le (b.trans e)).cn f (by have:=S.lt;have:=b.size;omega)).le (j.trans t)).cn o (by have:=ba.lt;omega)).le (l.trans L)).cn N (by have:=S.lt;have:=b.size;have:=e.size;have:=f.size;have:=j.size;have:=t.size;have:=o.size;have:=l.size;omega))
 have bq:=((ai.le (l.trans L)).cn N (by have:=ai.lt;have:=l.size;omega))
 have bs:=((((((T.le (b.trans e)).cn f (by have:=T.lt;have:=b.size;omega)).le (j.trans t)).cn o (by have:=av.lt;omega)).le (l.trans L)).cn N (by have:=T.lt;have:=b.size;have:=e.size;have:=f.size;have:=j.size;have:=t.size;have:=o.size;have:=l.size;omega))
 have bt:=((((((U.le (b.trans e)).cn f (by have:=U.lt;have:=b.size;omega)).le (j.trans t)).cn o (by have:=av.lt;have:=ad.size;omega)).le (l.trans L)).cn N (by have:=U.lt;have:=b.size;have:=e.size;have:=f.size;have:=j.size;have:=t.size;have:=o.size;have:=l.size;omega))
 have bu:=((((((V.le (b.trans e)).cn f (by have:=V.lt;have:=b.size;omega)).le (j.trans t)).cn o (by have:=av.lt;have:=ad.size;have:=ae.size;omega)).le (l.trans L)).cn N (by have:=V.lt;have:=b.size;have:=e.size;have:=f.size;have:=j.size;have:=t.size;have:=o.size;have:=l.size;omega))
 have bv:=((((an.le t).cb o (an.rl (by have:=f8.lt;have:=b.size;have:=e.size;have:=f.size;omega))).le (l.trans L)).cb N (an.rn (by have:=t.size;have:=o.size;have:=l.size;omega)))
 refine WC.loop (ι:=Nat×TrS×((Option Addr))×Nat×((List PaR))) (fun⟨i,s,Ao,co,ro⟩=>[(15,.pointer (some ⟨Q,0,none⟩)),(21,.pointer (some ⟨u,0,none⟩)),(23,.func (.func 86) #[] #[.pointer (some ⟨Y,0,none⟩),.pointer (some ⟨X,0,none⟩),.pointer (some ⟨Z,0,none⟩),.pointer (some ⟨aa,0,none⟩),.pointer (some ⟨ab,0,none⟩),.pointer (some ⟨u,0,none⟩)]),(24,.slice Ao s.out.length co),(64,.slice aX ((sharesL a n).length) bh),(65,.int .i64 ((((sharesL a n).length:Nat):Int))),(66,.int .i64 (((i:Nat):Int)))]) (fun⟨i,s,Ao,co,ro⟩ C=>(i<=(sharesL a n).length)/\(((sharesL a n).take i).foldl (tryS g fr to x) (some ⟨[],⟨1,1⟩,m⟩)=some s)/\(LenF s.odds (1+100*i))/\(okF s.odds)/\Le w C/\R.heap.size<=C.heap.size/\Blk C Q 61 #[.slice none 0 0,.slice none 0 0]/\OddAt C ax.heap.size u (s.odds,ac)/\Blk C Y 32 #[.slice A n0 c]/\Blk C X 55 #[.pointer (some ⟨aw,0,none⟩)]/\Blk C Z 3 #[.int .i64 (fr)]/\Blk C aa 3 #[.int .i64 (to)]/\Blk C ab 3 #[.int .i64 (x)]/\OVec C R.heap.size 34 prV 4 Ao s.out.length co ro/\PasAt C R.heap.size ro s.out/\OVec C aS.heap.size 3 iv 1 aX ((sharesL a n).length) bh (sharesL a n)/\MPool C cg.heap.size aw ac s.m) (fun⟨i,s,Ao,co,ro⟩=>(sharesL a n).length-i) (0,(⟨[],⟨1,1⟩,m⟩:TrS),none,0,([])) ?_ ?_ ?_
 ·exact .of rfl
 ·exact⟨Nat.zero_le _,rfl,(show LenF ⟨1,1⟩ 1 from⟨digs_len_one (by decide),digs_len_one (by decide)⟩),(show okF ⟨1,1⟩ by unfold okF;decide),aE,Nat.le_refl _,a3,aF,bp,bq,bs,bt,bu,(OVec.nil R R.heap.size 34 prV 4 none),(PasAt.nil R R.heap.size),bv,aG⟩
 rintro⟨i,s,Ao,co,ro⟩ C ⟨hi,hs,hlo,hok,ay,cs,az,a4,aH,aI,aJ,aK,aL,au,bw,a5,y⟩
 have bx:ax.heap.size<=C.heap.size:=by have:=l.size;have:=L.size;have:=N.size;omega
 have di:R.heap.size<=C.heap.size:=by omega
 have bz:R.heap.size<=C.heap.size:=by omega
 have dj:aS.heap.size<=C.heap.size:=by have:=j.size;have:=t.size;have:=o.size;have:=l.size;have:=L.size;have:=N.size;omega
 have hcn:s.out.length=min i (sharesL a n).length:=by have:=try_cnt hs;simpa using this
 refine Sr (Wn 1 rfl (Nx (Sq ?_)))
 by_cases c2:((i:Nat):Int)<(((sharesL a n).length:Nat):Int)
 ·refine Cy rfl (dT c2) (Sn (Sq (WC.block (Sr (Wa (.idxS (i) underlying23 sz3 rfl rfl (an.vec.isSome iv_row (by omega)) (rfl) (by omega)) rfl (Wr (.vone (v:= .int .i64 (((sharesL a n).getD i 0))) na3 rfl a5.vec iv_row (getS (sharesL a n) 0 (by first|omega|(simp only[List.length_cons,List.length_nil];omega))) rfl) rfl ?_))))))
  refine Wn 1 rfl (Nx (Sr (Wn 2 rfl ?_)))
  by_cases bA:(bestR g s.m fr to ((sharesL a n).getD i 0) x).2.2=0
  ·have ct:SendE C ac aw A n0 c g fr to x Y X Z aa ab u:=⟨aH,aI,aJ,aK,aL,(hV.le ay),(fun h=>h.elim (fun hF=>((fun hF=>by have:=y.old hF;have:=S.lt;have:=b.size;have:=e.size;have:=f.size;have:=j.size;omega)) hF) (fun he=>(show Y≠u from by have:=S.lt;have:=b.size;have:=e.size;have:=f.size;have:=j.size;have:=t.size;have:=o.size;have:=l.size;omega) he)),(fun h=>h.elim (fun hF=>((fun hF=>by have:=y.old hF;have:=ap.lt;omega)) hF) (fun he=>(show X≠u from by have:=ai.lt;have:=l.size;omega) he)),(fun h=>h.elim (fun hF=>((fun hF=>by have:=y.old hF;have:=T.lt;have:=b.size;have:=e.size;have:=f.size;have:=j.size;omega)) hF) (fun he=>(show Z≠u from by have:=T.lt;have:=b.size;have:=e.size;have:=f.size;have:=j.size;have:=t.size;have:=o.size;have:=l.size;omega) he)),(fun h=>h.elim (fun hF=>((fun hF=>by have:=y.old hF;have:=U.lt;have:=b.size;have:=e.size;have:=f.size;have:=j.size;omega)) hF) (fun he=>(show aa≠u from by have:=U.lt;have:=b.size;have:=e.size;have:=f.size;have:=j.size;have:=t.size;have:=o.size;have:=l.size;omega) he)),(fun h=>h.elim (fun hF=>((fun hF=>by have:=y.old hF;have:=V.lt;have:=b.size;have:=e.size;have:=f.size;have:=j.size;omega)) hF) (fun he=>(show ab≠u from by have:=V.lt;have:=b.size;have:=e.size;have:=f.size;have:=j.size;have:=t.size;have:=o.size;have:=l.size;omega) he)),(show¬ac u from hgo),(fun q h1 h2 _ he=>by have:=hV.blk_lt edgeV_row h2 h1;rcases he with hF|hF;(have:=y.old hF;have:=ao.size;omega);(subst hF;have:=ar.size;have:=aj;omega)),hn⟩
   refine W.ef rfl rfl rfl (Ef.callC go86 rfl rfl rfl (send_yes ((sharesL a n).getD i 0) ct y a4 (hlo.up (by omega)) hok (by have:=bx;omega) bA) ?_)
   rintro _ dk ⟨ak,rfl,cu,bB,cv,D⟩
   refine⟨_,rfl,?_⟩
   have bC:=ay.chP_then D (fun i hi=>Or.elim hi (fun hi=>Nat.le_trans ao.size (y.old hi)) (fun hi=>(by subst hi;exact Nat.le_trans ar.size aj)))
   refine Wn 1 rfl (Wa (.extract (v:= .agg (prV ak).toArray) rfl rfl) rfl (Wn 1 rfl (W.ef rfl rfl rfl (Ef.allocA z34 fun bD cw bE (aM:Blk cw bD 34 (prV noPaR).toArray) I=>(W.ef0 rfl rfl (Ef.storeAll sz34 (by rfl) rfl rfl aM (by simp only[List.size_toArray,prV_row.len]) (prV_row.one ak) ?_))))))
   intro bF a6 J
   have a6:Blk bF bD 34 (prV ak).toArray:=a6
   refine Wn 1 rfl (Nx (Sq (Sr (Wn 2 rfl (Nx (WC.condF rfl (Sn (WC.region (Wn 1 rfl (Wr (.loadAll ag34 (by rfl) rfl a6) rfl ?_))))))))))
   refine W.ef rfl rfl rfl (Ef.buildSliceV (len:=1) [_] underlying31 el34 rfl (by simp[Value.cells,prV_row.len]) rfl (by decide) (by decide) ?_)
   intro bG bH cx aO K
   have aO:Blk bH bG 34 (([ak]).map prV).flatten.toArray:=aO
   have dl:OVec bH bF.heap.size 34 prV 4 (some ⟨bG,0,none⟩) 1 1 ([ak]):=aO.ovec cx prV_row rfl rfl (by decide)
   have O:=((((au.chP D (fun q hqq hF=>Or.elim hF (fun hF=>((fun g hg hF=>by have:=aG.lt hF;have:=(au.row hg).1;omega) q hqq hF)) (fun hF=>(by subst hF;exact(au.rl (by have:=aF.lt;omega)) hqq)))).le I).cb J (au.rn (by have:=D.size;omega))).le K)
   refine W.ef rfl rfl rfl (Ef.vpush (a:=ak) underlying31 el34 underlying31 prV_row rfl O rfl aO (by omega) (by unfold maxLen;omega) (by have:=bz;have:=D.size;have:=I.size;have:=J.size;have:=K.size;omega) ?_)
   intro cy cz dm cA P dn
   refine Wn 1 rfl ?_
   have cB:=(((((bw.chP D (fun i hF=>Or.elim hF (fun hF=>(by have:=aG.lt hF;omega)) (fun hF=>(by subst hF;have:=aF.lt;omega)))).le I).chB J aM (by decide) (by decide)).le K).chO P O (by decide) (by decide))
   have cC:=((((cu.le I).chB J aM (by decide) (by decide)).le K).chO P O (by decide) (by decide))
   have zpu:=cB.push (cC.mono (by have:=bz;omega))
   refine W.nil (E.blkN (E.thenN (WC.region (Wa (.add rfl rfl (by omega)) rfl (Wn 1 rfl (W.nil ?_))))))
   have cD:=(((((az.chP D (fun hF=>Or.elim hF (fun hF=>((fun hF=>by have:=y.old hF;have:=H.lt;have:=b.size;have:=e.size;have:=f.size;have:=j.size;omega) hF)) (fun hF=>(show Q≠u from by have:=H.lt;have:=b.size;have:=e.size;have:=f.size;have:=j.size;have:=t.size;have:=o.size;have:=l.size;omega) hF))).le I).cn J (by have:=az.lt;have:=D.size;omega)).le K).ch P (O.rl (by have:=a3.lt;omega)))
   have cE:=((((cv.le I).chB J aM (by decide) (by decide)).le K).chO P O (by decide) (by decide))
   have cF:=(((((aH.chP D (fun hF=>Or.elim hF (fun hF=>((fun hF=>by have:=y.old hF;have:=S.lt;have:=b.size;have:=e.size;have:=f.size;have:=j.size;omega) hF)) (fun hF=>(show Y≠u from by have:=S.lt;have:=b.size;have:=e.size;have:=f.size;have:=j.size;have:=t.size;have:=o.size;have:=l.size;omega) hF))).le I).cn J (by have:=aH.lt;have:=D.size;omega)).le K).ch P (O.rl (by have:=bp.lt;omega)))
   have cG:=(((((aI.chP D (fun hF=>Or.elim hF (fun hF=>((fun hF=>by have:=y.old hF;have:=ap.lt;omega) hF)) (fun hF=>(show X≠u from by have:=ai.lt;have:=l.size;omega) hF))).le I).cn J (by have:=aI.lt;have:=D.size;omega)).le K).ch P (O.rl (by have:=bq.lt;omega)))
   have cH:=(((((aJ.chP D (fun hF=>Or.elim hF (fun hF=>((fun hF=>by have:=y.old hF;have:=T.lt;have:=b.size;have:=e.size;have:=f.size;have:=j.size;omega) hF)) (fun hF=>(show Z≠u from by have:=T.lt;have:=b.size;have:=e.size;have:=f.size;have:=j.size;have:=t.size;have:=o.size;have:=l.size;omega) hF))).le I).cn J (by have:=aJ.lt;have:=D.size;omega)).le K).ch P (O.rl (by have:=bs.lt;omega)))
   have cI:=(((((aK.chP D (fun hF=>Or.elim hF (fun hF=>((fun hF=>by have:=y.old hF;have:=U.lt;have:=b.size;have:=e.size;have:=f.size;have:=j.size;omega) hF)) (fun hF=>(show aa≠u from by have:=U.lt;have:=b.size;have:=e.size;have:=f.size;have:=j.size;have:=t.size;have:=o.size;have:=l.size;omega) hF))).le I).cn J (by have:=aK.lt;have:=D.size;omega)).le K).ch P (O.rl (by have:=bt.lt;omega)))
   have cJ:=(((((aL.chP D (fun hF=>Or.elim hF (fun hF=>((fun hF=>by have:=y.old hF;have:=V.lt;have:=b.size;have:=e.size;have:=f.size;have:=j.size;omega) hF)) (fun hF=>(show ab≠u from by have:=V.lt;have:=b.size;have:=e.size;have:=f.size;have:=j.size;have:=t.size;have:=o.size;have:=l.size;omega) hF))).le I).cn J (by have:=aL.lt;have:=D.size;omega)).le K).ch P (O.rl (by have:=bu.lt;omega)))
   have cK:=(((((a5.chP D (fun q hqq hF=>Or.elim hF (fun hF=>((fun g hg hF=>by have:=y.old hF;have:=(an.row hg).2;omega) q hqq hF)) (fun hF=>(by subst hF;exact(an.rn (by have:=t.size;have:=o.size;have:=l.size;omega)) hqq)))).le I).cb J (a5.rn (by have:=D.size;omega))).le K).ch P ((Apart.symm (fun q h1 h2=>by have:=(bv.row h1).2;have:=(O.row h2).1;omega))))
   have cL:=((((bB.le I).ch J (fun q hqq hF=>by cases hqq;have:=bB.lt hF;have:=bE;omega)).le K).ch P (fun q hqq hF=>by have:=(O.row hqq).1;have:=aG.lt hF;omega))
   refine E.again (i+1,(stepT g fr to x s ((sharesL a n).getD i 0)),cy,cz,(ro++[ak])) (.cons rfl (.cons rfl (.cons rfl (.cons' rfl (slice_eq (by simp[stepT])) (.of rfl))))) ?_ ?_
   ·exact⟨by omega,(by rw[try_next (by omega) hs];exact tryS_yes (by assumption)),((hlo.mul ((bestR_len (g:=g) (fr:=fr) (to:=to) (a:=((sharesL a n).getD i 0)) (x:=x) (y.good)).2)).up (by omega)),okF_mul hok (best_unit y.good (by assumption)).1,((((bC.trans I).tb J bC bE).trans K).then_ P (fun q hq=>Nat.le_trans aE.size (O.row hq).1)),by have:=cs;have:=D.size;have:=I.size;have:=J.size;have:=K.size;have:=P.size;omega,cD,cE,cF,cG,cH,cI,cJ,(cA.cast (by simp[stepT]) rfl),zpu,cK,cL⟩
   first|omega|(simp only[];omega)
  have cM:SendE C ac aw A n0 c g fr to x Y X Z aa ab u:=⟨aH,aI,aJ,aK,aL,(hV.le ay),(fun h=>h.elim (fun hF=>((fun hF=>by have:=y.old hF;have:=S.lt;have:=b.size;have:=e.size;have:=f.size;have:=j.size;omega)) hF) (fun he=>(show Y≠u from by have:=S.lt;have:=b.size;have:=e.size;have:=f.size;have:=j.size;have:=t.size;have:=o.size;have:=l.size;omega) he)),(fun h=>h.elim (fun hF=>((fun hF=>by have:=y.old hF;have:=ap.lt;omega)) hF) (fun he=>(show X≠u from by have:=ai.lt;have:=l.size;omega) he)),(fun h=>h.elim (fun hF=>((fun hF=>by have:=y.old hF;have:=T.lt;have:=b.size;have:=e.size;have:=f.size;have:=j.size;omega)) hF) (fun he=>(show Z≠u from by have:=T.lt;have:=b.size;have:=e.size;have:=f.size;have:=j.size;have:=t.size;have:=o.size;have:=l.size;omega) he)),(fun h=>h.elim (fun hF=>((fun hF=>by have:=y.old hF;have:=U.lt;have:=b.size;have:=e.size;have:=f.size;have:=j.size;omega)) hF) (fun he=>(show aa≠u from by have:=U.lt;have:=b.size;have:=e.size;have:=f.size;have:=j.size;have:=t.size;have:=o.size;have:=l.size;omega) he)),(fun h=>h.elim (fun hF=>((fun hF=>by have:=y.old hF;have:=V.lt;have:=b.size;have:=e.size;have:=f.size;have:=j.size;omega)) hF) (fun he=>(show ab≠u from by have:=V.lt;have:=b.size;have:=e.size;have:=f.size;have:=j.size;have:=t.size;have:=o.size;have:=l.size;omega) he)),(show¬ac u from hgo),(fun q h1 h2 _ he=>by have:=hV.blk_lt edgeV_row h2 h1;rcases he with hF|hF;(have:=y.old hF;have:=ao.size;omega);(subst hF;have:=ar.size;have:=aj;omega)),hn⟩
  refine W.ef rfl rfl rfl (Ef.callC go86 rfl rfl rfl (send_no ((sharesL a n).getD i 0) cM y a4 (hlo.up (by omega)) hok (by have:=bx;omega) bA) ?_)
  rintro _ dp ⟨rfl,a7⟩
  refine⟨_,rfl,?_⟩
  have bI:=ay.chP_then a7 (fun i hi=>Or.elim hi (fun hi=>Nat.le_trans ao.size (y.old hi)) (fun hi=>(by subst hi;exact Nat.le_trans ar.size aj)))
  refine Wn 1 rfl (Wa (.extract (v:= .agg (prV noPaR).toArray) rfl rfl) rfl (Wn 1 rfl (W.ef rfl rfl rfl (Ef.allocA z34 fun bJ cN cO (cP:Blk cN bJ 34 (prV noPaR).toArray) bK=>(W.ef0 rfl rfl (Ef.storeAll sz34 (by rfl) rfl rfl cP (by simp only[List.size_toArray,prV_row.len]) (prV_row.one noPaR) ?_))))))
  intro cQ bL bM
  have bL:Blk cQ bJ 34 (prV noPaR).toArray:=bL
  refine Wn 1 rfl (Nx (Sq (Sr (Wn 2 rfl (Nx (WC.condT rfl (Sr (Wa (.buildP [.slice none 0 0,.slice none 0 0] pl61 z61 rfl rfl) rfl (Wn 1 rfl (W.sA sz61 rfl rfl (((az.chP a7 (fun hF=>Or.elim hF (fun hF=>((fun hF=>by have:=y.old hF;have:=H.lt;have:=b.size;have:=e.size;have:=f.size;have:=j.size;omega) hF)) (fun hF=>(show Q≠u from by have:=H.lt;have:=b.size;have:=e.size;have:=f.size;have:=j.size;have:=t.size;have:=o.size;have:=l.size;omega) hF))).le bK).cn bM (by have:=az.lt;have:=a7.size;omega)) ?_))))))))))
  intro cR a8 cS
  have a8:Blk cR Q 61 #[.slice none 0 0,.slice none 0 0]:=a8
  have cT:=((bI.trans bK).tb bM bI cO).tb cS L5 al
  refine Wn 1 rfl (Nx (Rt (E.thenR (E.blkR (E.thenR (E.thenR (E.blkR (E.thenR (E.retG3 rfl rfl (resA rfl a8 ag61 (by rfl)) rfl ?_)))))))))
  rw[tryG_none aW (.inr (try_rest (k:=i+1) (by rw[try_next (by omega) hs];exact tryS_no (by assumption))))]
  exact⟨none,0,[],none,0,none,0,by simp only[digs_zero];rfl,OVec.nil _ _ _ _ _ _,PasAt.nil _ _,by simp only[digs_zero];exact OVec.nil _ _ _ _ _ _,by simp only[digs_zero];exact OVec.nil _ _ _ _ _ _,fun _=>rfl,cT⟩
 refine Cn rfl (dF c2) (WC.exit (E.thenX (E.thenX (E.blkH (E.thenN (Sq (WC.draw [0,1,2,3,4] mixed (by kernel_rfl) fun dq aA=>(Gn 1 rfl ?_))))))))
 have cU:=(a4.le aA)
 obtain⟨Anz,cnz,Adz,cdz,hbz,hnz,hdz,_⟩:=cU
 refine Gd rfl (.loadAll ag61 (by rfl) rfl hbz) ?_
 refine Gn 1 rfl ?_
 have bN:=(az.le aA)
 refine G.ef0 rfl rfl rfl rfl (Ef.storeAll sz61 (by rfl) rfl rfl bN (by rfl) (by simp[Value.oneCell']) ?_)
 intro cV a9 aB
 refine noT (by kernel_rfl) ?_
 have a9:Blk cV Q 61 #[.slice Anz ((digs s.odds.n).length) cnz,.slice Adz ((digs s.odds.d).length) cdz]:=a9
 refine Gn 1 rfl (G.nil (E.thenN (Rt ?_)))
 have cW:=((bw.le aA).chB aB bN (by decide) (by decide))
 have cX:=((au.le aA).cb aB (au.rl (by have:=a3.lt;omega)))
 have cY:=(hnz.cb aB (hnz.rl (by have:=H.lt;have:=b.size;have:=e.size;have:=f.size;have:=j.size;have:=t.size;have:=o.size;omega)))
 have cZ:=(hdz.cb aB (hdz.rl (by have:=H.lt;have:=b.size;have:=e.size;have:=f.size;have:=j.size;have:=t.size;have:=o.size;omega)))
 refine E.retG3 rfl rfl (resA rfl a9 ag61 (by rfl)) rfl ?_
 have hil:i=(sharesL a n).length:=(by omega)
 have htl:(sharesL a n).take i=sharesL a n:=(by rw[hil,List.take_length])
 rw[htl]at hs
 have hcnt:=try_cnt hs
 rw[tryG_some aW hsn hs]
 exact⟨_,_,_,_,_,_,_,rfl,(cX.mono aE.size),(cW.mono aE.size),(cY.mono aZ.size),(cZ.mono aZ.size),(fun h=>by have h':s.out=[]:=h;rw[h']at hcnt;have:=List.length_pos_iff.2 hsn;simp at hcnt;omega),((ay.trans aA).tb aB L5 al)⟩

theorem spbest_ok {base gp:Nat}{F:Nat->Prop}{m:MF}(fr to a x n:Int){A:Option Addr}{n0 c:Nat}{g:List Gsp.Edge}(w:World)(hP:MPool w base gp F m)(hV:Vec w edgeV 9 A n0 g)(hn:n0<=1000000)(ha:a<=9223372036854775807):Calls prog 30 #[.slice A n0 c,.pointer (some ⟨gp,0,none⟩),.int .i64 (fr),.int .i64 (to),.int .i64 (a),.int .i64 (x),.int .i64 (n)] w fun r w'=>∃A c rs An cn Ad cd,r= .returned (.tuple #[.slice A (splitG g m fr to a x n).1.length c,.agg #[.slice An (digs (splitG g m fr to a x n).2.1.n).length cn,.slice Ad (digs (splitG g m fr to a x n).2.1.d).length cd],.int .i64 (splitG g m fr to a x n).2.2])/\OVec w' w.heap.size 34 prV 4 A (splitG g m fr to a x n).1.length c rs/\PasAt w' w.heap.size rs (splitG g m fr to a x n).1/\OVec w' w.heap.size 273 dv 1 An (digs (splitG g m fr to a x n).2.1.n).length cn (digs (splitG g m fr to a x n).2.1.n)/\OVec w' w.heap.size 273 dv 1 Ad (digs (splitG g m fr to a x n).2.1.d).length cd (digs (splitG g m fr to a x n).2.1.d)/\((splitG g m fr to a x n).1=[]->A=none)/\Le w w':=by
 have hl:=hV.1
 have hgm:=hP.good
 refine enter func30 rfl rfl ?_
 have V:=Le.refl w
 refine Sr (Wn 1 rfl (W.ef rfl rfl rfl (Ef.allocA z61 fun K aV ah (X:Blk aV K 61 #[.slice none 0 0,.slice none 0 0]) ai=>?_)))
 have Y:=V.trans ai
 refine Wn 1 rfl (Nx (Sq (Sr (Wn 2 rfl ?_))))
 by_cases aE:n<1
 ·refine Dt aE rfl rfl (Wn 3 rfl (Nx (WC.condT rfl (Sr (Wa (.buildP [.slice none 0 0,.slice none 0 0] pl61 z61 rfl rfl) rfl (Wn 1 rfl (W.sA sz61 rfl rfl X ?_)))))))
  intro aW an aX
  have an:Blk aW K 61 #[.slice none 0 0,.slice none 0 0]:=an
  have L2:=Y.tb aX V ah
  refine Wn 1 rfl (Nx (Rt (E.thenR (E.retG3 rfl rfl (resA rfl an ag61 (by rfl)) rfl ?_))))
  have hsg:splitG g m fr to a x n=([],⟨0,0⟩,1):=(by unfold splitG;rw[if_pos (by omega)])
  rw[hsg]
  exact⟨none,0,[],none,0,none,0,by simp only[digs_zero];rfl,OVec.nil _ _ _ _ _ _,PasAt.nil _ _,by simp only[digs_zero];exact OVec.nil _ _ _ _ _ _,by simp only[digs_zero];exact OVec.nil _ _ _ _ _ _,fun _=>rfl,L2⟩
 refine Df aE rfl rfl (Wn 3 rfl (Nx ?_))
 by_cases c0:8<n
 ·refine Cy rfl (dT c0) (Sr (Wa (.buildP [.slice none 0 0,.slice none 0 0] pl61 z61 rfl rfl) rfl (Wn 1 rfl (W.sA sz61 rfl rfl X ?_))))
  intro aY ao aZ
  have ao:Blk aY K 61 #[.slice none 0 0,.slice none 0 0]:=ao
  have L3:=Y.tb aZ V ah
  refine Wn 1 rfl (Nx (Rt (E.thenR (E.retG3 rfl rfl (resA rfl ao ag61 (by rfl)) rfl ?_))))
  have hsg:splitG g m fr to a x n=([],⟨0,0⟩,1):=(by unfold splitG;rw[if_pos (by omega)])
  rw[hsg]
  exact⟨none,0,[],none,0,none,0,by simp only[digs_zero];rfl,OVec.nil _ _ _ _ _ _,PasAt.nil _ _,by simp only[digs_zero];exact OVec.nil _ _ _ _ _ _,by simp only[digs_zero];exact OVec.nil _ _ _ _ _ _,fun _=>rfl,L3⟩
 refine Cn rfl (dF c0) (Sn (Sr (Wn 1 rfl (Nx (Sr (W.ef rfl rfl rfl (Ef.allocA z61 fun N t aj (a0:Blk t N 61 #[.slice none 0 0,.slice none 0 0]) ap=>?_)))))))
 have Z:=Y.trans ap
 refine Nx (Sr ?_)
 have a1:Blk t N 61 #[.slice none (digs 0).length 0,.slice none (digs 0).length 0]:=by rw[digs_zero];exact a0
 have aF:OVec t t.heap.size 273 dv 1 none (digs 0).length 0 (digs 0):=by rw[digs_zero];exact OVec.nil _ _ _ _ _ _
 refine Wn 1 rfl (Nx (Sq (Sr (Wn 2 rfl (Nx (WC.block ?_))))))
 have f5:=(hP.le (ai.trans ap))
 have f6:=(X.le ap)
 refine WC.loop (ι:=Nat×((List Prt×Fr×Int))×((Option Addr))×Nat×((List PaR))×((Option Addr))×Nat×((Option Addr))×Nat) (fun⟨i,b,Ab,cb,rb,Ax,cx,Ay,cy⟩=>[(0,.slice A n0 c),(1,.pointer (some ⟨gp,0,none⟩)),(2,.int .i64 (fr)),(3,.int .i64 (to)),(4,.int .i64 (a)),(5,.int .i64 (x)),(15,.pointer (some ⟨K,0,none⟩)),(17,.slice Ab b.1.length cb),(18,.pointer (some ⟨N,0,none⟩)),(19,.int .i64 (b.2.2)),(31,.int .i64 (n)),(32,.int .i64 (((i:Nat):Int)))]) (fun⟨i,b,Ab,cb,rb,Ax,cx,Ay,cy⟩ u=>(i<=n.toNat)/\(b=(List.range i).foldl (splS g m fr to a x) ([],⟨0,0⟩,19))/\(b.1=[]->Ab=none)/\(0<i->(bestR g m fr to a x).2.2≠1)/\((digs b.2.1.n).length<=900/\(digs b.2.1.d).length<=900)/\Le w u/\t.heap.size<=u.heap.size/\MPool u base gp F m/\Blk u K 61 #[.slice none 0 0,.slice none 0 0]/\OVec u t.heap.size 34 prV 4 Ab b.1.length cb rb/\PasAt u t.heap.size rb b.1/\Blk u N 61 #[.slice Ax ((digs b.2.1.n).length) cx,.slice Ay ((digs b.2.1.d).length) cy]/\OVec u t.heap.size 273 dv 1 Ax ((digs b.2.1.n).length) cx (digs b.2.1.n)/\OVec u t.heap.size 273 dv 1 Ay ((digs b.2.1.d).length) cy (digs b.2.1.d)) (fun⟨i,b,Ab,cb,rb,Ax,cx,Ay,cy⟩=>n.toNat-i) (0,(([],⟨0,0⟩,19):List Prt×Fr×Int),none,0,([]),none,0,none,0) ?_ ?_ ?_
 ·exact .of rfl
 ·exact⟨Nat.zero_le _,rfl,fun _=>rfl,fun h=>absurd h (Nat.not_lt_zero _),by simp only[digs_zero];exact⟨Nat.zero_le _,Nat.zero_le _⟩,Z,Nat.le_refl _,f5,f6,(OVec.nil t t.heap.size 34 prV 4 none),(PasAt.nil t t.heap.size),a1,aF,aF⟩
 rintro⟨i,b,Ab,cb,rb,Ax,cx,Ay,cy⟩ u ⟨hi,hb,hbe,a2,hlb,aq,ak,H,C,al,ar,y,O,P⟩
 have bD:t.heap.size<=u.heap.size:=by omega
 have bE:t.heap.size<=u.heap.size:=by omega
 have bF:t.heap.size<=u.heap.size:=by omega
 have bG:t.heap.size<=u.heap.size:=by omega
 refine Sr (Wn 1 rfl (Nx (Sq ?_)))
 by_cases c1:((i:Nat):Int)<n
 ·refine Cy rfl (dT c1) (Sn (Sq (WC.block (Sr (Wn 2 rfl (Nx (Sr (Wn 7 rfl (Wa (.add rfl rfl (by omega)) rfl ?_)))))))))
  obtain⟨l,D⟩:∃z,z=(tryG g m fr to a x (((i:Nat):Int)+1)):=⟨_,rfl⟩
  have am:=tryG_len (g:=g) (m:=m) (fr:=fr) (to:=to) (a:=a) (x:=x) (n:=(((i:Nat):Int)+1)) hgm
  rw[<-D]at am;unfold LenF at am
  refine W.cl go28 rfl rfl ((by have k:=sptry_ok (c:=c) fr to a x (((i:Nat):Int)+1) u H (hV.le aq) (by omega) (by omega);rw[<-D]at k;exact k)) ?_
  rintro _ bH ⟨aG,aH,aI,Q,R,S,T,rfl,U,au,aa,ab,aJ,e⟩
  have L7:=aq.trans e
  have bI:=au.1
  refine Wn 2 rfl (Wa (.extract (v:= .agg #[.slice Q ((digs l.2.1.n).length) R,.slice S ((digs l.2.1.d).length) T]) rfl rfl) rfl (Wn 1 rfl (W.ef rfl rfl rfl (Ef.allocA z61 fun aK a3 ac (ad:Blk a3 aK 61 #[.slice none 0 0,.slice none 0 0]) f=>(Wn 1 rfl (W.sA sz61 rfl rfl ad ?_))))))
  intro aL ae j
  have ae:Blk aL aK 61 #[.slice Q ((digs l.2.1.n).length) R,.slice S ((digs l.2.1.d).length) T]:=ae
  have L9:=(L7.trans f).tb j L7 ac
  refine Wn 1 rfl (Nx (WC.block (Sr ?_)))
  have av:=((al.le (e.trans f)).cb j (al.rn (by have:=e.size;omega)))
  have hbn:Ab.isNone=true->b.1=[]:=fun h=>Decidable.byContradiction fun hh=>by have:=av.vec.isSome prV_row (List.length_pos_iff.2 hh);revert h this;cases Ab<;>simp
  refine Wn 3 rfl (Nx ?_)
  by_cases c2:l.2.2=1
  ·refine Cy rfl (dT c2) (Sr (Wa (.buildP [.slice none 0 0,.slice none 0 0] pl61 z61 rfl rfl) rfl (Wn 2 rfl (W.sA sz61 rfl rfl ((C.le (e.trans f)).cn j (by have:=C.lt;have:=e.size;omega)) ?_))))
   intro a4 aw a5
   have aw:Blk a4 K 61 #[.slice none 0 0,.slice none 0 0]:=aw
   have a6:=L9.tb a5 V ah
   refine Wn 1 rfl (Nx (Rt (E.blkR (E.blkR (E.thenR (E.thenR (E.blkR (E.thenR (E.retG3 rfl rfl (resA rfl aw ag61 (by rfl)) rfl ?_)))))))))
   have hte:l.2.2=1:=(by assumption)
   have hsg:splitG g m fr to a x n=([],⟨0,0⟩,1):=(by unfold splitG;rw[if_pos (.inr (.inr (tryG_arg (n:=(i:Int)+1) (by omega) (by omega) (by rw[<-D];exact hte))))])
   rw[hte,hsg]
   exact⟨none,0,[],none,0,none,0,by simp only[digs_zero];rfl,OVec.nil _ _ _ _ _ _,PasAt.nil _ _,by simp only[digs_zero];exact OVec.nil _ _ _ _ _ _,by simp only[digs_zero];exact OVec.nil _ _ _ _ _ _,fun _=>rfl,a6⟩
  refine Cn rfl (dF c2) (Sr (Wn 2 rfl ?_))
  by_cases aM:l.2.2=0
  ·refine Dt aM rfl rfl (Wn 1 rfl (Wg (Any.rd (.isNil underlying31 rfl) _) rfl ?_))
   by_cases aO:Ab.isNone=true
   ·refine Wg (Any.rd (.dec (.move rfl) (aO)) _) rfl (Wn 4 rfl (Wg (Any.rd (.pickT rfl rfl rfl) _) rfl (Wn 2 rfl (Nx (WC.condT rfl (WC.draw [0,1,2,3,4] mixed (by kernel_rfl) fun a7 o=>(Gn 1 rfl ?_)))))))
    refine Gd rfl (.loadAll ag61 (by rfl) rfl (ae.le o)) ?_
    refine Gn 1 rfl ?_
    have aP:=(((y.le (e.trans f)).cn j (by have:=y.lt;have:=e.size;omega)).le o)
    refine G.ef0 rfl rfl rfl rfl (Ef.storeAll sz61 (by rfl) rfl rfl aP (by rfl) (by simp[Value.oneCell']) ?_)
    intro a8 ax I
    refine noT (by kernel_rfl) ?_
    have ax:Blk a8 N 61 #[.slice Q ((digs l.2.1.n).length) R,.slice S ((digs l.2.1.d).length) T]:=ax
    have a9:=(L9.trans o).tb I Y aj
    refine Gn 1 rfl (G.nil (E.blkN (E.blkN (E.thenN (WC.region (Wa (.add rfl rfl (by omega)) rfl (Wn 1 rfl (W.nil ?_))))))))
    have ba:=((((H.le (e.trans f)).ch j (fun q hqq hF=>by cases hqq;have:=H.lt hF;have:=e.size;have:=ac;omega)).le o).ch I (fun q hqq hF=>by cases hqq;have:=hP.lt hF;have:=ai.size;have:=aj;omega))
    have bb:=((((C.le (e.trans f)).cn j (by have:=C.lt;have:=e.size;omega)).le o).cn I (by have:=X.lt;omega))
    have bc:=((((U.le f).cb j (U.rn (by omega))).le o).cb I (U.rl (by have:=y.lt;omega)))
    have bd:=((((au.le f).chB j ad (by decide) (by decide)).le o).chB I aP (by decide) (by decide))
    have be:=((((aa.le f).cb j (aa.rn (by omega))).le o).cb I (aa.rl (by have:=y.lt;omega)))
    have bf:=((((ab.le f).cb j (ab.rn (by omega))).le o).cb I (ab.rl (by have:=y.lt;omega)))
    refine E.again (i+1,l,aG,aH,aI,Q,R,S,T) (.cons rfl (.cons rfl (.cons rfl (.cons rfl (.cons rfl (.cons rfl (.cons rfl (.cons rfl (.cons rfl (.cons' rfl (int_eq (Eq.symm (by assumption:l.2.2=0))) (.of rfl))))))))))) ?_ ?_
    ·exact⟨by omega,(by rw[List.range_succ,List.foldl_append,<-hb];show _=splS g m fr to a x b i;unfold splS;rw[<-D];exact(if_pos ⟨by assumption,by first|exact .inl (hbn (by assumption))|exact .inr (by assumption)⟩).symm),aJ,fun _ hh=>absurd (by rw[D,tryG_bad (.inr (.inr hh))]) (by assumption:¬l.2.2=1),am.1,a9,by have:=ak;have:=e.size;have:=f.size;have:=j.size;have:=o.size;have:=I.size;omega,ba,bb,(bc.mono (by omega)),(bd.mono (by omega)),ax,(be.mono (by omega)),(bf.mono (by omega))⟩
    first|omega|(simp only[];omega)
   refine Wg (Any.rd (.dec (.move rfl) ((Bool.eq_false_iff.2 aO))) _) rfl (Wg (.loadAll ag61 (by rfl) rfl ae) rfl ?_)
   have ay:=((y.le (e.trans f)).cn j (by have:=y.lt;have:=e.size;omega))
   refine Wg (.loadAll ag61 (by rfl) rfl ay) rfl ?_
   have az:=((aa.le f).cb j (aa.rn (by omega)))
   have aA:=((ab.le f).cb j (ab.rn (by omega)))
   have aQ:=((O.le (e.trans f)).cb j (O.rn (by have:=e.size;omega)))
   have aR:=((P.le (e.trans f)).cb j (P.rn (by have:=e.size;omega)))
   refine W.efg rfl rfl rfl (rfl) rfl rfl (Ef.call go41 rfl rfl (fcmp_ok aL az.vec aA.vec (by omega) (by omega) aQ.vec aR.vec (by omega) (by omega)) ?_)
   rintro _ bJ ⟨rfl,s⟩
   refine⟨_,rfl,?_⟩
   have aS:=L9.trans s
   refine Wn 1 rfl (Wg (Any.rd (.pickF rfl rfl rfl) _) rfl (Wn 2 rfl (Nx ?_)))
   by_cases c3:0<(cmpF (takF (⟨l.2.1.n,l.2.1.d⟩:Fr)) (takF (⟨b.2.1.n,b.2.1.d⟩:Fr)))
   ·refine Cy rfl (dT c3) (WC.draw [0,1,2,3,4] mixed (by kernel_rfl) fun a7 o=>(Gn 1 rfl (Gd rfl (.loadAll ag61 (by rfl) rfl (ae.le (s.trans o))) ?_)))
    refine Gn 1 rfl ?_
    have aT:=(ay.le (s.trans o))
    refine G.ef0 rfl rfl rfl rfl (Ef.storeAll sz61 (by rfl) rfl rfl aT (by rfl) (by simp[Value.oneCell']) ?_)
    intro bg aB J
    refine noT (by kernel_rfl) ?_
    have aB:Blk bg N 61 #[.slice Q ((digs l.2.1.n).length) R,.slice S ((digs l.2.1.d).length) T]:=aB
    have bh:=(aS.trans o).tb J Y aj
    refine Gn 1 rfl (G.nil (E.blkN (E.blkN (E.thenN (WC.region (Wa (.add rfl rfl (by omega)) rfl (Wn 1 rfl (W.nil ?_))))))))
    have bi:=((((H.le (e.trans f)).ch j (fun q hqq hF=>by cases hqq;have:=H.lt hF;have:=e.size;have:=ac;omega)).le (s.trans o)).ch J (fun q hqq hF=>by cases hqq;have:=hP.lt hF;have:=ai.size;have:=aj;omega))
    have bj:=((((C.le (e.trans f)).cn j (by have:=C.lt;have:=e.size;omega)).le (s.trans o)).cn J (by have:=X.lt;omega))
    have bk:=((((U.le f).cb j (U.rn (by omega))).le (s.trans o)).cb J (U.rl (by have:=y.lt;omega)))
    have bl:=((((au.le f).chB j ad (by decide) (by decide)).le (s.trans o)).chB J aT (by decide) (by decide))
    have bm:=((az.le (s.trans o)).cb J (az.rl (by have:=y.lt;omega)))
    have bn:=((aA.le (s.trans o)).cb J (aA.rl (by have:=y.lt;omega)))
    refine E.again (i+1,l,aG,aH,aI,Q,R,S,T) (.cons rfl (.cons rfl (.cons rfl (.cons rfl (.cons rfl (.cons rfl (.cons rfl (.cons rfl (.cons rfl (.cons' rfl (int_eq (Eq.symm (by assumption:l.2.2=0))) (.of rfl))))))))))) ?_ ?_
    ·exact⟨by omega,(by rw[List.range_succ,List.foldl_append,<-hb];show _=splS g m fr to a x b i;unfold splS;rw[<-D];exact(if_pos ⟨by assumption,by first|exact .inl (hbn (by assumption))|exact .inr (by assumption)⟩).symm),aJ,fun _ hh=>absurd (by rw[D,tryG_bad (.inr (.inr hh))]) (by assumption:¬l.2.2=1),am.1,bh,by have:=ak;have:=e.size;have:=f.size;have:=j.size;have:=s.size;have:=o.size;have:=J.size;omega,bi,bj,(bk.mono (by omega)),(bl.mono (by omega)),aB,(bm.mono (by omega)),(bn.mono (by omega))⟩
    first|omega|(simp only[];omega)
   refine Cn rfl (dF c3) (WC.skip (E.blkN (E.blkN (E.thenN (WC.region (Wa (.add rfl rfl (by omega)) rfl (Wn 1 rfl (W.nil ?_))))))))
   have bo:=(((H.le (e.trans f)).ch j (fun q hqq hF=>by cases hqq;have:=H.lt hF;have:=e.size;have:=ac;omega)).le s)
   have bp:=(((C.le (e.trans f)).cn j (by have:=C.lt;have:=e.size;omega)).le s)
   have bq:=(((ar.le (e.trans f)).chB j ad (by decide) (by decide)).le s)
   have bs:=(ay.le s)
   have bt:=(aQ.le s)
   have bu:=(aR.le s)
   refine E.again (i+1,b,Ab,cb,rb,Ax,cx,Ay,cy) (.of rfl) ?_ ?_
   ·exact⟨by omega,(by rw[List.range_succ,List.foldl_append,<-hb];show _=splS g m fr to a x b i;unfold splS;rw[<-D];exact(if_neg (fun hh=>by first|exact absurd hh.1 (by assumption)|exact hh.2.elim (fun h=>absurd (by rw[hbe h];rfl) (by assumption:¬Ab.isNone=true)) (fun h=>absurd h (by assumption)))).symm),hbe,fun _ hh=>absurd (by rw[D,tryG_bad (.inr (.inr hh))]) (by assumption:¬l.2.2=1),hlb,aS,by have:=ak;have:=e.size;have:=f.size;have:=j.size;have:=s.size;omega,bo,bp,(av.le s),bq,bs,bt,bu⟩
   first|omega|(simp only[];omega)
  refine Df aM rfl rfl (Wn 3 rfl (W.skipu rfl rfl rfl rfl rfl (W.skipu rfl rfl rfl rfl rfl (W.skipu rfl rfl rfl rfl rfl (W.skipu rfl rfl rfl rfl rfl (Wn 3 rfl (Nx (WC.condF rfl (WC.skip (E.blkN (E.blkN (E.thenN (WC.region ?_)))))))))))))
  refine Wa (.add rfl rfl (by omega)) rfl (Wn 1 rfl (W.nil ?_))
  have bv:=((H.le (e.trans f)).ch j (fun q hqq hF=>by cases hqq;have:=H.lt hF;have:=e.size;have:=ac;omega))
  have bw:=((C.le (e.trans f)).cn j (by have:=C.lt;have:=e.size;omega))
  have bx:=((ar.le (e.trans f)).chB j ad (by decide) (by decide))
  have bz:=((y.le (e.trans f)).cn j (by have:=y.lt;have:=e.size;omega))
  have bA:=((O.le (e.trans f)).cb j (O.rn (by have:=e.size;omega)))
  have bB:=((P.le (e.trans f)).cb j (P.rn (by have:=e.size;omega)))
  refine E.again (i+1,b,Ab,cb,rb,Ax,cx,Ay,cy) (.of rfl) ?_ ?_
  ·exact⟨by omega,(by rw[List.range_succ,List.foldl_append,<-hb];show _=splS g m fr to a x b i;unfold splS;rw[<-D];exact(if_neg (fun hh=>by first|exact absurd hh.1 (by assumption)|exact hh.2.elim (fun h=>absurd (by rw[hbe h];rfl) (by assumption:¬Ab.isNone=true)) (fun h=>absurd h (by assumption)))).symm),hbe,fun _ hh=>absurd (by rw[D,tryG_bad (.inr (.inr hh))]) (by assumption:¬l.2.2=1),hlb,L9,by have:=ak;have:=e.size;have:=f.size;have:=j.size;omega,bv,bw,av,bx,bz,bA,bB⟩
  first|omega|(simp only[];omega)
 refine Cn rfl (dF c1) (WC.exit (E.thenX (E.thenX (E.blkH (E.thenN (Sq (WC.draw [0,1,2,3,4,5] mixed (by kernel_rfl) fun bK L=>(Gn 1 rfl (Gd rfl (.loadAll ag61 (by rfl) rfl (y.le L)) ?_)))))))))
 refine Gn 2 rfl ?_
 have aU:=(C.le L)
 refine G.ef0 rfl rfl rfl rfl (Ef.storeAll sz61 (by rfl) rfl rfl aU (by rfl) (by simp[Value.oneCell']) ?_)
 intro bC aC af
 refine noT (by kernel_rfl) ?_
 have aC:Blk bC K 61 #[.slice Ax ((digs b.2.1.n).length) cx,.slice Ay ((digs b.2.1.d).length) cy]:=aC
 refine Gn 1 rfl (G.nil (E.thenN (Rt (E.retG3 rfl rfl (resA rfl aC ag61 (by rfl)) rfl ?_))))
 have hil:i=n.toNat:=(by omega)
 have hsg:splitG g m fr to a x n=b:=(by rw[hb,hil];unfold splitG;rw[if_neg (fun hh=>by have:=a2 (by omega);omega)])
 rw[hsg]
 exact⟨_,_,_,_,_,_,_,rfl,(((al.le L).cb af (al.rl (by have:=f6.lt;omega))).mono Z.size),(((ar.le L).chB af aU (by decide) (by decide)).mono Z.size),(((O.le L).cb af (O.rl (by have:=f6.lt;omega))).mono Z.size),(((P.le L).cb af (P.rl (by have:=f6.lt;omega))).mono Z.size),hbe,((aq.trans L).tb af V ah)⟩

theorem sptotal_ok {A:Option Addr}{n c bs:Nat}{rs:List PaR}{ps:List Prt}(w:World)(hV:Vec w prV 4 A n rs)(hp:PasAt w bs rs ps)(hn:n<=1000000)(hok:TotOk ps):Calls prog 42 #[.slice A n c] w fun r w'=>r= .returned (.int .i64 (totP ps))/\Le w w':=by
 have hl:=hV.1
 have hpl:=hp.1
 refine enter func42 rfl rfl (Sr (Wn 1 rfl (Nx (Sr (Wn 1 rfl (Nx (Sq (Sr (Wn 1 rfl (Wr (.len underlying31 rfl) rfl (Wn 1 rfl (Nx (WC.block (WC.loop (ι:=Nat) (fun k=>[(3,.int .i64 (totP (ps.take k))),(6,.slice A n c),(7,.int .i64 (((n:Nat):Int))),(8,.int .i64 (((k:Nat):Int)))]) (fun k e=>(k<=n)/\Le w e/\w.heap.size<=e.heap.size) (fun k=>n-k) 0 ?_ ?_ ?_))))))))))))))
 ·exact .of rfl
 ·exact⟨Nat.zero_le _,(Le.refl w),Nat.le_refl _⟩
 rintro k e ⟨hk,b,l⟩
 refine Sr (Wn 1 rfl (Nx (Sq ?_)))
 by_cases m:((k:Nat):Int)<((n:Nat):Int)
 ·refine Cy rfl (dT m) (Sn (Sq (WC.block (Sr (Wa (.idxS (k) underlying31 sz34 rfl rfl (hV.isSome prV_row (by omega)) (rfl) (by omega)) rfl (Wr (.vload ag34 rfl (hV.le b) prV_row (getS rs noPaR (by omega))) rfl (W.ef rfl rfl rfl (Ef.allocA z34 ?_))))))))
  intro o t u f h
  have f:Blk t o 34 (prV noPaR).toArray:=f
  refine W.ef0 rfl rfl (Ef.storeAll sz34 (by rfl) rfl rfl f (by simp only[List.size_toArray,prV_row.len]) (prV_row.one (rs.getD k noPaR)) ?_)
  intro x d i
  have d:Blk x o 34 (prV (rs.getD k noPaR)).toArray:=d
  have j:=(b.trans h).tb i b u
  refine Nx (Sr ?_)
  have pk:=(hp.le j).2 k (by omega)
  have pka:=pk.amt;have pkw:=pk.way.1;have pks:=pk.sent.1;have pkt:=pk.till.1
  refine Wa (.field0 fa34_2 rfl) rfl (Wr (.loadB (v:= .slice ((rs.getD k noPaR).sA) ((rs.getD k noPaR).sN) ((rs.getD k noPaR).sC)) na23 rfl d rfl) rfl (Wr (.len underlying23 rfl) rfl (Wn 1 rfl (Nx ?_))))
  by_cases s:0<(((rs.getD k noPaR).sN:Nat):Int)
  ·refine Cy rfl (dT s) (WC.region (Wn 1 rfl (Wa (.field0 fa34_2 rfl) rfl (Wr (.loadB (v:= .slice ((rs.getD k noPaR).sA) ((rs.getD k noPaR).sN) ((rs.getD k noPaR).sC)) na23 rfl d rfl) rfl (Wa (.idxS (0) underlying23 sz3 rfl rfl (pk.sent.vec.isSome iv_row (by omega)) (rfl) (by omega)) rfl (Wr (.vone (v:= .int .i64 ((((ps.getD k noPrt).sent).getD 0 0))) na3 rfl pk.sent.vec iv_row (getS ((ps.getD k noPrt).sent) 0 (by first|omega|(simp only[List.length_cons,List.length_nil];omega))) rfl) rfl ?_))))))
   have tk:=totP_ok hok k;have z:=hok.1
   have y:=totP_ok hok (k+1)
   rw[totP_next (by omega)]at y
   refine Wa (.add rfl rfl (by omega)) rfl (Wn 1 rfl (W.nil (E.blkN (E.thenN (WC.region (Wa (.add rfl rfl (by omega)) rfl (Wn 1 rfl (W.nil (E.again (k+1) (.cons' rfl (int_eq (totP_next (by omega)).symm) (.of rfl)) ?_ ?_)))))))))
   ·exact⟨by omega,j,by have:=l;have:=h.size;have:=i.size;omega⟩
   first|omega|(simp only[];omega)
  refine Cn rfl (dF s) (WC.skip (E.blkN (E.thenN (WC.region (Wa (.add rfl rfl (by omega)) rfl (Wn 1 rfl (W.nil (E.again (k+1) (.cons' rfl (int_eq (totP_zero (by omega) (by omega))) (.of rfl)) ?_ ?_))))))))
  ·exact⟨by omega,j,by have:=l;have:=h.size;have:=i.size;omega⟩
  first|omega|(simp only[];omega)
 refine Cn rfl (dF m) (WC.exit (E.thenX (E.thenX (E.blkH (E.thenN (Sr (Wn 2 rfl (Nx (Rt (E.retG1 rfl rfl ?_))))))))))
 have hke:k=ps.length:=(by omega)
 rw[hke,List.take_length]
 exact⟨rfl,b⟩
end Go.Proofs.YtocheaahlpiajaaGreatDoor

namespace Go.Proofs.YtocheaahlpiajaaGreatDoor
open Tryz
open Go Go.Sx Go.Hsp Go.Num Go.Osp Go.Gsp Go.Rtp
set_option maxRecDepth 20000
set_option maxHeartbeats 1000000
structure PlR where
  pA:Option Addr
  pN:Nat
  pC:Nat
  bA:Option Addr
  bN:Nat
  bC:Nat
def noPlR:PlR:=⟨none,0,0,none,0,0⟩
def plV (r:PlR):List Value:=[.slice r.pA r.pN r.pC,.slice r.bA r.bN r.bC]
theorem plV_row:RowF plV 2:=⟨fun _=>rfl,fun x v hv=>by simp[plV]at hv;rcases hv with rfl|rfl<;>rfl,by decide⟩
structure PlnAt (w:World)(bs:Nat)(r:PlR)(p:Pln):Prop where
  pts:OVec w bs 43 pv1 1 r.pA r.pN r.pC p.pts
  bl:OVec w bs 28 pv1 1 r.bA r.bN r.bC p.bl
def PlnsAt (w:World)(bs:Nat)(rs:List PlR)(ps:List Pln):Prop:=rs.length=ps.length/\∀i,i<ps.length->PlnAt w bs (rs.getD i noPlR) (ps.getD i noPln)
section
variable {w w':World}{bs bs':Nat}{r:PlR}{p:Pln}{rs:List PlR}{ps:List Pln}{F:Nat->Prop}
theorem PlnAt.le (h:PlnAt w bs r p)(k:Le w w'):PlnAt w' bs r p:=⟨h.1.le k,h.2.le k⟩
theorem PlnAt.mono (h:PlnAt w bs r p)(k:bs'<=bs):PlnAt w bs' r p:=⟨h.1.mono k,h.2.mono k⟩
theorem PlnAt.chP (h:PlnAt w bs r p)(k:ChP w w' F)(hF:∀i,F i->i<bs):PlnAt w' bs r p:=
  ⟨h.1.chP k fun g hg hf=>by have:=(h.1.row hg).1;have:=hF g hf;omega,h.2.chP k fun g hg hf=>by have:=(h.2.row hg).1;have:=hF g hf;omega⟩
theorem PlnAt.chO {b e s n c:Nat}{α:Type}{f:α->List Value}{A:Option Addr}{xs:List α}(h:PlnAt w bs r p)(k:Ch w w' (rowOf A c))(o:OVec w b e f s A n c xs)(h1:43≠e)(h2:28≠e):PlnAt w' bs r p:=⟨h.1.ch_ty k o h1,h.2.ch_ty k o h2⟩
theorem PlnAt.chB {g t:Nat}{cs:Array Value}(h:PlnAt w bs r p)(k:Ch w w' (some g))(o:Blk w g t cs)(h1:43≠t)(h2:28≠t):PlnAt w' bs r p:=⟨h.1.ch_blk k o h1,h.2.ch_blk k o h2⟩
theorem PlnsAt.nil (w:World)(bs:Nat):PlnsAt w bs [] []:=⟨rfl,fun i hi=>absurd hi (Nat.not_lt_zero _)⟩
theorem PlnsAt.le (h:PlnsAt w bs rs ps)(k:Le w w'):PlnsAt w' bs rs ps:=⟨h.1,fun i hi=>(h.2 i hi).le k⟩
theorem PlnsAt.mono (h:PlnsAt w bs rs ps)(k:bs'<=bs):PlnsAt w bs' rs ps:=⟨h.1,fun i hi=>(h.2 i hi).mono k⟩
theorem PlnsAt.chP (h:PlnsAt w bs rs ps)(k:ChP w w' F)(hF:∀i,F i->i<bs):PlnsAt w' bs rs ps:=⟨h.1,fun i hi=>(h.2 i hi).chP k hF⟩
theorem PlnsAt.chO {b e s n c:Nat}{α:Type}{f:α->List Value}{A:Option Addr}{xs:List α}(h:PlnsAt w bs rs ps)(k:Ch w w' (rowOf A c))(o:OVec w b e f s A n c xs)(h1:43≠e)(h2:28≠e):PlnsAt w' bs rs ps:=⟨h.1,fun i hi=>(h.2 i hi).chO k o h1 h2⟩
theorem PlnsAt.chB {g t:Nat}{cs:Array Value}(h:PlnsAt w bs rs ps)(k:Ch w w' (some g))(o:Blk w g t cs)(h1:43≠t)(h2:28≠t):PlnsAt w' bs rs ps:=⟨h.1,fun i hi=>(h.2 i hi).chB k o h1 h2⟩
theorem PlnsAt.push (h:PlnsAt w bs rs ps)(k:PlnAt w bs r p):PlnsAt w bs (rs++[r]) (ps++[p]):=by
  refine⟨by simp[h.1],fun i hi=>?_⟩
  simp only[List.length_append,List.length_cons,List.length_nil]at hi
  by_cases e:i<ps.length
  · rw[getD_app1 e,getD_app1 (by rw[h.1];exact e)]
    exact h.2 i e
  · have:i=ps.length:=by omega
    subst this
    rw[getD_app2,<-h.1,getD_app2]
    exact k
theorem ns_at (rs:List PaR)(i:Nat):(rs.map (·.wN)).getD i 0=(rs.getD i noPaR).wN:=by
  rw[List.getD_eq_getElem?_getD,List.getD_eq_getElem?_getD,List.getElem?_map]
  cases rs[i]? <;>rfl
theorem PlnsAt.cast {ps':List Pln}(h:PlnsAt w bs rs ps)(e:ps=ps'):PlnsAt w bs rs ps':=e▸h
end
theorem pdrawn8_ok (name:ByteArray)(hnm:byteCells name=nPart.map u8v){A:Option Addr}{c:Nat}{xs:List Byte}(i:Nat)(w:World)(hS:Sb w A 8 xs):Calls prog 74 #[.string name,.slice A 8 c,.int .i64 (i:Int)] w fun e w'=>e= .returned (.int .u64 ((fromB (tag nPart [xs,[BitVec.ofNat 8 i]]):Nat):Int))/\Le w w':=by
 refine enter func74 rfl rfl ?_
 have f:=Le.refl w
 refine Sr (Wn 1 rfl (Nx (Sr (Wn 3 rfl (Wr (.toU8 i (isS underlying3) underlying5 rfl rfl) rfl (W.ef rfl rfl rfl (Ef.buildSlice1 underlying26 el5 rfl rfl fun y z C h j=>?_)))))))
 have k:=f.trans j
 refine W.ef rfl rfl rfl (Ef.buildSliceN [_,_] underlying157 el26 rfl one2s rfl (by decide) (by decide) fun D l F m b=>?_)
 have d:=k.trans b
 refine W.cl go21 rfl rfl (tag_ok _ nPart l (ps:=[xs,[BitVec.ofNat 8 i]]) hnm (m.sl (s:=1) (n:=2) rfl) (.cons (hS.le d) (.cons (Blk.sb (xs:=[BitVec.ofNat 8 i]) (h.le b) rfl) (.nil _))) (by rw[tagLen2,hS.len];show 24+4+8+1<=_;decide)) ?_
 rintro _ o ⟨rfl,t⟩
 have u:=d.trans t
 refine W.cl go169 rfl rfl (from_ok _ (tag_length _ _) o) ?_
 rintro _ H ⟨rfl,v⟩
 have x:=u.trans v
 refine Wn 1 rfl (Nx (Rt (E.ret1 rfl rfl ?_)))
 exact⟨rfl,x⟩

theorem pnewF_ok (p:Nat)(hp:p<18446744073709551616)(seed:List Byte)(n:Nat)(h:¬(right p=true/\p≠1/\1<=n/\n<=8))(w:World):Calls prog 19 #[.int .u64 (((p:Nat):Int)),.agg (seed.map u8v).toArray,.int .i64 (((n:Nat):Int))] w fun r w'=>r= .returned (.tuple #[.agg #[.slice none 0 0,.slice none 0 0],.bool false])/\Le w w':=by
 refine enter func19 rfl rfl (Sr (W.ef rfl rfl rfl (Ef.boxA rfl fun K L N O x=>?_)))
 have b:=(Le.refl w).trans x
 refine W.ef rfl rfl rfl (Ef.allocA z41 fun c o e (f:Blk o c 41 (plV noPlR).toArray) y=>(Wn 1 rfl (Nx (Sq (Sr (Wn 1 rfl (W.cl go75 rfl rfl (pright_ok p (by omega) o) ?_)))))))
 rintro _ P ⟨rfl,d⟩
 have i:=(b.trans y).trans d
 refine Wn 1 rfl ?_
 by_cases s:(right p)=true
 ·refine Wa (.dec (.move rfl) (congrArg not (s))) rfl (Wn 3 rfl ?_)
  by_cases t:((p:Nat):Int)=1
  ·refine Dt t rfl rfl (Wn 7 rfl (Nx (WC.condT rfl (Sr (Wa (.buildP (plV noPlR) pl41 z41 rfl rfl) rfl (W.ef0 rfl rfl (Ef.storeAll sz41 (by rfl) rfl rfl (f.le d) (by simp only[List.size_toArray,plV_row.len]) (plV_row.one noPlR) ?_)))))))
   intro z j A
   have j:Blk z c 41 (plV noPlR).toArray:=j
   refine Wn 1 rfl (Nx (Rt (E.thenR (E.retG2 rfl (resA rfl j ag41 (by rfl)) rfl ?_))))
   exact⟨rfl,(i.tb A b e)⟩
  refine Df t rfl rfl (Wn 3 rfl ?_)
  by_cases u:((n:Nat):Int)<1
  ·refine Dt u rfl rfl (Wn 3 rfl (Nx (WC.condT rfl (Sr (Wa (.buildP (plV noPlR) pl41 z41 rfl rfl) rfl (W.ef0 rfl rfl (Ef.storeAll sz41 (by rfl) rfl rfl (f.le d) (by simp only[List.size_toArray,plV_row.len]) (plV_row.one noPlR) ?_)))))))
   intro C k D
   have k:Blk C c 41 (plV noPlR).toArray:=k
   refine Wn 1 rfl (Nx (Rt (E.thenR (E.retG2 rfl (resA rfl k ag41 (by rfl)) rfl ?_))))
   exact⟨rfl,(i.tb D b e)⟩
  refine Df u rfl rfl (Wn 3 rfl (Nx ?_))
  by_cases v:8<((n:Nat):Int)
  ·refine Cy rfl (dT v) (Sr (Wa (.buildP (plV noPlR) pl41 z41 rfl rfl) rfl (W.ef0 rfl rfl (Ef.storeAll sz41 (by rfl) rfl rfl (f.le d) (by simp only[List.size_toArray,plV_row.len]) (plV_row.one noPlR) ?_))))
   intro F l H
   have l:Blk F c 41 (plV noPlR).toArray:=l
   refine Wn 1 rfl (Nx (Rt (E.thenR (E.retG2 rfl (resA rfl l ag41 (by rfl)) rfl ?_))))
   exact⟨rfl,(i.tb H b e)⟩
  refine Cn rfl (dF v) ?_
  exact absurd ⟨by assumption,by omega,by omega,by omega⟩ h
 refine Wa (.dec (.move rfl) (congrArg not ((Bool.eq_false_iff.2 s)))) rfl (Wn 11 rfl (Nx (WC.condT rfl (Sr (Wa (.buildP (plV noPlR) pl41 z41 rfl rfl) rfl (W.ef0 rfl rfl (Ef.storeAll sz41 (by rfl) rfl rfl (f.le d) (by simp only[List.size_toArray,plV_row.len]) (plV_row.one noPlR) ?_)))))))
 intro I m J
 have m:Blk I c 41 (plV noPlR).toArray:=m
 refine Wn 1 rfl (Nx (Rt (E.thenR (E.retG2 rfl (resA rfl m ag41 (by rfl)) rfl ?_))))
 exact⟨rfl,(i.tb J b e)⟩

theorem parts_ok (s:Nat)(n:Int)(w:World):Calls prog 15 #[.int .u64 (((s:Nat):Int)),.int .i64 (n)] w fun r w'=>∃A c,r= .returned (.slice A (partsL s n).length c)/\OVec w' w.heap.size 28 pv1 1 A (partsL s n).length c (partsL s n)/\Le w w':=by
 refine enter func15 rfl rfl ?_
 have j:=Le.refl w
 refine Sr (Wn 1 rfl (Nx (Sq (Sr (Wn 2 rfl ?_)))))
 by_cases J:n<1
 ·refine Dt J rfl rfl (Wn 3 rfl (Nx (WC.condT rfl (Sr (Wn 1 rfl (Nx (Rt (E.thenR (E.retG1 rfl rfl ?_)))))))))
  rw[partsL_none (by omega)]
  exact⟨none,0,rfl,OVec.nil _ _ _ _ _ _,j⟩
 refine Df J rfl rfl (Wn 3 rfl (Nx ?_))
 by_cases K:8<n
 ·refine Cy rfl (dT K) (Sr (Wn 1 rfl (Nx (Rt (E.thenR (E.retG1 rfl rfl ?_))))))
  rw[partsL_none (by omega)]
  exact⟨none,0,rfl,OVec.nil _ _ _ _ _ _,j⟩
 refine Cn rfl (dF K) (Sn (Sr (W.ef rfl rfl rfl (Ef.allocA z151 fun d L ac o ad=>?_))))
 have o:Blk L d 151 ((List.replicate 8 0#8).map u8v).toArray:=o.cast (rfl)
 refine Nx (Sq (Sr (Wn 1 rfl (W.ef rfl rfl rfl (Ef.buildSliceV (len:=1) [_] underlying35 el28 rfl (by simp[Value.cells]) rfl (by decide) (by decide) ?_)))))
 intro N t ae u O
 have u:Blk t N 28 (([s]).map pv1).flatten.toArray:=u
 have af:OVec t L.heap.size 28 pv1 1 (some ⟨N,0,none⟩) 1 1 ([s]):=u.ovec ae pv1_row rfl rfl (by decide)
 refine W.cl go73 rfl rfl (psum_ok t (Vec.sl (g1:=pv) af.vec) (by omega)) ?_
 rintro _ ah ⟨rfl,P⟩
 refine Wn 2 rfl (Nx (WC.block (WC.loop (ι:=Nat×(List Byte)) (fun⟨k,bs⟩=>[(0,.int .u64 (((s:Nat):Int))),(1,.int .i64 (n)),(5,.pointer (some ⟨d,0,none⟩)),(6,.int .i64 (((k:Nat):Int))),(7,.int .u64 (((sumS ([s]):Nat):Int)))]) (fun⟨k,bs⟩ e=>(k<=8)/\(bs=be8To (sumS [s]) k++List.replicate (8-k) 0#8)/\Le w e/\ah.heap.size<=e.heap.size/\Blk e d 151 (bs.map u8v).toArray) (fun⟨k,bs⟩=>8-k) (0,(List.replicate 8 0#8)) ?_ ?_ ?_)))
 ·exact .of rfl
 ·exact⟨by omega,rfl,(((j.trans ad).trans O).trans P),Nat.le_refl _,(o.le (O.trans P))⟩
 rintro⟨k,bs⟩ e ⟨hk,hbs,f,ai,v⟩
 have hbl:(be8To (sumS [s]) k).length=k:=by simp[be8To,be8_length];omega
 have aE:bs.length=8:=by rw[hbs,List.length_append,hbl,List.length_replicate];omega
 refine Sq (Sr (Wn 2 rfl (Nx ?_)))
 by_cases Q:((k:Nat):Int)<8
 ·refine Cy rfl (dT Q) (Sn (Sq (WC.block (WC.region (Wn 3 rfl (Wa (.mul rfl rfl (by omega)) rfl (Wa (.sub rfl rfl (by omega)) rfl (Wa (.shrN (sumS [s]) (56-8*k) rfl rfl rfl (by omega) (by show 56-8*k<=64;omega)) rfl ?_))))))))
  refine Wr (.toU8 ((sumS [s])>>>(56-8*k)) (isS underlying27) underlying5 rfl rfl) rfl (Wa (.idxA1 (k) underlying151 sz5 rfl rfl (rfl) (by omega)) rfl (W.ef0 rfl rfl (Ef.store sz5 rfl rfl v (by simp only[List.size_toArray,List.length_map,List.length_set];omega) rfl ?_)))
  intro aj x R
  have x:Blk aj d 151 ((bs.set k (BitVec.ofNat 8 ((sumS [s])>>>(56-8*k)))).map u8v).toArray:=bset x
  refine W.nil (E.blkN (E.thenN (WC.region (Wn 1 rfl (Wa (.add rfl rfl (by omega)) rfl (Wn 1 rfl (W.nil (E.again (k+1,(bs.set k (BitVec.ofNat 8 ((sumS [s])>>>(56-8*k))))) (.of rfl) ?_ ?_))))))))
  ·exact⟨by omega,(by rw[hbs,set_fill _ _ _ 8 k hbl (by omega),be8To_succ _ _ (by omega)]),(f.tb R j ac),by have:=ai;have:=R.size;omega,x⟩
  first|omega|(simp only[];omega)
 refine Cn rfl (dF Q) (WC.exit (E.thenX (E.thenX (E.blkH (E.thenN (Sr ?_))))))
 have ak:k=8:=by omega
 have hfl:bs=be8 (addS 0 s):=by subst ak;rw[hbs];simp[be8To,be8_length];rfl
 have al:Blk e d 151 ((be8 (addS 0 s)).map u8v).toArray:=by rw[<-hfl];exact v
 refine Wn 1 rfl (W.ef rfl rfl rfl (Ef.vmake0 ((n).toNat) pv1 underlying35 el28 rfl rfl rfl (by omega) (by omega) (by unfold maxLen;omega) ?_))
 intro am an aF ao y
 refine Wn 1 rfl (Nx (Sq (Sr (Wn 1 rfl (Wa (.sub rfl rfl (by omega)) rfl (Wn 1 rfl (Nx (WC.block (WC.loop (ι:=Nat×((Option Addr))×Nat) (fun⟨k2,Ao,co⟩=>[(0,.int .u64 (((s:Nat):Int))),(5,.pointer (some ⟨d,0,none⟩)),(8,.slice Ao k2 co),(34,.int .i64 ((n-1))),(35,.int .i64 (((k2:Nat):Int)))]) (fun⟨k2,Ao,co⟩ b=>(k2<=n.toNat-1)/\Le w b/\an.heap.size<=b.heap.size/\Blk b d 151 ((be8 (addS 0 s)).map u8v).toArray/\OVec b e.heap.size 28 pv1 1 Ao k2 co (partK s k2)) (fun⟨k2,Ao,co⟩=>n.toNat-1-k2) (0,(some ⟨am,0,none⟩),((n).toNat)) ?_ ?_ ?_)))))))))
 ·exact .of rfl
 ·exact⟨Nat.zero_le _,(f.trans y),Nat.le_refl _,(al.le y),ao⟩
 rintro⟨k2,Ao,co⟩ b ⟨aG,S,ap,T,z⟩
 have U:e.heap.size<=b.heap.size:=by have:=y.size;omega
 refine Sr (Wn 1 rfl (Nx (Sq ?_)))
 by_cases V:((k2:Nat):Int)<(n-1)
 ·refine Cy rfl (dT V) (Sn (Sq (WC.block (Sr (Wn 2 rfl (Nx (WC.region (Wn 1 rfl (Wa (.cutArr underlying151 sz5 rfl) rfl (Wn 1 rfl (W.cl go74 rfl rfl (pdrawn8_ok _ rfl k2 b (T.sb (be8_length _))) ?_)))))))))))
  rintro _ aq ⟨rfl,h⟩
  refine W.ef rfl rfl rfl (Ef.buildSliceV (len:=1) [_] underlying35 el28 rfl (by simp[Value.cells]) rfl (by decide) (by decide) ?_)
  intro X Y ar l i
  have l:Blk Y X 28 (([partD (addS 0 s) k2]).map pv1).flatten.toArray:=l
  have aH:OVec Y aq.heap.size 28 pv1 1 (some ⟨X,0,none⟩) 1 1 ([partD (addS 0 s) k2]):=l.ovec ar pv1_row rfl rfl (by decide)
  have C:=(z.le (h.trans i))
  refine W.ef rfl rfl rfl (Ef.vpush (a:=(partD (addS 0 s) k2)) underlying35 el28 underlying35 pv1_row rfl C rfl l (by omega) (by unfold maxLen;omega) (by have:=U;have:=h.size;have:=i.size;omega) ?_)
  intro au av aI aw D aJ
  refine Wn 1 rfl (W.nil (E.blkN (E.thenN (WC.region (Wa (.add rfl rfl (by omega)) rfl (Wn 1 rfl (W.nil ?_)))))))
  have ax:=((T.le (h.trans i)).ch D (C.rl (by have:=v.lt;omega)))
  refine E.again (k2+1,au,av) (.of rfl) ?_ ?_
  ·exact⟨by omega,(((S.trans h).trans i).then_ D (fun q hq=>Nat.le_trans f.size (C.row hq).1)),by have:=ap;have:=h.size;have:=i.size;have:=D.size;omega,ax,(aw.cast rfl (partK_succ _ _).symm)⟩
  first|omega|(simp only[];omega)
 refine Cn rfl (dF V) (WC.exit (E.thenX (E.thenX (E.blkH (E.thenN (Sr (Wn 3 rfl (W.cl go73 rfl rfl (psum_ok b (Vec.sl (g1:=pv) z.vec) (by omega)) ?_))))))))
 rintro _ ay ⟨rfl,F⟩
 refine W.cl go60 rfl rfl (fsub_ok s (sumS (partK s k2)) ay) ?_
 rintro _ az ⟨rfl,H⟩
 refine W.ef rfl rfl rfl (Ef.buildSliceV (len:=1) [_] underlying35 el28 rfl (by simp[Value.cells]) rfl (by decide) (by decide) ?_)
 intro Z aa aA m I
 have m:Blk aa Z 28 (([addS s (negS (sumS (partK s k2)))]).map pv1).flatten.toArray:=m
 have aK:OVec aa az.heap.size 28 pv1 1 (some ⟨Z,0,none⟩) 1 1 ([addS s (negS (sumS (partK s k2)))]):=m.ovec aA pv1_row rfl rfl (by decide)
 have ab:=(z.le (F.trans (H.trans I)))
 refine W.ef rfl rfl rfl (Ef.vpush (a:=(addS s (negS (sumS (partK s k2))))) underlying35 el28 underlying35 pv1_row rfl ab rfl m (by omega) (by unfold maxLen;omega) (by have:=U;have:=F.size;have:=H.size;have:=I.size;omega) ?_)
 intro aL aM aO aB aC aP
 refine Wn 1 rfl (Nx (Rt (E.retG1 rfl rfl ?_)))
 have hkn:k2=n.toNat-1:=(by omega)
 have hpl:=partsL_len (s:=s) (n:=n) (by omega) (by omega)
 have hpe:partsL s n=partK s k2++[addS s (negS (sumS (partK s k2)))]:=(by rw[hkn];exact if_neg (by omega))
 rw[hpe,List.length_append,partK_len]
 exact⟨_,_,rfl,(aB.mono f.size),((((S.trans F).trans H).trans I).then_ aC (fun q hq=>Nat.le_trans f.size (ab.row hq).1))⟩

theorem whole_ok {A:Option Addr}{n c:Nat}{xs:List Nat}(w:World)(hS:Sl w 1 A n (xs.map pv))(hn:n<=1000000):Calls prog 24 #[.slice A n c] w fun r w'=>r= .returned (.int .u64 ((sumS xs:Nat):Int))/\Le w w':=by
 have hV:Vec w pv1 1 A n xs:=Sl.vec (g1:=pv) hS
 refine enter func24 rfl rfl ?_
 have b:=Le.refl w
 refine Sr (Wn 1 rfl (Nx (Sr (Wn 1 rfl (W.cl go73 rfl rfl (psum_ok w (Vec.sl (g1:=pv) (hV.le b)) (by omega)) ?_)))))
 rintro _ e ⟨rfl,d⟩
 refine Wn 1 rfl (Nx (Rt (E.retG1 rfl rfl ?_)))
 exact⟨rfl,(b.trans d)⟩

theorem plans_ok (s:Nat){seed:List Byte}(hse:seed.length=32){A:Option Addr}{n c:Nat}{rs:List PaR}(w:World)(hV:Vec w prV 4 A n rs)(hn:n<=1000000):Calls prog 16 #[.slice A n c,.int .u64 (((s:Nat):Int)),.agg (seed.map u8v).toArray] w fun r w'=>∃A' c' qs,r= .returned (.slice A' (plansL s seed (rs.map (·.wN))).length c')/\OVec w' w.heap.size 41 plV 2 A' (plansL s seed (rs.map (·.wN))).length c' qs/\PlnsAt w' w.heap.size qs (plansL s seed (rs.map (·.wN)))/\Le w w':=by
 have hl:=hV.1
 have hnl:(rs.map (·.wN)).length=n:=by rw[List.length_map];exact hl
 refine enter func16 rfl rfl (Sr (W.ef rfl rfl rfl (Ef.boxA rfl fun P ac a5 (aL:Blk ac P 30 (seed.map u8v).toArray) aM=>(Wn 1 rfl (Nx (Sr (Wn 1 rfl (Nx (Sq (Sr (Wn 2 rfl (Wr (.len underlying31 rfl) rfl ?_))))))))))))
 obtain⟨ts,hets⟩:∃z,z=(partsL s ((n:Nat):Int)):=⟨_,rfl⟩
 refine W.cl go15 rfl rfl ((by have k:=parts_ok s ((n:Nat):Int) ac;rw[<-hets]at k;exact k)) ?_
 rintro _ I ⟨aB,aC,rfl,af,ah⟩
 have L2:=((Le.refl w).trans aM).trans ah
 have a6:=partsL_le s ((n:Nat):Int);have a7:=partsL_lt s ((n:Nat):Int)
 have htn:ts.length<=n:=by rw[hets];exact partsL_len_le s n
 have hpa:∀i,planAt s seed (rs.map (·.wN)) i=planT (ts.getD i 0) (seedD seed i) (rs.getD i noPaR).wN:=fun i=>by unfold planAt;rw[hnl,<-hets,ns_at]
 have hmay:PlansMay s (rs.map (·.wN))↔∀i,i<ts.length->PlnMay (ts.getD i 0) (rs.getD i noPaR).wN:=by unfold PlansMay;simp only[hnl,<-hets,ns_at]
 refine Wr (.len underlying35 rfl) rfl (Wn 1 rfl (Nx (WC.block ?_)))
 have f3:=(aL.le ah)
 refine WC.loop (ι:=Nat×((Option Addr))×Nat×((List PlR))) (fun⟨i,Ao,co,qo⟩=>[(0,.slice A n c),(5,.pointer (some ⟨P,0,none⟩)),(7,.slice Ao i co),(15,.slice aB ts.length aC),(16,.int .i64 (((ts.length:Nat):Int))),(17,.int .i64 (((i:Nat):Int)))]) (fun⟨i,Ao,co,qo⟩ F=>(i<=ts.length)/\(∀j,j<i->PlnMay (ts.getD j 0) (rs.getD j noPaR).wN)/\Le w F/\I.heap.size<=F.heap.size/\Blk F P 30 (seed.map u8v).toArray/\OVec F I.heap.size 41 plV 2 Ao i co qo/\PlnsAt F I.heap.size qo (planK s seed (rs.map (·.wN)) i)/\OVec F ac.heap.size 28 pv1 1 aB ts.length aC ts) (fun⟨i,Ao,co,qo⟩=>ts.length-i) (0,none,0,([])) ?_ ?_ ?_
 ·exact .of rfl
 ·exact⟨Nat.zero_le _,fun j hj=>absurd hj (Nat.not_lt_zero _),L2,Nat.le_refl _,f3,(OVec.nil I I.heap.size 41 plV 2 none),(PlnsAt.nil I I.heap.size),af⟩
 rintro⟨i,Ao,co,qo⟩ F ⟨hi,hall,ai,aO,ad,aj,aE,ak⟩
 have a8:I.heap.size<=F.heap.size:=by omega
 have aF:I.heap.size<=F.heap.size:=by omega
 have a9:ac.heap.size<=F.heap.size:=by have:=ah.size;omega
 refine Sr (Wn 1 rfl (Nx (Sq ?_)))
 by_cases c0:((i:Nat):Int)<((ts.length:Nat):Int)
 ·refine Cy rfl (dT c0) (Sn (Sq (WC.block (Sr (Wn 1 rfl (Wa (.idxS (i) underlying35 sz28 rfl rfl (af.vec.isSome pv1_row (by omega)) (rfl) (by omega)) rfl (Wr (.vone (v:= .int .u64 ((((ts.getD i 0):Nat):Int))) na28 rfl ak.vec pv1_row (getS ts 0 (by omega)) rfl) rfl (Wn 1 rfl ?_))))))))
  by_cases U:PlnMay (ts.getD i 0) (rs.getD i noPaR).wN
  ·refine Wn 1 rfl (Nx (Sq (WC.drawM [0,2,3,4,8,9,10,11,12,13] [1,5,6,7,14,15,16,17,18] [19,20] (fun i=>bif Nat.beq i 6 then[5]else bif Nat.beq i 7 then[6]else bif Nat.beq i 14 then[1,7]else bif Nat.beq i 15 then[14]else bif Nat.beq i 16 then[15]else bif Nat.beq i 17 then[15]else[]) mixed (by kernel_rfl) fun H C=>?_)))
   have L4:=ai.trans C
   refine Gn 1 rfl (Ga rfl (.cutArr underlying30 sz5 rfl) (Gn 1 rfl (Gd rfl (.toU8 i (isS underlying3) underlying5 rfl rfl) (Gn 2 rfl (Ga rfl (.idxS (i) underlying31 sz34 rfl rfl (hV.isSome prV_row (by omega)) (rfl) (by omega)) ?_)))))
   refine Ga rfl (.vfield fa34_1 (hV.isSome prV_row (by omega)) rfl) (Gd rfl (.vcell (j:=i) (o:=1) (v:= .slice ((rs.getD i noPaR).wA) ((rs.getD i noPaR).wN) ((rs.getD i noPaR).wC)) na32 rfl (hV.le L4) prV_row (getS rs noPaR (by omega)) rfl) (Gd rfl (.len underlying32 rfl) (G.nil ?_)))
   refine E.free3 ⟨by rfl,fun iU=>(bif Nat.beq iU 1 then(fun v w'=>v= .int .u64 (((base (ts.getD i 0):Nat):Int)))else(bif Nat.beq iU 5 then(fun v w'=>∃b,v= .slice (some ⟨b,0,none⟩) 1 1/\OVec w' H.heap.size 5 byteV 1 (some ⟨b,0,none⟩) 1 1 ([BitVec.ofNat 8 i]))else(bif Nat.beq iU 6 then(fun v w'=>∃b x,v= .slice (some ⟨x,0,none⟩) 2 2/\OVec w' H.heap.size 5 byteV 1 (some ⟨b,0,none⟩) 1 1 ([BitVec.ofNat 8 i])/\Blk w' x 26 #[.slice (some ⟨P,0,none⟩) 32 32,.slice (some ⟨b,0,none⟩) 1 1])else(bif Nat.beq iU 7 then(fun v w'=>v= .agg ((tag nSplit [seed,[BitVec.ofNat 8 i]]).map u8v).toArray)else(bif Nat.beq iU 14 then(fun v w'=>∃d e f,v= .tuple #[.agg (plV (⟨some ⟨d,0,none⟩,(rs.getD i noPaR).wN,(rs.getD i noPaR).wN,e,(rs.getD i noPaR).wN-1,f⟩:PlR)).toArray,.bool true]/\PlnAt w' H.heap.size (⟨some ⟨d,0,none⟩,(rs.getD i noPaR).wN,(rs.getD i noPaR).wN,e,(rs.getD i noPaR).wN-1,f⟩:PlR) (planT (ts.getD i 0) (tag nSplit [seed,[BitVec.ofNat 8 i]]) (rs.getD i noPaR).wN))else(bif Nat.beq iU 15 then(fun v w'=>∃d e f,v= .tuple #[.agg (plV (⟨some ⟨d,0,none⟩,(rs.getD i noPaR).wN,(rs.getD i noPaR).wN,e,(rs.getD i noPaR).wN-1,f⟩:PlR)).toArray,.bool true]/\PlnAt w' H.heap.size (⟨some ⟨d,0,none⟩,(rs.getD i noPaR).wN,(rs.getD i noPaR).wN,e,(rs.getD i noPaR).wN-1,f⟩:PlR) (planT (ts.getD i 0) (tag nSplit [seed,[BitVec.ofNat 8 i]]) (rs.getD i noPaR).wN))else(bif Nat.beq iU 16 then(fun v w'=>∃d e f,v= .agg (plV (⟨some ⟨d,0,none⟩,(rs.getD i noPaR).wN,(rs.getD i noPaR).wN,e,(rs.getD i noPaR).wN-1,f⟩:PlR)).toArray/\PlnAt w' H.heap.size (⟨some ⟨d,0,none⟩,(rs.getD i noPaR).wN,(rs.getD i noPaR).wN,e,(rs.getD i noPaR).wN-1,f⟩:PlR) (planT (ts.getD i 0) (tag nSplit [seed,[BitVec.ofNat 8 i]]) (rs.getD i noPaR).wN))else(bif Nat.beq iU 17 then(fun v w'=>v= .bool true)else(bif Nat.beq iU 18 then(fun v w'=>∃t,v= .pointer (some ⟨t,0,none⟩)/\Blk w' t 41 (plV noPlR).toArray)else(fun _ _=>True)))))))))),?_,?_,?_⟩
   ·intro iU hi v l u hv hle
    simp only[List.mem_cons,List.not_mem_nil,or_false]at hi
    rcases hi with rfl|rfl|rfl|rfl|rfl|rfl|rfl|rfl|rfl
    ·exact hv
    ·obtain⟨b,hvv,y⟩:=hv;exact⟨b,hvv,y.le hle⟩
    ·obtain⟨b,x,hvv,y,J⟩:=hv;exact⟨b,x,hvv,y.le hle,J.le hle⟩
    ·exact hv
    ·obtain⟨d,e,f,hvv,D⟩:=hv;exact⟨d,e,f,hvv,D.le hle⟩
    ·obtain⟨d,e,f,hvv,D⟩:=hv;exact⟨d,e,f,hvv,D.le hle⟩
    ·obtain⟨d,e,f,hvv,D⟩:=hv;exact⟨d,e,f,hvv,D.le hle⟩
    ·exact hv
    obtain⟨t,hvv,K⟩:=hv;exact⟨t,hvv,K.le hle⟩
   ·intro iU hi
    simp only[List.mem_cons,List.not_mem_nil,or_false]at hi
    rcases hi with rfl|rfl|rfl|rfl|rfl|rfl|rfl|rfl|rfl
    ·refine .inl ⟨rfl,Step.of0 rfl rfl ?_⟩
     intro l hle
     refine Ef.call go20 rfl rfl (base_ok (ts.getD i 0) l) ?_
     rintro _ u ⟨rfl,m⟩
     refine⟨_,rfl,?_⟩
     exact⟨m,rfl,fun k hk=>hk.elim⟩
    ·refine .inl ⟨rfl,Step.of0 rfl rfl ?_⟩
     intro l hle
     refine Ef.buildSliceV (len:=1) [_] underlying26 el5 rfl (by simp[Value.cells,u8v]) rfl (by decide) (by decide) ?_
     intro b u hg Q m
     have Q:Blk u b 5 (([BitVec.ofNat 8 i]).map byteV).flatten.toArray:=Q
     have Y:OVec u l.heap.size 5 byteV 1 (some ⟨b,0,none⟩) 1 1 ([BitVec.ofNat 8 i]):=Q.ovec hg byteV_row rfl rfl (by decide)
     exact⟨m,⟨_,rfl,(Y.mono hle.size)⟩,fun k hk=>Y.row hk⟩
    ·refine .inl ⟨rfl,Step.of1 (j:=5) rfl rfl rfl ?_⟩
     intro v5 l hle al
     obtain⟨b,rfl,y⟩:=al
     refine Ef.buildSliceN [_,_] underlying157 el26 rfl (by intro v hv;simp at hv;rcases hv with rfl|rfl<;>rfl) rfl (by decide) (by decide) ?_
     intro x u hg L m
     have L:Blk u x 26 #[.slice (some ⟨P,0,none⟩) 32 32,.slice (some ⟨b,0,none⟩) 1 1]:=L
     exact⟨m,⟨_,_,rfl,(y.le m),L⟩,fun k hk=>(rowOf_lit hk)▸⟨hg,L.lt⟩⟩
    ·refine .inl ⟨rfl,Step.of1 (j:=6) rfl rfl rfl ?_⟩
     intro v6 l hle am
     obtain⟨b,x,rfl,y,J⟩:=am
     refine Ef.call go21 rfl rfl (tag_ok _ nSplit l (ps:=[seed,[BitVec.ofNat 8 i]]) rfl (J.sl (s:=1) (n:=2) rfl) (.cons ((ad.le (C.trans hle)).sb hse) (.cons (byte_sb y.vec) (.nil _))) (by rw[tagLen2,hse];show 24+5+32+1<=_;decide)) ?_
     rintro _ u ⟨rfl,m⟩
     refine⟨_,rfl,?_⟩
     exact⟨m,rfl,fun k hk=>hk.elim⟩
    ·refine .inl ⟨rfl,Step.of2 (j:=1) (k:=7) rfl rfl rfl rfl ?_⟩
     intro v1 v7 l hle R S
     have R:v1= .int .u64 (((base (ts.getD i 0):Nat):Int)):=R
     subst R
     have S:v7= .agg ((tag nSplit [seed,[BitVec.ofNat 8 i]]).map u8v).toArray:=S
     subst S
     refine Ef.call go19 rfl rfl (pnew_ok (base (ts.getD i 0)) (base_lt _) (right_base _) U.1 (tag nSplit [seed,[BitVec.ofNat 8 i]]) (tag_length _ _) (rs.getD i noPaR).wN U.2.1 U.2.2 l) ?_
     rintro _ u ⟨d,e,f,rfl,aP,aQ,aR,m⟩
     refine⟨_,rfl,?_⟩
     have aS:PlnAt u l.heap.size (⟨some ⟨d,0,none⟩,(rs.getD i noPaR).wN,(rs.getD i noPaR).wN,e,(rs.getD i noPaR).wN-1,f⟩:PlR) (planT (ts.getD i 0) (tag nSplit [seed,[BitVec.ofNat 8 i]]) (rs.getD i noPaR).wN):=⟨aQ.ovec aP pv1_row (flat_sing (g1:=pv) _).symm (planT_len _ _ U.2.1).1 (show(rs.getD i noPaR).wN<=maxLen by have:=U.2.2;unfold maxLen;omega),Own.ovec (g1:=pv) aR⟩
     exact⟨m,⟨_,_,_,rfl,(aS.mono hle.size)⟩,fun k hk=>hk.elim⟩
    ·refine Step3.pure1 (j:=14) rfl rfl rfl rfl fun aG l hle an=>?_
     obtain⟨d,e,f,rfl,D⟩:=an
     exact⟨.tuple #[.agg (plV (⟨some ⟨d,0,none⟩,(rs.getD i noPaR).wN,(rs.getD i noPaR).wN,e,(rs.getD i noPaR).wN-1,f⟩:PlR)).toArray,.bool true],.move rfl,⟨_,_,_,rfl,D⟩,fun k hk=>hk.elim⟩
    ·refine Step3.pure1 (j:=15) rfl rfl rfl rfl fun Z l hle T=>?_
     obtain⟨d,e,f,rfl,D⟩:=T
     exact⟨.agg (plV (⟨some ⟨d,0,none⟩,(rs.getD i noPaR).wN,(rs.getD i noPaR).wN,e,(rs.getD i noPaR).wN-1,f⟩:PlR)).toArray,.extract (v:= .agg (plV (⟨some ⟨d,0,none⟩,(rs.getD i noPaR).wN,(rs.getD i noPaR).wN,e,(rs.getD i noPaR).wN-1,f⟩:PlR)).toArray) rfl rfl,⟨_,_,_,rfl,D⟩,fun k hk=>hk.elim⟩
    ·refine Step3.pure1 (j:=15) rfl rfl rfl rfl fun Z l hle T=>?_
     obtain⟨d,e,f,rfl,D⟩:=T
     exact⟨.bool true,.extract (v:= .bool true) rfl rfl,rfl,fun k hk=>hk.elim⟩
    refine .inl ⟨rfl,Step.of0 rfl rfl ?_⟩
    intro l hle
    refine Ef.allocA z41 fun t u hg aa m=>?_
    exact⟨m,⟨_,rfl,aa⟩,fun k hk=>(show t=k from hk)▸⟨hg,aa.lt⟩⟩
   intro f_5 W_5 h_5 hphi_5 hfeet_5 hap_5
   have ao:f_5 1= .int .u64 (((base (ts.getD i 0):Nat):Int)):=hphi_5 1 (by decide)
   obtain⟨b,ap,aT⟩:=hphi_5 5 (by decide)
   obtain⟨b,x,aq,y,J⟩:=hphi_5 6 (by decide)
   have ar:f_5 7= .agg ((tag nSplit [seed,[BitVec.ofNat 8 i]]).map u8v).toArray:=hphi_5 7 (by decide)
   obtain⟨d,e,f,au,aU⟩:=hphi_5 14 (by decide)
   obtain⟨d,e,f,av,aU⟩:=hphi_5 15 (by decide)
   obtain⟨d,e,f,aw,D⟩:=hphi_5 16 (by decide)
   have ax:f_5 17= .bool true:=hphi_5 17 (by decide)
   obtain⟨t,ab,K⟩:=hphi_5 18 (by decide)
   have ay:H.heap.size<=t:=(hfeet_5 18 (by decide) t (by rw[ab];rfl)).1
   show G _ _ _ _ _ ((24,f_5 1)::(28,f_5 5)::(29,f_5 6)::(30,f_5 7)::(37,f_5 14)::(22,f_5 15)::(38,f_5 16)::(39,f_5 17)::(10,f_5 18)::_) _
   rw[ao,ap,aq,ar,au,av,aw,ax,ab]
   refine G.ef0 rfl rfl rfl rfl (Ef.storeAll sz41 (by rfl) rfl rfl K (by simp only[List.size_toArray,plV_row.len]) (plV_row.one (⟨some ⟨d,0,none⟩,(rs.getD i noPaR).wN,(rs.getD i noPaR).wN,e,(rs.getD i noPaR).wN-1,f⟩:PlR)) ?_)
   intro aH az N
   refine noT (by kernel_rfl) ?_
   have az:Blk aH t 41 (plV (⟨some ⟨d,0,none⟩,(rs.getD i noPaR).wN,(rs.getD i noPaR).wN,e,(rs.getD i noPaR).wN-1,f⟩:PlR)).toArray:=az
   refine Gn 1 rfl (G.nil (E.thenN (Sq (Sr (Wn 2 rfl (Nx (WC.condF rfl (Sn (WC.region (Wn 1 rfl (Wr (.loadAll ag41 (by rfl) rfl az) rfl ?_)))))))))))
   refine W.ef rfl rfl rfl (Ef.buildSliceV (len:=1) [_] underlying37 el41 rfl (by simp[Value.cells,plV_row.len]) rfl (by decide) (by decide) ?_)
   intro aI aJ aV ae O
   have ae:Blk aJ aI 41 (([(⟨some ⟨d,0,none⟩,(rs.getD i noPaR).wN,(rs.getD i noPaR).wN,e,(rs.getD i noPaR).wN-1,f⟩:PlR)]).map plV).flatten.toArray:=ae
   have ba:OVec aJ aH.heap.size 41 plV 2 (some ⟨aI,0,none⟩) 1 1 ([(⟨some ⟨d,0,none⟩,(rs.getD i noPaR).wN,(rs.getD i noPaR).wN,e,(rs.getD i noPaR).wN-1,f⟩:PlR)]):=ae.ovec aV plV_row rfl rfl (by decide)
   have V:=(((aj.le (C.trans h_5)).cb N (aj.rn (by have:=C.size;omega))).le O)
   refine W.ef rfl rfl rfl (Ef.vpush (a:=(⟨some ⟨d,0,none⟩,(rs.getD i noPaR).wN,(rs.getD i noPaR).wN,e,(rs.getD i noPaR).wN-1,f⟩:PlR)) underlying37 el41 underlying37 plV_row rfl V rfl ae (by omega) (by unfold maxLen;omega) (by have:=aF;have:=C.size;have:=h_5.size;have:=N.size;have:=O.size;omega) ?_)
   intro aW aX bb aY X bc
   refine Wn 1 rfl ?_
   have aZ:=((((aE.le (C.trans h_5)).chB N K (by decide) (by decide)).le O).chO X V (by decide) (by decide))
   have a0:=(((D.chB N K (by decide) (by decide)).le O).chO X V (by decide) (by decide))
   have zpu:=aZ.push (a0.mono (by have:=aF;have:=C.size;omega))
   refine W.nil (E.blkN (E.thenN (WC.region (Wa (.add rfl rfl (by omega)) rfl (Wn 1 rfl (W.nil ?_))))))
   have a1:=((((ad.le (C.trans h_5)).cn N (by have:=ad.lt;have:=C.size;omega)).le O).ch X (V.rl (by have:=f3.lt;omega)))
   have a2:=((((ak.le (C.trans h_5)).cb N (ak.rn (by have:=C.size;omega))).le O).ch X ((Apart.symm (fun q h1 m=>by have:=(af.row h1).2;have:=(V.row m).1;omega))))
   refine E.again (i+1,aW,aX,(qo++[(⟨some ⟨d,0,none⟩,(rs.getD i noPaR).wN,(rs.getD i noPaR).wN,e,(rs.getD i noPaR).wN-1,f⟩:PlR)])) (.of rfl) ?_ ?_
   ·exact⟨by omega,fun j hj=>(Nat.lt_succ_iff_lt_or_eq.1 hj).elim (hall j) (fun hh=>by subst hh;assumption),((((L4.trans h_5).tb N L4 ay).trans O).then_ X (fun q hq=>Nat.le_trans L2.size (V.row hq).1)),by have:=aO;have:=C.size;have:=h_5.size;have:=N.size;have:=O.size;have:=X.size;omega,a1,aY,(zpu.cast (by rw[planK_succ,hpa];rfl)),a2⟩
   first|omega|(simp only[];omega)
  refine Wn 1 rfl (Nx (Sq (WC.drawM [0,2,3,4,8,9,10,11,12,13] [1,5,6,7,14,15,16,17,18] [19,20] (fun i=>bif Nat.beq i 6 then[5]else bif Nat.beq i 7 then[6]else bif Nat.beq i 14 then[1,7]else bif Nat.beq i 15 then[14]else bif Nat.beq i 16 then[15]else bif Nat.beq i 17 then[15]else[]) mixed (by kernel_rfl) fun H C=>?_)))
  have aA:=ai.trans C
  refine Gn 1 rfl (Ga rfl (.cutArr underlying30 sz5 rfl) (Gn 1 rfl (Gd rfl (.toU8 i (isS underlying3) underlying5 rfl rfl) (Gn 2 rfl (Ga rfl (.idxS (i) underlying31 sz34 rfl rfl (hV.isSome prV_row (by omega)) (rfl) (by omega)) ?_)))))
  refine Ga rfl (.vfield fa34_1 (hV.isSome prV_row (by omega)) rfl) (Gd rfl (.vcell (j:=i) (o:=1) (v:= .slice ((rs.getD i noPaR).wA) ((rs.getD i noPaR).wN) ((rs.getD i noPaR).wC)) na32 rfl (hV.le aA) prV_row (getS rs noPaR (by omega)) rfl) (Gd rfl (.len underlying32 rfl) (G.nil ?_)))
  refine E.free3 ⟨by rfl,fun iU=>(bif Nat.beq iU 1 then(fun v w'=>v= .int .u64 (((base (ts.getD i 0):Nat):Int)))else(bif Nat.beq iU 5 then(fun v w'=>∃b,v= .slice (some ⟨b,0,none⟩) 1 1/\OVec w' H.heap.size 5 byteV 1 (some ⟨b,0,none⟩) 1 1 ([BitVec.ofNat 8 i]))else(bif Nat.beq iU 6 then(fun v w'=>∃b x,v= .slice (some ⟨x,0,none⟩) 2 2/\OVec w' H.heap.size 5 byteV 1 (some ⟨b,0,none⟩) 1 1 ([BitVec.ofNat 8 i])/\Blk w' x 26 #[.slice (some ⟨P,0,none⟩) 32 32,.slice (some ⟨b,0,none⟩) 1 1])else(bif Nat.beq iU 7 then(fun v w'=>v= .agg ((tag nSplit [seed,[BitVec.ofNat 8 i]]).map u8v).toArray)else(bif Nat.beq iU 14 then(fun v w'=>v= .tuple #[.agg (plV noPlR).toArray,.bool false])else(bif Nat.beq iU 15 then(fun v w'=>v= .tuple #[.agg (plV noPlR).toArray,.bool false])else(bif Nat.beq iU 16 then(fun v w'=>v= .agg (plV noPlR).toArray)else(bif Nat.beq iU 17 then(fun v w'=>v= .bool false)else(bif Nat.beq iU 18 then(fun v w'=>∃t,v= .pointer (some ⟨t,0,none⟩)/\Blk w' t 41 (plV noPlR).toArray)else(fun _ _=>True)))))))))),?_,?_,?_⟩
  ·intro iU hi v l u hv hle
   simp only[List.mem_cons,List.not_mem_nil,or_false]at hi
   rcases hi with rfl|rfl|rfl|rfl|rfl|rfl|rfl|rfl|rfl
   ·exact hv
   ·obtain⟨b,hvv,y⟩:=hv;exact⟨b,hvv,y.le hle⟩
   ·obtain⟨b,x,hvv,y,J⟩:=hv;exact⟨b,x,hvv,y.le hle,J.le hle⟩
   ·exact hv
   ·exact hv
   ·exact hv
   ·exact hv
   ·exact hv
   obtain⟨t,hvv,K⟩:=hv;exact⟨t,hvv,K.le hle⟩
  ·intro iU hi
   simp only[List.mem_cons,List.not_mem_nil,or_false]at hi
   rcases hi with rfl|rfl|rfl|rfl|rfl|rfl|rfl|rfl|rfl
   ·refine .inl ⟨rfl,Step.of0 rfl rfl ?_⟩
    intro l hle
    refine Ef.call go20 rfl rfl (base_ok (ts.getD i 0) l) ?_
    rintro _ u ⟨rfl,m⟩
    refine⟨_,rfl,?_⟩
    exact⟨m,rfl,fun k hk=>hk.elim⟩
   ·refine .inl ⟨rfl,Step.of0 rfl rfl ?_⟩
    intro l hle
    refine Ef.buildSliceV (len:=1) [_] underlying26 el5 rfl (by simp[Value.cells,u8v]) rfl (by decide) (by decide) ?_
    intro b u hg Q m
    have Q:Blk u b 5 (([BitVec.ofNat 8 i]).map byteV).flatten.toArray:=Q
    have Y:OVec u l.heap.size 5 byteV 1 (some ⟨b,0,none⟩) 1 1 ([BitVec.ofNat 8 i]):=Q.ovec hg byteV_row rfl rfl (by decide)
    exact⟨m,⟨_,rfl,(Y.mono hle.size)⟩,fun k hk=>Y.row hk⟩
   ·refine .inl ⟨rfl,Step.of1 (j:=5) rfl rfl rfl ?_⟩
    intro v5 l hle al
    obtain⟨b,rfl,y⟩:=al
    refine Ef.buildSliceN [_,_] underlying157 el26 rfl (by intro v hv;simp at hv;rcases hv with rfl|rfl<;>rfl) rfl (by decide) (by decide) ?_
    intro x u hg L m
    have L:Blk u x 26 #[.slice (some ⟨P,0,none⟩) 32 32,.slice (some ⟨b,0,none⟩) 1 1]:=L
    exact⟨m,⟨_,_,rfl,(y.le m),L⟩,fun k hk=>(rowOf_lit hk)▸⟨hg,L.lt⟩⟩
   ·refine .inl ⟨rfl,Step.of1 (j:=6) rfl rfl rfl ?_⟩
    intro v6 l hle am
    obtain⟨b,x,rfl,y,J⟩:=am
    refine Ef.call go21 rfl rfl (tag_ok _ nSplit l (ps:=[seed,[BitVec.ofNat 8 i]]) rfl (J.sl (s:=1) (n:=2) rfl) (.cons ((ad.le (C.trans hle)).sb hse) (.cons (byte_sb y.vec) (.nil _))) (by rw[tagLen2,hse];show 24+5+32+1<=_;decide)) ?_
    rintro _ u ⟨rfl,m⟩
    refine⟨_,rfl,?_⟩
    exact⟨m,rfl,fun k hk=>hk.elim⟩
   ·refine .inl ⟨rfl,Step.of2 (j:=1) (k:=7) rfl rfl rfl rfl ?_⟩
    intro v1 v7 l hle R S
    have R:v1= .int .u64 (((base (ts.getD i 0):Nat):Int)):=R
    subst R
    have S:v7= .agg ((tag nSplit [seed,[BitVec.ofNat 8 i]]).map u8v).toArray:=S
    subst S
    refine Ef.call go19 rfl rfl (pnewF_ok (base (ts.getD i 0)) (base_lt _) (tag nSplit [seed,[BitVec.ofNat 8 i]]) (rs.getD i noPaR).wN (fun h=>U h.2) l) ?_
    rintro _ u ⟨rfl,m⟩
    refine⟨_,rfl,?_⟩
    exact⟨m,rfl,fun k hk=>hk.elim⟩
   ·refine Step3.pure1 (j:=14) rfl rfl rfl rfl fun aG l hle (an:aG= .tuple #[.agg (plV noPlR).toArray,.bool false])=>?_
    subst an
    exact⟨.tuple #[.agg (plV noPlR).toArray,.bool false],.move rfl,rfl,fun k hk=>hk.elim⟩
   ·refine Step3.pure1 (j:=15) rfl rfl rfl rfl fun Z l hle (T:Z= .tuple #[.agg (plV noPlR).toArray,.bool false])=>?_
    subst T
    exact⟨.agg (plV noPlR).toArray,.extract (v:= .agg (plV noPlR).toArray) rfl rfl,rfl,fun k hk=>hk.elim⟩
   ·refine Step3.pure1 (j:=15) rfl rfl rfl rfl fun Z l hle (T:Z= .tuple #[.agg (plV noPlR).toArray,.bool false])=>?_
    subst T
    exact⟨.bool false,.extract (v:= .bool false) rfl rfl,rfl,fun k hk=>hk.elim⟩
   refine .inl ⟨rfl,Step.of0 rfl rfl ?_⟩
   intro l hle
   refine Ef.allocA z41 fun t u hg aa m=>?_
   exact⟨m,⟨_,rfl,aa⟩,fun k hk=>(show t=k from hk)▸⟨hg,aa.lt⟩⟩
  intro f_5 W_5 h_5 hphi_5 hfeet_5 hap_5
  have ao:f_5 1= .int .u64 (((base (ts.getD i 0):Nat):Int)):=hphi_5 1 (by decide)
  obtain⟨b,ap,aT⟩:=hphi_5 5 (by decide)
  obtain⟨b,x,aq,y,J⟩:=hphi_5 6 (by decide)
  have ar:f_5 7= .agg ((tag nSplit [seed,[BitVec.ofNat 8 i]]).map u8v).toArray:=hphi_5 7 (by decide)
  have au:f_5 14= .tuple #[.agg (plV noPlR).toArray,.bool false]:=hphi_5 14 (by decide)
  have av:f_5 15= .tuple #[.agg (plV noPlR).toArray,.bool false]:=hphi_5 15 (by decide)
  have aw:f_5 16= .agg (plV noPlR).toArray:=hphi_5 16 (by decide)
  have ax:f_5 17= .bool false:=hphi_5 17 (by decide)
  obtain⟨t,ab,K⟩:=hphi_5 18 (by decide)
  have ay:H.heap.size<=t:=(hfeet_5 18 (by decide) t (by rw[ab];rfl)).1
  show G _ _ _ _ _ ((24,f_5 1)::(28,f_5 5)::(29,f_5 6)::(30,f_5 7)::(37,f_5 14)::(22,f_5 15)::(38,f_5 16)::(39,f_5 17)::(10,f_5 18)::_) _
  rw[ao,ap,aq,ar,au,av,aw,ax,ab]
  refine G.ef0 rfl rfl rfl rfl (Ef.storeAll sz41 (by rfl) rfl rfl K (by simp only[List.size_toArray,plV_row.len]) (plV_row.one noPlR) ?_)
  intro a3 aK a4
  refine noT (by kernel_rfl) ?_
  have aK:Blk a3 t 41 (plV noPlR).toArray:=aK
  refine Gn 1 rfl (G.nil (E.thenN (Sq (Sr (Wn 2 rfl (Nx (WC.condT rfl (Sr (Wn 1 rfl (Nx (Rt (E.thenR (E.blkR (E.thenR (E.thenR (E.blkR (E.thenR (E.retG1 rfl rfl ?_))))))))))))))))))
  rw[plansL_no (fun h=>absurd (hmay.1 h i (by omega)) (by assumption))]
  exact⟨none,0,[],rfl,OVec.nil _ _ _ _ _ _,PlnsAt.nil _ _,((aA.trans h_5).tb a4 aA ay)⟩
 refine Cn rfl (dF c0) (WC.exit (E.thenX (E.thenX (E.blkH (E.thenN (Sr (Wn 2 rfl (Nx (Rt (E.retG1 rfl rfl ?_))))))))))
 have hie:(partsL s ((((rs.map (·.wN))).length:Nat):Int)).length=i:=(by rw[hnl,<-hets];omega)
 rw[plansL_yes (hmay.2 (fun j hj=>hall j (by omega))),hie,planK_len]
 exact⟨_,_,_,rfl,(aj.mono L2.size),(aE.mono L2.size),ai⟩
end Go.Proofs.YtocheaahlpiajaaGreatDoor

