/- RoutePeels: for every input the law answers true and leaves its arguments as they were. -/
import Derived.Test.YtocheaahlpiajaaGreatDoorRoutePeelsP
import Derived.Laws.Cover3
set_option linter.unusedVariables false
set_option linter.unusedSimpArgs false
namespace Go.Sx
theorem Any.notNil {P:Program}{env:Env}{n:Nat}{d:Option Nat}{T:TypeId}{p:String}{af:Array Edge}{gd:Option (Nat×Bool)}{t e ty:TypeId}{x:Operand}{A:Option Addr}{l c:Nat}(ht:P.underlying t=some (.slice e))(hx:ev env x=some (.slice A l c)):
    Any P env n ⟨d,.binOp .neq t x (.const (.slice none 0 0)) ty,T,p,af,gd⟩ (.bool !A.isNone):=
  .bin hx rfl (fun _=>rfl) fun w=>run_neq_slice_nil w t e A l c ht
end Go.Sx
namespace Go.Proofs.YtocheaahlpiajaaGreatDoor
open Tryz
open Go Go.Sx Go.Num Go.Gsp Go.Nsp Go.Msp Go.Rtp
set_option maxRecDepth 20000
set_option maxHeartbeats 4000000
def BestC (w:World)(bs gb:Nat)(b:Fnd)(Aw:Option Addr)(cw:Nat)(An:Option Addr)(cn:Nat)(Ad:Option Addr)(cd:Nat):Prop:=
  Blk w gb 190 #[.slice Aw b.way.length cw,.slice An (digs b.odds.n).length cn,.slice Ad (digs b.odds.d).length cd,.int .i64 b.sent]/\OVec w bs 81 edgeV 9 Aw b.way.length cw b.way/\OVec w bs 273 dv 1 An (digs b.odds.n).length cn (digs b.odds.n)/\OVec w bs 273 dv 1 Ad (digs b.odds.d).length cd (digs b.odds.d)/\(b.way=[]->Aw=none)/\b.way.length<=8/\(digs b.odds.n).length<=100/\(digs b.odds.d).length<=100
def BestAt (w:World)(bs gb:Nat)(b:Fnd):Prop:=∃Aw cw An cn Ad cd,BestC w bs gb b Aw cw An cn Ad cd
structure LookE (w : World) (base gp : Nat) (F : Nat -> Prop) (m : MF) (Ag : Option Addr) (ng cg : Nat) (g : List Gsp.Edge) (fr to a x : Int) (b2 b3 b4 gb b6 b7 b8 b9 : Nat) : Prop where
  h2 : Blk w b2 55 #[.pointer (some ⟨gp, 0, none⟩)]
  h3 : Blk w b3 3 #[.int .i64 a]
  h4 : Blk w b4 3 #[.int .i64 x]
  h6 : Blk w b6 3 #[.int .i64 fr]
  h7 : Blk w b7 32 #[.slice Ag ng cg]
  h8 : Blk w b8 3 #[.int .i64 to]
  h9 : Blk w b9 191 #[.func (.func 115) #[] #[.pointer (some ⟨b2, 0, none⟩), .pointer (some ⟨b3, 0, none⟩), .pointer (some ⟨b4, 0, none⟩), .pointer (some ⟨gb, 0, none⟩), .pointer (some ⟨b6, 0, none⟩), .pointer (some ⟨b7, 0, none⟩), .pointer (some ⟨b8, 0, none⟩), .pointer (some ⟨b9, 0, none⟩)]]
  hP : MPool w base gp F m
  hg : Vec w edgeV 9 Ag ng g
  n2 : b2 ≠ gb
  n3 : b3 ≠ gb
  n4 : b4 ≠ gb
  n6 : b6 ≠ gb
  n7 : b7 ≠ gb
  n8 : b8 ≠ gb
  n9 : b9 ≠ gb
  hPg : ∀ k, F k -> ¬ k = gb
  hgg : ∀ q, blkOf Ag = some q -> 0 < ng -> q < w.heap.size -> ¬ q = gb
  hng : ng <= 1000000
theorem LookE.chP {w w':World}{base gp:Nat}{F:Nat->Prop}{m:MF}{Ag:Option Addr}{ng cg:Nat}{g:List Gsp.Edge}{fr to a x:Int}{b2 b3 b4 gb b6 b7 b8 b9:Nat}(h:LookE w base gp F m Ag ng cg g fr to a x b2 b3 b4 gb b6 b7 b8 b9)(hc:ChP w w' (fun k=>k=gb)):LookE w' base gp F m Ag ng cg g fr to a x b2 b3 b4 gb b6 b7 b8 b9:=
  ⟨h.h2.chP hc h.n2,h.h3.chP hc h.n3,h.h4.chP hc h.n4,h.h6.chP hc h.n6,h.h7.chP hc h.n7,h.h8.chP hc h.n8,h.h9.chP hc h.n9,h.hP.chP hc h.hPg,h.hg.chP hc h.hgg,h.n2,h.n3,h.n4,h.n6,h.n7,h.n8,h.n9,h.hPg,fun q b c _=>h.hgg q b c (h.hg.blk_lt edgeV_row c b),h.hng⟩
theorem lookR_cut {g:List Gsp.Edge}{m:MF}{fr to a x:Int}{k:Nat}{way:List Gsp.Edge}{at_:Int}{b:Fnd}(h:cutR way (oddsR m way a x) b):lookR g m fr to a x (k+1) way at_ b=b:=by rw[lookR,if_pos h]
theorem lookR_new {g:List Gsp.Edge}{m:MF}{fr to a x:Int}{k:Nat}{way:List Gsp.Edge}{at_:Int}{b:Fnd}(h:¬cutR way (oddsR m way a x) b)(h1:at_=fr)(h2:b.way=[]\/betterR (fndR way (oddsR m way a x)) b=true):lookR g m fr to a x (k+1) way at_ b=fndR way (oddsR m way a x):=by rw[lookR,if_neg h,if_pos h1,if_pos h2]
theorem lookR_old {g:List Gsp.Edge}{m:MF}{fr to a x:Int}{k:Nat}{way:List Gsp.Edge}{at_:Int}{b:Fnd}(h:¬cutR way (oddsR m way a x) b)(h1:at_=fr)(h2:¬(b.way=[]\/betterR (fndR way (oddsR m way a x)) b=true)):lookR g m fr to a x (k+1) way at_ b=b:=by rw[lookR,if_neg h,if_pos h1,if_neg h2]
theorem lookR_end {g:List Gsp.Edge}{m:MF}{fr to a x:Int}{k:Nat}{way:List Gsp.Edge}{at_:Int}{b:Fnd}(h:¬cutR way (oddsR m way a x) b)(h1:at_≠fr)(h2:way.length=8):lookR g m fr to a x (k+1) way at_ b=b:=by rw[lookR,if_neg h,if_neg h1,if_pos h2]
theorem lookR_go {g:List Gsp.Edge}{m:MF}{fr to a x:Int}{k:Nat}{way:List Gsp.Edge}{at_:Int}{b:Fnd}(h:¬cutR way (oddsR m way a x) b)(h1:at_≠fr)(h2:way.length≠8):lookR g m fr to a x (k+1) way at_ b=(inG g at_).foldl (stepR (lookR g m fr to a x k) way to) b:=by rw[lookR,if_neg h,if_neg h1,if_neg h2]
theorem not_cut1 {way:List Gsp.Edge}{r:Fr×Int×Int}{b:Fnd}{n:Nat}(h:¬0<((n:Nat):Int))(hl:way.length=n):¬cutR way r b:=fun hc=>hc.1 (List.eq_nil_of_length_eq_zero (by omega))
theorem not_cut2 {way:List Gsp.Edge}{r:Fr×Int×Int}{b:Fnd}(h1:¬r.2.2≠0)(h2:¬(((digs r.1.n).length:Nat):Int)=0)(h3:b.way=[]\/¬cmpF (takF r.1) (takF b.odds)<0):¬cutR way r b:=by
  rintro⟨_,h|h|h⟩
  · exact h1 h
  · rw[h,digs_zero]at h2;exact h2 rfl
  · rcases h3 with k|k
    · exact h.1 k
    · exact k h.2
theorem cut_of {way:List Gsp.Edge}{r:Fr×Int×Int}{b:Fnd}{n:Nat}(h:0<((n:Nat):Int))(hl:way.length=n)(hc:r.2.2≠0\/(((digs r.1.n).length:Nat):Int)=0\/(b.way≠[]/\cmpF (takF r.1) (takF b.odds)<0)):cutR way r b:=by
  refine⟨fun hh=>by rw[hh]at hl;simp at hl;omega,?_⟩
  rcases hc with k|k|k
  · exact .inl k
  · exact .inr (.inl (Nat.eq_zero_of_not_pos fun hp=>by have:=digs_len_pos hp;omega))
  · exact .inr (.inr k)
theorem fold_next {α:Type}{f:Fnd->α->Fnd}{b:Fnd}{l:List α}{z:α}{k:Nat}(hk:k<l.length):(l.take (k+1)).foldl f b=f ((l.take k).foldl f b) (l.getD k z):=by
  rw[List.take_add_one,List.foldl_append]
  simp[List.getD,hk]
theorem seen_ok (y:Gsp.Edge){ge:Nat}{e:Gsp.Edge}(w:World)(hge:Blk w ge 81 (edgeV e).toArray):Calls prog 120 #[.agg (edgeV y).toArray,.pointer (some ⟨ge,0,none⟩)] w fun r w'=>r= .returned (.bool (decide (y.f=e.f)))/\Le w w':=by
 refine enter func120 rfl rfl (WC.sr (W.ef rfl rfl rfl (Ef.boxA rfl fun c d j (h:Blk d c 81 (edgeV y).toArray) i=>?_)))
 have b:=(Le.refl w).trans i
 refine W.run 1 rfl (W.nx (WC.sr (W.a (.field0 fa81_0 rfl) ?_)))
 refine W.r (.loadB (v:= .int .i64 (y.f)) na3 rfl h rfl) ?_
 refine W.a (.field0 fa81_0 rfl) ?_
 refine W.r (.loadB (v:= .int .i64 (e.f)) na3 rfl (hge.le b) rfl) ?_
 refine W.run 2 rfl (W.nx (WC.ret (E.retG1 rfl rfl ?_)))
 exact⟨rB (by simp[]),b⟩

theorem rtcontains_ok {A:Option Addr}{n c:Nat}{xs:List Gsp.Edge}{F:Nat}{caps:Array Value}(pr:Gsp.Edge->Bool)(hgo:IsGo prog F)(w:World)(hV:Vec w edgeV 9 A n xs)(hn:n<=1000000)(hf:∀(e:Gsp.Edge) (w1:World),Le w w1->Calls prog F (#[.agg (edgeV e).toArray]++caps) w1 fun r w2=>r= .returned (.bool (pr e))/\Le w1 w2):Calls prog 119 #[.slice A n c,.func (.func F) #[] caps] w fun r w'=>r= .returned (.bool (xs.any pr))/\Le w w':=by
 refine enter func119 rfl rfl ?_
 have b:=Le.refl w
 refine WC.sr (W.run 1 rfl (W.nx (WC.sr (W.run 2 rfl (W.cl go221 rfl rfl (index_ok pr hgo w (hV.le b) (by omega) (fun e w1 hl=>hf e w1 (b.trans hl))) ?_)))))
 rintro _ f ⟨rfl,d⟩
 refine W.run 2 rfl (W.nx (WC.ret (E.retG1 rfl rfl ?_)))
 exact⟨rB (by unfold idxE;cases hx:xs.any pr<;>simp),(b.trans d)⟩

theorem look_step {bs base gp ng cg b2 b3 b4 gb b6 b7 b8 b9:Nat}{F:Nat->Prop}{m:MF}{Ag:Option Addr}{g:List Gsp.Edge}{fr to a x:Int}{k:Nat}{A:Option Addr}{n c:Nat}{way:List Gsp.Edge}(at_:Int){b:Fnd}{Aw An Ad:Option Addr}{cw cn cd:Nat}(w:World)(hE:LookE w base gp F m Ag ng cg g fr to a x b2 b3 b4 gb b6 b7 b8 b9)(ih:∀(way':List Gsp.Edge) {A':Option Addr} {n' c':Nat} (hk1:1<=k) (at':Int) (b':Fnd) (w1:World),ChP w w1 (fun k=>k=gb)->OVec w1 bs 81 edgeV 9 A' n' c' way'->n'+k=9->1<=n'->rowOf A' c'≠some gb->BestAt w1 bs gb b'->Calls prog 115 #[.slice A' n' c',.int .i64 at',.pointer (some ⟨b2,0,none⟩),.pointer (some ⟨b3,0,none⟩),.pointer (some ⟨b4,0,none⟩),.pointer (some ⟨gb,0,none⟩),.pointer (some ⟨b6,0,none⟩),.pointer (some ⟨b7,0,none⟩),.pointer (some ⟨b8,0,none⟩),.pointer (some ⟨b9,0,none⟩)] w1 fun r w2=>r= .returned (.tuple #[])/\BestAt w2 bs gb (lookR g m fr to a x k way' at' b')/\ChP w1 w2 (fun k=>k=gb))(hbs0:bs<=w.heap.size)(hW:OVec w bs 81 edgeV 9 A n c way)(hWg:rowOf A c≠some gb)(hnk:n+k=8)(hB:BestC w bs gb b Aw cw An cn Ad cd)(hWn:n=0->A=none)(hfr:n=0->at_≠fr):Calls prog 115 #[.slice A n c,.int .i64 (at_),.pointer (some ⟨b2,0,none⟩),.pointer (some ⟨b3,0,none⟩),.pointer (some ⟨b4,0,none⟩),.pointer (some ⟨gb,0,none⟩),.pointer (some ⟨b6,0,none⟩),.pointer (some ⟨b7,0,none⟩),.pointer (some ⟨b8,0,none⟩),.pointer (some ⟨b9,0,none⟩)] w fun r w'=>r= .returned (.tuple #[])/\BestAt w' bs gb (lookR g m fr to a x (k+1) way at_ b)/\ChP w w' (fun k=>k=gb):=by
 obtain⟨ah,hBw,hBn,hBd,hBe,hBl,hBm,hBo⟩:=hB
 have hgm:=hE.hP.good
 have hol:=oddsR_len hgm way a x
 have hwl:=hW.vec.1
 have hng:=hE.hng
 have hbn:Aw.isNone=true->b.way=[]:=fun h=>Decidable.byContradiction fun hh=>by have:=hBw.vec.isSome edgeV_row (List.length_pos_iff.2 hh);revert h this;cases Aw<;>simp
 have hbs:¬Aw.isNone=true->b.way≠[]:=fun h hh=>h (by rw[hBe hh];rfl)
 have hgl:=hE.hg.1
 have hfl:=List.length_filter_le (fun e=>decide (e.t=at_)) g
 refine enter func115 rfl rfl ?_
 have L0:=ChP.refl w ((fun k=>k=gb))
 refine WC.sr (W.r (.loadB (v:= .pointer (some ⟨gp,0,none⟩)) na55 rfl (hE.h2.chP L0 hE.n2) rfl) ?_)
 refine W.run 1 rfl (W.r (.loadB (v:= .int .i64 (a)) na3 rfl (hE.h3.chP L0 hE.n3) rfl) ?_)
 refine W.r (.loadB (v:= .int .i64 (x)) na3 rfl (hE.h4.chP L0 hE.n4) rfl) ?_
 refine W.cl go116 rfl rfl (rodds_ok a x w (hE.hP.chP L0 hE.hPg) hW.vec (by omega)) ?_
 rintro _ gd ⟨al,am,aq,ar,rfl,an,ao,o⟩
 have L1:=L0.le o
 refine W.run 1 rfl (W.a (.extract (v:= .agg #[.slice al ((digs ((oddsR m way a x).1.n)).length) am,.slice aq ((digs ((oddsR m way a x).1.d)).length) ar]) rfl rfl) ?_)
 refine W.run 2 rfl (W.ef rfl rfl rfl (Ef.allocA z61 fun bV c6 c7 (c8:Blk c6 bV 61 #[.slice none 0 0,.slice none 0 0]) C=>?_))
 have L2:=L1.le C
 refine W.sA sz61 rfl rfl c8 ?_
 intro aE aQ D
 have aQ:Blk aE bV 61 #[.slice al ((digs ((oddsR m way a x).1.n)).length) am,.slice aq ((digs ((oddsR m way a x).1.d)).length) ar]:=aQ
 have L3:ChP w aE ((fun k=>k=gb)):=L2.ch D (fun i hi hlt=>by cases hi;exact absurd hlt (by have:=L1.size;have:=c7;omega))
 refine W.run 2 rfl (W.nx (WC.seq (WC.sr (W.run 1 rfl (W.r (.len underlying32 rfl) ?_)))))
 refine W.run 1 rfl ?_
 by_cases H:0<((n:Nat):Int)
 ·refine W.dt H rfl rfl (W.run 2 rfl ?_)
  by_cases s:((oddsR m way a x).2.2)≠0
  ·refine W.g (Any.rd (.dec (.move rfl) (decide_eq_true s)) _) ?_
   refine W.run 4 rfl (W.g (Any.rd (.pickT rfl rfl rfl) _) ?_)
   refine W.run 5 rfl (W.skipu rfl rfl rfl rfl rfl (W.skipu rfl rfl rfl rfl rfl (W.skipu rfl rfl rfl rfl rfl (W.skipu rfl rfl rfl rfl rfl (W.skipu rfl rfl rfl rfl rfl ?_)))))
   refine W.run 1 rfl (W.g (Any.rd (.pickT rfl rfl rfl) _) ?_)
   refine W.run 1 rfl (W.nx (WC.condT rfl (WC.ret (E.thenR ?_))))
   have f5:=((hBw.le (o.trans C)).ch D (fun q hq=>by cases hq;exact(fun he=>by have:=(hBw.row he).2;have:=o.size;omega)))
   have f6:=((hBn.le (o.trans C)).ch D (fun q hq=>by cases hq;exact(fun he=>by have:=(hBn.row he).2;have:=o.size;omega)))
   have f7:=((hBd.le (o.trans C)).ch D (fun q hq=>by cases hq;exact(fun he=>by have:=(hBd.row he).2;have:=o.size;omega)))
   refine E.ret0 rfl ?_
   have hlk:lookR g m fr to a x (k+1) way at_ b=b:=(by first|exact lookR_cut (cut_of H hwl (.inl s))|exact lookR_cut (cut_of H hwl (.inr (.inl u)))|exact lookR_cut (cut_of H hwl (.inr (.inr ⟨hbs I,L⟩)))|exact lookR_old (by first|exact not_cut1 H hwl|exact not_cut2 s u (.inl (hbn I))|exact not_cut2 s u (.inr L)) K (fun hh=>hh.elim (hbs I) c2)|exact lookR_old (by first|exact not_cut1 H hwl|exact not_cut2 s u (.inl (hbn I))|exact not_cut2 s u (.inr L)) K (fun hh=>hh.elim (hbs aj) c2)|exact lookR_end (by first|exact not_cut1 H hwl|exact not_cut2 s u (.inl (hbn I))|exact not_cut2 s u (.inr L)) K (by rw[hwl];omega))
   rw[hlk]
   exact⟨rfl,⟨_,_,_,_,_,_,((ah.le (o.trans C)).cn D (by have:=ah.lt;have:=o.size;omega)),f5,f6,f7,hBe,hBl,hBm,hBo⟩,L3⟩
  refine W.g (Any.rd (.dec (.move rfl) (decide_eq_false s)) _) ?_
  refine W.g (Any.rd (.field0 fa61_0 rfl) _) ?_
  refine W.g (.loadB (v:= .slice al ((digs ((oddsR m way a x).1.n)).length) am) na59 rfl aQ rfl) ?_
  refine W.g (.len underlying59 rfl) ?_
  refine W.run 1 rfl (W.g (Any.rd (.pickF rfl rfl rfl) _) ?_)
  by_cases u:(((digs ((oddsR m way a x).1.n)).length:Nat):Int)=0
  ·refine W.g (Any.rd (.dec (.move rfl) (decide_eq_true u)) _) ?_
   refine W.run 4 rfl (W.skipu rfl rfl rfl rfl rfl (W.skipu rfl rfl rfl rfl rfl (W.skipu rfl rfl rfl rfl rfl (W.skipu rfl rfl rfl rfl rfl (W.skipu rfl rfl rfl rfl rfl ?_)))))
   refine W.run 1 rfl (W.g (Any.rd (.pickT rfl rfl rfl) _) ?_)
   refine W.run 1 rfl (W.nx (WC.condT rfl (WC.ret (E.thenR ?_))))
   have f9:=((hBw.le (o.trans C)).ch D (fun q hq=>by cases hq;exact(fun he=>by have:=(hBw.row he).2;have:=o.size;omega)))
   have c9:=((hBn.le (o.trans C)).ch D (fun q hq=>by cases hq;exact(fun he=>by have:=(hBn.row he).2;have:=o.size;omega)))
   have da:=((hBd.le (o.trans C)).ch D (fun q hq=>by cases hq;exact(fun he=>by have:=(hBd.row he).2;have:=o.size;omega)))
   refine E.ret0 rfl ?_
   have hlk:lookR g m fr to a x (k+1) way at_ b=b:=(by first|exact lookR_cut (cut_of H hwl (.inl s))|exact lookR_cut (cut_of H hwl (.inr (.inl u)))|exact lookR_cut (cut_of H hwl (.inr (.inr ⟨hbs I,L⟩)))|exact lookR_old (by first|exact not_cut1 H hwl|exact not_cut2 s u (.inl (hbn I))|exact not_cut2 s u (.inr L)) K (fun hh=>hh.elim (hbs I) c2)|exact lookR_old (by first|exact not_cut1 H hwl|exact not_cut2 s u (.inl (hbn I))|exact not_cut2 s u (.inr L)) K (fun hh=>hh.elim (hbs aj) c2)|exact lookR_end (by first|exact not_cut1 H hwl|exact not_cut2 s u (.inl (hbn I))|exact not_cut2 s u (.inr L)) K (by rw[hwl];omega))
   rw[hlk]
   exact⟨rfl,⟨_,_,_,_,_,_,((ah.le (o.trans C)).cn D (by have:=ah.lt;have:=o.size;omega)),f9,c9,da,hBe,hBl,hBm,hBo⟩,L3⟩
  refine W.g (Any.rd (.dec (.move rfl) (decide_eq_false u)) _) ?_
  refine W.g (Any.rd (.field0 fa190_0 rfl) _) ?_
  have ap:=((ah.le (o.trans C)).cn D (by have:=ah.lt;have:=o.size;omega))
  refine W.g (.loadB (v:= .slice Aw b.way.length cw) na32 rfl ap rfl) ?_
  refine W.g (Any.rd (.notNil underlying32 rfl) _) ?_
  by_cases I:Aw.isNone=true
  ·refine W.g (Any.rd (.dec (.move rfl) (congrArg not (I))) _) ?_
   refine W.run 5 rfl (W.g (Any.rd (.pickF rfl rfl rfl) _) ?_)
   refine W.g (Any.rd (.pickF rfl rfl rfl) _) ?_
   refine W.run 1 rfl (W.nx (WC.condF rfl (WC.sn (WC.seq (WC.sr (W.run 1 rfl (W.r (.loadB (v:= .int .i64 (fr)) na3 rfl (hE.h6.chP L3 hE.n6) rfl) ?_)))))))
   refine W.run 1 rfl (W.nx ?_)
   by_cases K:at_=fr
   ·refine WC.condY rfl (decide_eq_true K) (WC.seq (WC.sr (W.run 1 rfl (W.r (.loadAll ag61 (by rfl) rfl aQ) ?_))))
    refine W.run 1 rfl (W.a (.buildP [.slice A n c,.slice al ((digs ((oddsR m way a x).1.n)).length) am,.slice aq ((digs ((oddsR m way a x).1.d)).length) ar,.int .i64 ((oddsR m way a x).2.1)] pl190 z190 rfl rfl) ?_)
    refine W.ef rfl rfl rfl (Ef.allocA z190 fun bW db dc (dd:Blk db bW 190 #[.slice none 0 0,.slice none 0 0,.slice none 0 0,.int .i64 (0)]) aW=>?_)
    have de:=L3.le aW
    refine W.sA sz190 rfl rfl dd ?_
    intro bX bi aX
    have bi:Blk bX bW 190 #[.slice A n c,.slice al ((digs ((oddsR m way a x).1.n)).length) am,.slice aq ((digs ((oddsR m way a x).1.d)).length) ar,.int .i64 ((oddsR m way a x).2.1)]:=bi
    have dg:ChP w bX ((fun k=>k=gb)):=de.ch aX (fun i hi hlt=>by cases hi;exact absurd hlt (by have:=L3.size;have:=dc;omega))
    refine W.nx (WC.sr (W.a (.field0 fa190_0 rfl) ?_))
    have bY:=((ap.le aW).cn aX (by have:=ap.lt;omega))
    refine W.r (.loadB (v:= .slice Aw b.way.length cw) na32 rfl bY rfl) ?_
    refine W.a (.isNil underlying32 rfl) ?_
    refine W.a (.dec (.move rfl) (I)) ?_
    refine W.run 4 rfl (W.nx (WC.condT rfl (WC.region (W.r (.loadAll ag190 (by rfl) rfl bi) ?_))))
    refine W.sA sz190 rfl rfl bY ?_
    intro bZ bj a3
    have bj:Blk bZ gb 190 #[.slice A n c,.slice al ((digs ((oddsR m way a x).1.n)).length) am,.slice aq ((digs ((oddsR m way a x).1.d)).length) ar,.int .i64 ((oddsR m way a x).2.1)]:=bj
    have dh:ChP w bZ ((fun k=>k=gb)):=dg.ch a3 (fun i hi _=>by cases hi;exact rfl)
    refine W.nx (WC.ret (E.thenR ?_))
    have di:=(((((hW.le (o.trans C)).ch D (fun q hq=>by cases hq;exact(fun he=>by have:=(hW.row he).2;have:=o.size;omega))).le aW).ch aX (fun q hq=>by cases hq;exact(fun he=>by have:=(hW.row he).2;have:=o.size;have:=C.size;have:=D.size;omega))).ch a3 (fun q hq=>by cases hq;exact hWg))
    have dj:=(((((an.le C).ch D (fun q hq=>by cases hq;exact(fun he=>by have:=(an.row he).2;omega))).le aW).ch aX (fun q hq=>by cases hq;exact(fun he=>by have:=(an.row he).2;have:=C.size;have:=D.size;omega))).ch a3 (fun q hq=>by cases hq;exact(fun he=>by have:=(an.row he).1;have:=ah.lt;omega)))
    have dk:=(((((ao.le C).ch D (fun q hq=>by cases hq;exact(fun he=>by have:=(ao.row he).2;omega))).le aW).ch aX (fun q hq=>by cases hq;exact(fun he=>by have:=(ao.row he).2;have:=C.size;have:=D.size;omega))).ch a3 (fun q hq=>by cases hq;exact(fun he=>by have:=(ao.row he).1;have:=ah.lt;omega)))
    refine E.ret0 rfl ?_
    have hnc:¬cutR way (oddsR m way a x) b:=(by first|exact not_cut1 H hwl|exact not_cut2 s u (.inl (hbn I))|exact not_cut2 s u (.inr L))
    have hwn:way≠[]:=fun hh=>by first|exact absurd ((congrArg List.length hh).symm.trans hwl) (by simp;omega)|exact absurd K (hfr (by omega))
    have hlk:lookR g m fr to a x (k+1) way at_ b=(fndR way (oddsR m way a x)):=lookR_new hnc K (by first|exact .inl (hbn I)|exact .inl (hbn aj)|exact .inr c2)
    rw[hlk]
    subst hwl
    exact⟨rfl,⟨_,_,_,_,_,_,bj,di,(dj.mono hbs0),(dk.mono hbs0),fun h=>absurd h hwn,(show way.length<=8 by omega),hol.1,hol.2⟩,dh⟩
   refine WC.condN rfl (decide_eq_false K) (WC.sn (WC.seq (WC.sr (W.run 1 rfl (W.r (.len underlying32 rfl) ?_)))))
   refine W.run 1 rfl (W.nx ?_)
   by_cases c3:((n:Nat):Int)=8
   ·refine WC.condY rfl (decide_eq_true c3) (WC.ret (E.thenR ?_))
    have dl:=((hBw.le (o.trans C)).ch D (fun q hq=>by cases hq;exact(fun he=>by have:=(hBw.row he).2;have:=o.size;omega)))
    have dm:=((hBn.le (o.trans C)).ch D (fun q hq=>by cases hq;exact(fun he=>by have:=(hBn.row he).2;have:=o.size;omega)))
    have dn:=((hBd.le (o.trans C)).ch D (fun q hq=>by cases hq;exact(fun he=>by have:=(hBd.row he).2;have:=o.size;omega)))
    refine E.ret0 rfl ?_
    have hlk:lookR g m fr to a x (k+1) way at_ b=b:=(by first|exact lookR_cut (cut_of H hwl (.inl s))|exact lookR_cut (cut_of H hwl (.inr (.inl u)))|exact lookR_cut (cut_of H hwl (.inr (.inr ⟨hbs I,L⟩)))|exact lookR_old (by first|exact not_cut1 H hwl|exact not_cut2 s u (.inl (hbn I))|exact not_cut2 s u (.inr L)) K (fun hh=>hh.elim (hbs I) c2)|exact lookR_old (by first|exact not_cut1 H hwl|exact not_cut2 s u (.inl (hbn I))|exact not_cut2 s u (.inr L)) K (fun hh=>hh.elim (hbs aj) c2)|exact lookR_end (by first|exact not_cut1 H hwl|exact not_cut2 s u (.inl (hbn I))|exact not_cut2 s u (.inr L)) K (by rw[hwl];omega))
    rw[hlk]
    exact⟨rfl,⟨_,_,_,_,_,_,ap,dl,dm,dn,hBe,hBl,hBm,hBo⟩,L3⟩
   refine WC.condN rfl (decide_eq_false c3) (WC.sn (WC.sr (W.r (.loadB (v:= .slice Ag ng cg) na32 rfl (hE.h7.chP L3 hE.n7) rfl) ?_)))
   refine W.run 1 rfl (W.cl go118 rfl rfl (in_ok at_ aE (hE.hg.chP L3 hE.hgg) (by omega)) ?_)
   rintro _ dp ⟨b0,b1,rfl,b5,aR⟩
   refine W.r (.len underlying32 rfl) ?_
   refine W.run 1 rfl (W.nx (WC.block ?_))
   have dq:=(((hBw.le (o.trans C)).ch D (fun q hq=>by cases hq;exact(fun he=>by have:=(hBw.row he).2;have:=o.size;omega))).le aR)
   have dr:=(((hBn.le (o.trans C)).ch D (fun q hq=>by cases hq;exact(fun he=>by have:=(hBn.row he).2;have:=o.size;omega))).le aR)
   have ds:=(((hBd.le (o.trans C)).ch D (fun q hq=>by cases hq;exact(fun he=>by have:=(hBd.row he).2;have:=o.size;omega))).le aR)
   have du:=(((hW.le (o.trans C)).ch D (fun q hq=>by cases hq;exact(fun he=>by have:=(hW.row he).2;have:=o.size;omega))).le aR)
   refine WC.loop (ι:=Nat×Fnd×((Option Addr))×Nat×((Option Addr))×Nat×((Option Addr))×Nat) (fun⟨j,bk,Ax,cx,Ay,cy,Az,cz⟩=>[(0,.slice A n c),(8,.pointer (some ⟨b8,0,none⟩)),(9,.pointer (some ⟨b9,0,none⟩)),(73,.slice b0 ((g.filter (fun e=>decide (e.t=at_))).length) b1),(74,.int .i64 ((((g.filter (fun e=>decide (e.t=at_))).length:Nat):Int))),(75,.int .i64 (((j:Nat):Int)))]) (fun⟨j,bk,Ax,cx,Ay,cy,Az,cz⟩ N=>(j<=(g.filter (fun e=>decide (e.t=at_))).length)/\(bk=((g.filter (fun e=>decide (e.t=at_))).take j).foldl (stepR (lookR g m fr to a x k) way to) b)/\(bk.way=[]->Ax=none)/\(bk.way.length<=8/\(digs bk.odds.n).length<=100/\(digs bk.odds.d).length<=100)/\ChP w N ((fun k=>k=gb))/\dp.heap.size<=N.heap.size/\OVec N bs 81 edgeV 9 A n c way/\OVec N aE.heap.size 81 edgeV 9 b0 ((g.filter (fun e=>decide (e.t=at_))).length) b1 (g.filter (fun e=>decide (e.t=at_)))/\OVec N bs 81 edgeV 9 Ax bk.way.length cx bk.way/\OVec N bs 273 dv 1 Ay ((digs bk.odds.n).length) cy (digs bk.odds.n)/\OVec N bs 273 dv 1 Az ((digs bk.odds.d).length) cz (digs bk.odds.d)/\Blk N gb 190 #[.slice Ax bk.way.length cx,.slice Ay ((digs bk.odds.n).length) cy,.slice Az ((digs bk.odds.d).length) cz,.int .i64 (bk.sent)]) (fun⟨j,bk,Ax,cx,Ay,cy,Az,cz⟩=>(g.filter (fun e=>decide (e.t=at_))).length-j) (0,b,Aw,cw,An,cn,Ad,cd) ?_ ?_ ?_
   ·exact .cons rfl (.cons rfl (.cons rfl (.cons rfl (.cons rfl (.cons rfl (.nil _))))))
   ·exact⟨Nat.zero_le _,rfl,hBe,⟨hBl,hBm,hBo⟩,(L3.le aR),Nat.le_refl _,du,b5,dq,dr,ds,(ap.le aR)⟩
   rintro⟨j,bk,Ax,cx,Ay,cy,Az,cz⟩ N ⟨hj,hbk,hbe,hbl,au,av,ak,P,aa,ab,ac,Q⟩
   have gf:aE.heap.size<=N.heap.size:=by have:=aR.size;omega
   refine WC.sr (W.run 1 rfl (W.nx (WC.seq ?_)))
   by_cases c4:((j:Nat):Int)<(((g.filter (fun e=>decide (e.t=at_))).length:Nat):Int)
   ·refine WC.condY rfl (decide_eq_true c4) (WC.sn (WC.seq (WC.block (WC.sr (W.a (.idxS (j) underlying32 sz81 rfl rfl (b5.vec.isSome edgeV_row (by omega)) (rfl) (by omega)) ?_)))))
    refine W.r (.vload ag81 rfl P.vec edgeV_row (getS (g.filter (fun e=>decide (e.t=at_))) noEdge (by first|omega|(simp only[List.length_cons,List.length_nil];omega)))) ?_
    refine W.ef rfl rfl rfl (Ef.allocA z81 fun bl dw dx (dy:Blk dw bl 81 (edgeV noEdge).toArray) T=>?_)
    have dz:=au.le T
    refine W.ef0 rfl rfl (Ef.storeAll sz81 (by rfl) rfl rfl dy (by simp only[List.size_toArray,edgeV_row.len]) (edgeV_row.one ((g.filter (fun e=>decide (e.t=at_))).getD j noEdge)) ?_)
    intro bm aY U
    have aY:Blk bm bl 81 (edgeV ((g.filter (fun e=>decide (e.t=at_))).getD j noEdge)).toArray:=aY
    have bn:ChP w bm ((fun k=>k=gb)):=dz.ch U (fun i hi hlt=>by cases hi;exact absurd hlt (by have:=au.size;have:=dx;omega))
    refine W.nx (WC.seq (WC.sr (W.a (.field0 fa81_0 rfl) ?_)))
    refine W.r (.loadB (v:= .int .i64 (((g.filter (fun e=>decide (e.t=at_))).getD j noEdge).f)) na3 rfl aY rfl) ?_
    refine W.r (.loadB (v:= .int .i64 (to)) na3 rfl (hE.h8.chP bn hE.n8) rfl) ?_
    refine W.run 1 rfl ?_
    by_cases ai:(((g.filter (fun e=>decide (e.t=at_))).getD j noEdge).f)=to
    ·refine W.dt ai rfl rfl (W.run 4 rfl (W.nx (WC.condT rfl (WC.exit (E.thenX (E.blkH (E.thenN (WC.region (W.a (.add rfl rfl (by omega)) ?_)))))))))
     refine W.run 1 rfl (W.nil ?_)
     have dA:=((ak.le T).ch U (fun q hq=>by cases hq;exact(fun he=>by have:=(ak.row he).2;omega)))
     have dB:=((P.le T).ch U (fun q hq=>by cases hq;exact(fun he=>by have:=(P.row he).2;omega)))
     have dC:=((aa.le T).ch U (fun q hq=>by cases hq;exact(fun he=>by have:=(aa.row he).2;omega)))
     have dD:=((ab.le T).ch U (fun q hq=>by cases hq;exact(fun he=>by have:=(ab.row he).2;omega)))
     have dE:=((ac.le T).ch U (fun q hq=>by cases hq;exact(fun he=>by have:=(ac.row he).2;omega)))
     have dG:=((Q.le T).cn U (by have:=Q.lt;omega))
     refine E.again (j+1,bk,Ax,cx,Ay,cy,Az,cz) (.cons rfl (.cons rfl (.cons rfl (.cons rfl (.cons rfl (.cons rfl (.nil _))))))) ?_ ?_
     ·exact⟨by omega,(by rw[fold_next (z:=noEdge) (l:=(g.filter (fun e=>decide (e.t=at_)))) (by omega),<-hbk];exact(if_pos (by first|(unfold skipR;rw[decide_eq_true ai];exact Bool.true_or _)|(unfold skipR;rw[c5];exact Bool.or_true _))).symm),hbe,hbl,bn,by have:=av;have:=T.size;have:=U.size;omega,dA,dB,dC,dD,dE,dG⟩
     first|omega|(simp only[];omega)
    refine W.df ai rfl rfl (W.run 1 rfl (W.g (Any.rd (.makeFunc rfl) _) ?_))
    have a4:=((ak.le T).ch U (fun q hq=>by cases hq;exact(fun he=>by have:=(ak.row he).2;omega)))
    refine W.efg rfl rfl rfl (rfl) rfl rfl (Ef.call go119 rfl rfl (rtcontains_ok (fun y=>decide (y.f=((g.filter (fun e=>decide (e.t=at_))).getD j noEdge).f)) go120 bm a4.vec (by omega) (fun y w1 hl=>seen_ok y w1 (aY.le hl))) ?_)
    rintro _ gg ⟨rfl,ad⟩
    refine⟨_,rfl,?_⟩
    have ca:=bn.le ad
    refine W.run 1 rfl (W.nx ?_)
    by_cases c5:(way.any (fun y=>decide (y.f=((g.filter (fun e=>decide (e.t=at_))).getD j noEdge).f)))=true
    ·refine WC.condY rfl (c5) (WC.exit (E.thenX (E.blkH (E.thenN (WC.region (W.a (.add rfl rfl (by omega)) ?_))))))
     refine W.run 1 rfl (W.nil ?_)
     have dH:=(((P.le T).ch U (fun q hq=>by cases hq;exact(fun he=>by have:=(P.row he).2;omega))).le ad)
     have dI:=(((aa.le T).ch U (fun q hq=>by cases hq;exact(fun he=>by have:=(aa.row he).2;omega))).le ad)
     have dJ:=(((ab.le T).ch U (fun q hq=>by cases hq;exact(fun he=>by have:=(ab.row he).2;omega))).le ad)
     have dK:=(((ac.le T).ch U (fun q hq=>by cases hq;exact(fun he=>by have:=(ac.row he).2;omega))).le ad)
     have dL:=(((Q.le T).cn U (by have:=Q.lt;omega)).le ad)
     refine E.again (j+1,bk,Ax,cx,Ay,cy,Az,cz) (.cons rfl (.cons rfl (.cons rfl (.cons rfl (.cons rfl (.cons rfl (.nil _))))))) ?_ ?_
     ·exact⟨by omega,(by rw[fold_next (z:=noEdge) (l:=(g.filter (fun e=>decide (e.t=at_)))) (by omega),<-hbk];exact(if_pos (by first|(unfold skipR;rw[decide_eq_true ai];exact Bool.true_or _)|(unfold skipR;rw[c5];exact Bool.or_true _))).symm),hbe,hbl,ca,by have:=av;have:=T.size;have:=U.size;have:=ad.size;omega,(a4.le ad),dH,dI,dJ,dK,dL⟩
     first|omega|(simp only[];omega)
    refine WC.condN rfl ((Bool.eq_false_iff.2 c5)) (WC.sn (WC.drawR (fun aL w'=>ChP w w' ((fun k=>k=gb))/\Blk w' bl 81 (edgeV ((g.filter (fun e=>decide (e.t=at_))).getD j noEdge)).toArray) [0,1,3,5,6,2,4,7] mixed (by kernel_rfl) fun aL J=>?_))
    have a5:=ca.le J
    have bo:=(aY.le (ad.trans J))
    refine⟨⟨a5,bo⟩,?_⟩
    refine GR.rd rfl rfl (fun w' hs=> .loadB (v:= .func (.func 115) #[] #[.pointer (some ⟨b2,0,none⟩),.pointer (some ⟨b3,0,none⟩),.pointer (some ⟨b4,0,none⟩),.pointer (some ⟨gb,0,none⟩),.pointer (some ⟨b6,0,none⟩),.pointer (some ⟨b7,0,none⟩),.pointer (some ⟨b8,0,none⟩),.pointer (some ⟨b9,0,none⟩)]) na191 rfl (hE.h9.chP hs.1 hE.n9) rfl) rfl rfl rfl (GR.rd rfl rfl (fun w' hs=> .loadAll ag81 (by rfl) rfl hs.2) rfl rfl rfl ?_)
    refine GR.any rfl rfl (.move rfl) rfl rfl rfl (GR.any rfl rfl (.field0 fa81_0 rfl) rfl rfl rfl (GR.rd rfl rfl (fun w' hs=> .loadB (v:= .int .i64 (((g.filter (fun e=>decide (e.t=at_))).getD j noEdge).f)) na3 rfl hs.2 rfl) rfl rfl rfl (GR.ef rfl rfl rfl rfl rfl (Ef.buildSliceV (len:=1) [_] underlying32 el81 rfl (by simp[Value.cells,edgeV_row.len]) rfl (by decide) (by decide) ?_))))
    intro cb cc dM bp ay
    have ce:=a5.le ay
    have bp:Blk cc cb 81 (([(g.filter (fun e=>decide (e.t=at_))).getD j noEdge]).map edgeV).flatten.toArray:=bp
    have aF:OVec cc aL.heap.size 81 edgeV 9 (some ⟨cb,0,none⟩) 1 1 ([(g.filter (fun e=>decide (e.t=at_))).getD j noEdge]):=bp.ovec dM edgeV_row rfl rfl (by decide)
    have cf:=(bo.le ay)
    refine⟨fun _=>⟨ce,cf⟩,?_⟩
    have ci:=(a4.le (ad.trans (J.trans ay)))
    refine GR.ef rfl rfl rfl rfl rfl (Ef.vcat underlying32 el81 underlying32 edgeV_row rfl aF rfl ci.vec (by omega) (by unfold maxLen;omega) (by have:=ay.size;omega) ?_)
    intro gh gi bq cj aG gj
    have bt:ChP w bq ((fun k=>k=gb)):=ce.ch aG (fun i hi hlt=>absurd hlt (by have:=(aF.row hi).1;have:=a5.size;omega))
    refine⟨fun _=>⟨bt,(cf.ch aG (fun he=>by have:=(aF.row he).1;have:=bo.lt;omega))⟩,?_⟩
    have dN:=((((Q.le T).cn U (by have:=Q.lt;omega)).le (ad.trans (J.trans ay))).ch aG (fun he=>by have:=(aF.row he).1;have:=Q.lt;have:=T.size;have:=U.size;have:=ad.size;have:=J.size;omega))
    have dO:=((((aa.le T).ch U (fun q hq=>by cases hq;exact(fun he=>by have:=(aa.row he).2;omega))).le (ad.trans (J.trans ay))).ch aG ((Apart.symm (fun q R S=>by have:=(aa.row R).2;have:=(aF.row S).1;have:=T.size;have:=U.size;have:=ad.size;have:=J.size;omega))))
    have dP:=((((ab.le T).ch U (fun q hq=>by cases hq;exact(fun he=>by have:=(ab.row he).2;omega))).le (ad.trans (J.trans ay))).ch aG ((Apart.symm (fun q R S=>by have:=(ab.row R).2;have:=(aF.row S).1;have:=T.size;have:=U.size;have:=ad.size;have:=J.size;omega))))
    have dQ:=((((ac.le T).ch U (fun q hq=>by cases hq;exact(fun he=>by have:=(ac.row he).2;omega))).le (ad.trans (J.trans ay))).ch aG ((Apart.symm (fun q R S=>by have:=(ac.row R).2;have:=(aF.row S).1;have:=T.size;have:=U.size;have:=ad.size;have:=J.size;omega))))
    have dR:BestAt bq bs gb bk:=⟨_,_,_,_,_,_,dN,dO,dP,dQ,hbe,hbl.1,hbl.2.1,hbl.2.2⟩
    have dS:=ih ([(g.filter (fun e=>decide (e.t=at_))).getD j noEdge]++way) (by omega) (((g.filter (fun e=>decide (e.t=at_))).getD j noEdge).f) bk bq bt (cj.mono (Nat.le_trans hbs0 a5.size))
    have dU:=dS (by omega) (by omega) (fun he=>by have:=(cj.row he).1;have:=Q.lt;have:=T.size;have:=U.size;have:=ad.size;have:=J.size;omega) dR
    refine GR.ef rfl rfl rfl rfl rfl (Ef.callC go115 rfl rfl rfl (dU) ?_)
    rintro _ gk ⟨rfl,⟨dV,dW,dX,dY,dZ,d0,d1,d2,d3,d4,d5,d6,d7,d8⟩,a6⟩
    refine⟨_,rfl,?_⟩
    have d9:=bt.sub a6 (fun i hi hlt=>(by subst hi;exact rfl))
    refine noT (by kernel_rfl) (GR.nil (E.blkN (E.thenN (WC.region (W.a (.add rfl rfl (by omega)) ?_)))))
    refine W.run 1 rfl (W.nil ?_)
    have ea:=((ci.ch aG ((Apart.symm (fun q R S=>by have:=(a4.row R).2;have:=(aF.row S).1;have:=ad.size;have:=J.size;omega)))).chP a6 (fun q hqq hF=>(by subst hF;exact hWg hqq)))
    have eb:=(((((P.le T).ch U (fun q hq=>by cases hq;exact(fun he=>by have:=(P.row he).2;omega))).le (ad.trans (J.trans ay))).ch aG ((Apart.symm (fun q R S=>by have:=(P.row R).2;have:=(aF.row S).1;have:=T.size;have:=U.size;have:=ad.size;have:=J.size;omega)))).chP a6 (fun q hqq hF=>(by subst hF;exact(fun he=>by have:=(P.row he).1;have:=ap.lt;omega) hqq)))
    refine E.again (j+1,(lookR g m fr to a x k ([(g.filter (fun e=>decide (e.t=at_))).getD j noEdge]++way) (((g.filter (fun e=>decide (e.t=at_))).getD j noEdge).f) bk),dV,dW,dX,dY,dZ,d0) (.cons rfl (.cons rfl (.cons rfl (.cons rfl (.cons rfl (.cons rfl (.nil _))))))) ?_ ?_
    ·exact⟨by omega,(by rw[fold_next (z:=noEdge) (l:=(g.filter (fun e=>decide (e.t=at_)))) (by omega),<-hbk];exact(if_neg (by simp only[skipR,Bool.or_eq_true,decide_eq_true_eq,not_or];exact⟨ai,c5⟩)).symm),d5,⟨d6,d7,d8⟩,d9,by have:=av;have:=T.size;have:=U.size;have:=ad.size;have:=J.size;have:=ay.size;have:=aG.size;have:=a6.size;omega,ea,eb,d2,d3,d4,d1⟩
    first|omega|(simp only[];omega)
   refine WC.condN rfl (decide_eq_false c4) (WC.exit (E.thenX (E.thenX (E.blkH (E.end_ (E.ret0 rfl ?_))))))
   have hnc:¬cutR way (oddsR m way a x) b:=(by first|exact not_cut1 H hwl|exact not_cut2 s u (.inl (hbn I))|exact not_cut2 s u (.inr L))
   have hje:j=(g.filter (fun e=>decide (e.t=at_))).length:=(by omega)
   have hlk:lookR g m fr to a x (k+1) way at_ b=bk:=(by rw[lookR_go hnc K (by rw[hwl];omega),hbk,hje,List.take_length];rfl)
   rw[hlk]
   exact⟨rfl,⟨_,_,_,_,_,_,Q,aa,ab,ac,hbe,hbl.1,hbl.2.1,hbl.2.2⟩,au⟩
  refine W.g (Any.rd (.dec (.move rfl) (congrArg not ((Bool.eq_false_iff.2 I)))) _) ?_
  refine W.g (.loadAll ag61 (by rfl) rfl aQ) ?_
  refine W.g (Any.rd (.field0 fa190_1 rfl) _) ?_
  refine W.g (.bpart [.slice An ((digs b.odds.n).length) cn,.slice Ad ((digs b.odds.d).length) cd] ag61 rfl (by decide) rfl ap rfl) ?_
  have bu:=((an.le C).ch D (fun q hq=>by cases hq;exact(fun he=>by have:=(an.row he).2;omega)))
  have bv:=((ao.le C).ch D (fun q hq=>by cases hq;exact(fun he=>by have:=(ao.row he).2;omega)))
  have aU:=((hBn.le (o.trans C)).ch D (fun q hq=>by cases hq;exact(fun he=>by have:=(hBn.row he).2;have:=o.size;omega)))
  have aV:=((hBd.le (o.trans C)).ch D (fun q hq=>by cases hq;exact(fun he=>by have:=(hBd.row he).2;have:=o.size;omega)))
  refine W.efg rfl rfl rfl (rfl) rfl rfl (Ef.call go41 rfl rfl (fcmp_ok aE bu.vec bv.vec (by omega) (by omega) aU.vec aV.vec (by omega) (by omega)) ?_)
  rintro _ bw ⟨rfl,O⟩
  refine⟨_,rfl,?_⟩
  have aM:=L3.le O
  refine W.run 1 rfl (W.g (Any.rd (.pickT rfl rfl rfl) _) ?_)
  refine W.g (Any.rd (.pickF rfl rfl rfl) _) ?_
  refine W.run 1 rfl (W.nx ?_)
  by_cases L:(cmpF (takF (⟨((oddsR m way a x).1.n),((oddsR m way a x).1.d)⟩:Fr)) (takF (⟨b.odds.n,b.odds.d⟩:Fr)))<0
  ·refine WC.condY rfl (decide_eq_true L) (WC.ret (E.thenR ?_))
   have ec:=(((hBw.le (o.trans C)).ch D (fun q hq=>by cases hq;exact(fun he=>by have:=(hBw.row he).2;have:=o.size;omega))).le O)
   refine E.ret0 rfl ?_
   have hlk:lookR g m fr to a x (k+1) way at_ b=b:=(by first|exact lookR_cut (cut_of H hwl (.inl s))|exact lookR_cut (cut_of H hwl (.inr (.inl u)))|exact lookR_cut (cut_of H hwl (.inr (.inr ⟨hbs I,L⟩)))|exact lookR_old (by first|exact not_cut1 H hwl|exact not_cut2 s u (.inl (hbn I))|exact not_cut2 s u (.inr L)) K (fun hh=>hh.elim (hbs I) c2)|exact lookR_old (by first|exact not_cut1 H hwl|exact not_cut2 s u (.inl (hbn I))|exact not_cut2 s u (.inr L)) K (fun hh=>hh.elim (hbs aj) c2)|exact lookR_end (by first|exact not_cut1 H hwl|exact not_cut2 s u (.inl (hbn I))|exact not_cut2 s u (.inr L)) K (by rw[hwl];omega))
   rw[hlk]
   exact⟨rfl,⟨_,_,_,_,_,_,(ap.le O),ec,(aU.le O),(aV.le O),hBe,hBl,hBm,hBo⟩,aM⟩
  refine WC.condN rfl (decide_eq_false L) (WC.sn (WC.seq (WC.sr (W.run 1 rfl (W.r (.loadB (v:= .int .i64 (fr)) na3 rfl (hE.h6.chP aM hE.n6) rfl) ?_)))))
  refine W.run 1 rfl (W.nx ?_)
  by_cases K:at_=fr
  ·refine WC.condY rfl (decide_eq_true K) (WC.seq (WC.sr (W.run 1 rfl (W.r (.loadAll ag61 (by rfl) rfl (aQ.le O)) ?_))))
   refine W.run 1 rfl (W.a (.buildP [.slice A n c,.slice al ((digs ((oddsR m way a x).1.n)).length) am,.slice aq ((digs ((oddsR m way a x).1.d)).length) ar,.int .i64 ((oddsR m way a x).2.1)] pl190 z190 rfl rfl) ?_)
   refine W.ef rfl rfl rfl (Ef.allocA z190 fun ck ed ee (eg:Blk ed ck 190 #[.slice none 0 0,.slice none 0 0,.slice none 0 0,.int .i64 (0)]) aO=>?_)
   have eh:=aM.le aO
   refine W.sA sz190 rfl rfl eg ?_
   intro bx a7 aP
   have a7:Blk bx ck 190 #[.slice A n c,.slice al ((digs ((oddsR m way a x).1.n)).length) am,.slice aq ((digs ((oddsR m way a x).1.d)).length) ar,.int .i64 ((oddsR m way a x).2.1)]:=a7
   have ei:ChP w bx ((fun k=>k=gb)):=eh.ch aP (fun i hi hlt=>by cases hi;exact absurd hlt (by have:=aM.size;have:=ee;omega))
   refine W.nx (WC.sr (W.a (.field0 fa190_0 rfl) ?_))
   have a8:=((ap.le (O.trans aO)).cn aP (by have:=ap.lt;have:=O.size;omega))
   refine W.r (.loadB (v:= .slice Aw b.way.length cw) na32 rfl a8 rfl) ?_
   refine W.a (.isNil underlying32 rfl) ?_
   refine W.a (.dec (.move rfl) ((Bool.eq_false_iff.2 I))) ?_
   refine W.g (.loadAll ag190 (by rfl) rfl a7) ?_
   refine W.g (.loadAll ag190 (by rfl) rfl a8) ?_
   have cm:=((((hW.le (o.trans C)).ch D (fun q hq=>by cases hq;exact(fun he=>by have:=(hW.row he).2;have:=o.size;omega))).le (O.trans aO)).ch aP (fun q hq=>by cases hq;exact(fun he=>by have:=(hW.row he).2;have:=o.size;have:=C.size;have:=D.size;have:=O.size;omega)))
   have bz:=((bu.le (O.trans aO)).ch aP (fun q hq=>by cases hq;exact(fun he=>by have:=(bu.row he).2;have:=O.size;omega)))
   have bA:=((bv.le (O.trans aO)).ch aP (fun q hq=>by cases hq;exact(fun he=>by have:=(bv.row he).2;have:=O.size;omega)))
   have co:=((((hBw.le (o.trans C)).ch D (fun q hq=>by cases hq;exact(fun he=>by have:=(hBw.row he).2;have:=o.size;omega))).le (O.trans aO)).ch aP (fun q hq=>by cases hq;exact(fun he=>by have:=(hBw.row he).2;have:=o.size;have:=C.size;have:=D.size;have:=O.size;omega)))
   have cp:=((aU.le (O.trans aO)).ch aP (fun q hq=>by cases hq;exact(fun he=>by have:=(aU.row he).2;have:=O.size;omega)))
   have cq:=((aV.le (O.trans aO)).ch aP (fun q hq=>by cases hq;exact(fun he=>by have:=(aV.row he).2;have:=O.size;omega)))
   refine W.efg rfl rfl rfl (rfl) rfl rfl (Ef.call go117 rfl rfl (better_ok bx cm.vec bz.vec bA.vec (by omega) (by omega) (by omega) co.vec cp.vec cq.vec (by omega) (by omega) (by omega)) ?_)
   rintro _ gl ⟨rfl,az⟩
   refine⟨_,rfl,?_⟩
   have cr:=ei.le az
   refine W.run 1 rfl (W.nx ?_)
   by_cases c2:(betterR (⟨way,⟨((oddsR m way a x).1.n),((oddsR m way a x).1.d)⟩,(oddsR m way a x).2.1⟩:Fnd) (⟨b.way,⟨b.odds.n,b.odds.d⟩,b.sent⟩:Fnd))=true
   ·refine WC.condY rfl (c2) (WC.region (W.r (.loadAll ag190 (by rfl) rfl (a7.le az)) ?_))
    refine W.sA sz190 rfl rfl (a8.le az) ?_
    intro cs bB a9
    have bB:Blk cs gb 190 #[.slice A n c,.slice al ((digs ((oddsR m way a x).1.n)).length) am,.slice aq ((digs ((oddsR m way a x).1.d)).length) ar,.int .i64 ((oddsR m way a x).2.1)]:=bB
    have ej:ChP w cs ((fun k=>k=gb)):=cr.ch a9 (fun i hi _=>by cases hi;exact rfl)
    refine W.nx (WC.ret (E.thenR ?_))
    have ek:=((cm.le az).ch a9 (fun q hq=>by cases hq;exact hWg))
    have el:=((bz.le az).ch a9 (fun q hq=>by cases hq;exact(fun he=>by have:=(bz.row he).1;have:=ah.lt;omega)))
    have em:=((bA.le az).ch a9 (fun q hq=>by cases hq;exact(fun he=>by have:=(bA.row he).1;have:=ah.lt;omega)))
    refine E.ret0 rfl ?_
    have hnc:¬cutR way (oddsR m way a x) b:=(by first|exact not_cut1 H hwl|exact not_cut2 s u (.inl (hbn I))|exact not_cut2 s u (.inr L))
    have hwn:way≠[]:=fun hh=>by first|exact absurd ((congrArg List.length hh).symm.trans hwl) (by simp;omega)|exact absurd K (hfr (by omega))
    have hlk:lookR g m fr to a x (k+1) way at_ b=(fndR way (oddsR m way a x)):=lookR_new hnc K (by first|exact .inl (hbn I)|exact .inl (hbn aj)|exact .inr c2)
    rw[hlk]
    subst hwl
    exact⟨rfl,⟨_,_,_,_,_,_,bB,ek,(el.mono hbs0),(em.mono hbs0),fun h=>absurd h hwn,(show way.length<=8 by omega),hol.1,hol.2⟩,ej⟩
   refine WC.condN rfl ((Bool.eq_false_iff.2 c2)) (WC.sn (WC.ret (E.thenR (E.ret0 rfl ?_))))
   have hlk:lookR g m fr to a x (k+1) way at_ b=b:=(by first|exact lookR_cut (cut_of H hwl (.inl s))|exact lookR_cut (cut_of H hwl (.inr (.inl u)))|exact lookR_cut (cut_of H hwl (.inr (.inr ⟨hbs I,L⟩)))|exact lookR_old (by first|exact not_cut1 H hwl|exact not_cut2 s u (.inl (hbn I))|exact not_cut2 s u (.inr L)) K (fun hh=>hh.elim (hbs I) c2)|exact lookR_old (by first|exact not_cut1 H hwl|exact not_cut2 s u (.inl (hbn I))|exact not_cut2 s u (.inr L)) K (fun hh=>hh.elim (hbs aj) c2)|exact lookR_end (by first|exact not_cut1 H hwl|exact not_cut2 s u (.inl (hbn I))|exact not_cut2 s u (.inr L)) K (by rw[hwl];omega))
   rw[hlk]
   exact⟨rfl,⟨_,_,_,_,_,_,(a8.le az),(co.le az),(cp.le az),(cq.le az),hBe,hBl,hBm,hBo⟩,cr⟩
  refine WC.condN rfl (decide_eq_false K) (WC.sn (WC.seq (WC.sr (W.run 1 rfl (W.r (.len underlying32 rfl) ?_)))))
  refine W.run 1 rfl (W.nx ?_)
  by_cases c3:((n:Nat):Int)=8
  ·refine WC.condY rfl (decide_eq_true c3) (WC.ret (E.thenR ?_))
   have en:=(((hBw.le (o.trans C)).ch D (fun q hq=>by cases hq;exact(fun he=>by have:=(hBw.row he).2;have:=o.size;omega))).le O)
   refine E.ret0 rfl ?_
   have hlk:lookR g m fr to a x (k+1) way at_ b=b:=(by first|exact lookR_cut (cut_of H hwl (.inl s))|exact lookR_cut (cut_of H hwl (.inr (.inl u)))|exact lookR_cut (cut_of H hwl (.inr (.inr ⟨hbs I,L⟩)))|exact lookR_old (by first|exact not_cut1 H hwl|exact not_cut2 s u (.inl (hbn I))|exact not_cut2 s u (.inr L)) K (fun hh=>hh.elim (hbs I) c2)|exact lookR_old (by first|exact not_cut1 H hwl|exact not_cut2 s u (.inl (hbn I))|exact not_cut2 s u (.inr L)) K (fun hh=>hh.elim (hbs aj) c2)|exact lookR_end (by first|exact not_cut1 H hwl|exact not_cut2 s u (.inl (hbn I))|exact not_cut2 s u (.inr L)) K (by rw[hwl];omega))
   rw[hlk]
   exact⟨rfl,⟨_,_,_,_,_,_,(ap.le O),en,(aU.le O),(aV.le O),hBe,hBl,hBm,hBo⟩,aM⟩
  refine WC.condN rfl (decide_eq_false c3) (WC.sn (WC.sr (W.r (.loadB (v:= .slice Ag ng cg) na32 rfl (hE.h7.chP aM hE.n7) rfl) ?_)))
  refine W.run 1 rfl (W.cl go118 rfl rfl (in_ok at_ bw (hE.hg.chP aM hE.hgg) (by omega)) ?_)
  rintro _ eo ⟨ct,cu,rfl,cv,aS⟩
  refine W.r (.len underlying32 rfl) ?_
  refine W.run 1 rfl (W.nx (WC.block ?_))
  have ep:=(((hBw.le (o.trans C)).ch D (fun q hq=>by cases hq;exact(fun he=>by have:=(hBw.row he).2;have:=o.size;omega))).le (O.trans aS))
  have er:=(((hW.le (o.trans C)).ch D (fun q hq=>by cases hq;exact(fun he=>by have:=(hW.row he).2;have:=o.size;omega))).le (O.trans aS))
  refine WC.loop (ι:=Nat×Fnd×((Option Addr))×Nat×((Option Addr))×Nat×((Option Addr))×Nat) (fun⟨j,bk,Ax,cx,Ay,cy,Az,cz⟩=>[(0,.slice A n c),(8,.pointer (some ⟨b8,0,none⟩)),(9,.pointer (some ⟨b9,0,none⟩)),(73,.slice ct ((g.filter (fun e=>decide (e.t=at_))).length) cu),(74,.int .i64 ((((g.filter (fun e=>decide (e.t=at_))).length:Nat):Int))),(75,.int .i64 (((j:Nat):Int)))]) (fun⟨j,bk,Ax,cx,Ay,cy,Az,cz⟩ N=>(j<=(g.filter (fun e=>decide (e.t=at_))).length)/\(bk=((g.filter (fun e=>decide (e.t=at_))).take j).foldl (stepR (lookR g m fr to a x k) way to) b)/\(bk.way=[]->Ax=none)/\(bk.way.length<=8/\(digs bk.odds.n).length<=100/\(digs bk.odds.d).length<=100)/\ChP w N ((fun k=>k=gb))/\eo.heap.size<=N.heap.size/\OVec N bs 81 edgeV 9 A n c way/\OVec N bw.heap.size 81 edgeV 9 ct ((g.filter (fun e=>decide (e.t=at_))).length) cu (g.filter (fun e=>decide (e.t=at_)))/\OVec N bs 81 edgeV 9 Ax bk.way.length cx bk.way/\OVec N bs 273 dv 1 Ay ((digs bk.odds.n).length) cy (digs bk.odds.n)/\OVec N bs 273 dv 1 Az ((digs bk.odds.d).length) cz (digs bk.odds.d)/\Blk N gb 190 #[.slice Ax bk.way.length cx,.slice Ay ((digs bk.odds.n).length) cy,.slice Az ((digs bk.odds.d).length) cz,.int .i64 (bk.sent)]) (fun⟨j,bk,Ax,cx,Ay,cy,Az,cz⟩=>(g.filter (fun e=>decide (e.t=at_))).length-j) (0,b,Aw,cw,An,cn,Ad,cd) ?_ ?_ ?_
  ·exact .cons rfl (.cons rfl (.cons rfl (.cons rfl (.cons rfl (.cons rfl (.nil _))))))
  ·exact⟨Nat.zero_le _,rfl,hBe,⟨hBl,hBm,hBo⟩,(aM.le aS),Nat.le_refl _,er,cv,ep,(aU.le (O.trans aS)),(aV.le (O.trans aS)),(ap.le (O.trans aS))⟩
  rintro⟨j,bk,Ax,cx,Ay,cy,Az,cz⟩ N ⟨hj,hbk,hbe,hbl,au,av,ak,P,aa,ab,ac,Q⟩
  have gm:bw.heap.size<=N.heap.size:=by have:=aS.size;omega
  refine WC.sr (W.run 1 rfl (W.nx (WC.seq ?_)))
  by_cases c4:((j:Nat):Int)<(((g.filter (fun e=>decide (e.t=at_))).length:Nat):Int)
  ·refine WC.condY rfl (decide_eq_true c4) (WC.sn (WC.seq (WC.block (WC.sr (W.a (.idxS (j) underlying32 sz81 rfl rfl (cv.vec.isSome edgeV_row (by omega)) (rfl) (by omega)) ?_)))))
   refine W.r (.vload ag81 rfl P.vec edgeV_row (getS (g.filter (fun e=>decide (e.t=at_))) noEdge (by first|omega|(simp only[List.length_cons,List.length_nil];omega)))) ?_
   refine W.ef rfl rfl rfl (Ef.allocA z81 fun bC es et (eu:Blk es bC 81 (edgeV noEdge).toArray) V=>?_)
   have ew:=au.le V
   refine W.ef0 rfl rfl (Ef.storeAll sz81 (by rfl) rfl rfl eu (by simp only[List.size_toArray,edgeV_row.len]) (edgeV_row.one ((g.filter (fun e=>decide (e.t=at_))).getD j noEdge)) ?_)
   intro bD aZ X
   have aZ:Blk bD bC 81 (edgeV ((g.filter (fun e=>decide (e.t=at_))).getD j noEdge)).toArray:=aZ
   have bE:ChP w bD ((fun k=>k=gb)):=ew.ch X (fun i hi hlt=>by cases hi;exact absurd hlt (by have:=au.size;have:=et;omega))
   refine W.nx (WC.seq (WC.sr (W.a (.field0 fa81_0 rfl) ?_)))
   refine W.r (.loadB (v:= .int .i64 (((g.filter (fun e=>decide (e.t=at_))).getD j noEdge).f)) na3 rfl aZ rfl) ?_
   refine W.r (.loadB (v:= .int .i64 (to)) na3 rfl (hE.h8.chP bE hE.n8) rfl) ?_
   refine W.run 1 rfl ?_
   by_cases ai:(((g.filter (fun e=>decide (e.t=at_))).getD j noEdge).f)=to
   ·refine W.dt ai rfl rfl (W.run 4 rfl (W.nx (WC.condT rfl (WC.exit (E.thenX (E.blkH (E.thenN (WC.region (W.a (.add rfl rfl (by omega)) ?_)))))))))
    refine W.run 1 rfl (W.nil ?_)
    have ex:=((ak.le V).ch X (fun q hq=>by cases hq;exact(fun he=>by have:=(ak.row he).2;omega)))
    have ey:=((P.le V).ch X (fun q hq=>by cases hq;exact(fun he=>by have:=(P.row he).2;omega)))
    have ez:=((aa.le V).ch X (fun q hq=>by cases hq;exact(fun he=>by have:=(aa.row he).2;omega)))
    have eA:=((ab.le V).ch X (fun q hq=>by cases hq;exact(fun he=>by have:=(ab.row he).2;omega)))
    have eB:=((ac.le V).ch X (fun q hq=>by cases hq;exact(fun he=>by have:=(ac.row he).2;omega)))
    have eC:=((Q.le V).cn X (by have:=Q.lt;omega))
    refine E.again (j+1,bk,Ax,cx,Ay,cy,Az,cz) (.cons rfl (.cons rfl (.cons rfl (.cons rfl (.cons rfl (.cons rfl (.nil _))))))) ?_ ?_
    ·exact⟨by omega,(by rw[fold_next (z:=noEdge) (l:=(g.filter (fun e=>decide (e.t=at_)))) (by omega),<-hbk];exact(if_pos (by first|(unfold skipR;rw[decide_eq_true ai];exact Bool.true_or _)|(unfold skipR;rw[c5];exact Bool.or_true _))).symm),hbe,hbl,bE,by have:=av;have:=V.size;have:=X.size;omega,ex,ey,ez,eA,eB,eC⟩
    first|omega|(simp only[];omega)
   refine W.df ai rfl rfl (W.run 1 rfl (W.g (Any.rd (.makeFunc rfl) _) ?_))
   have ba:=((ak.le V).ch X (fun q hq=>by cases hq;exact(fun he=>by have:=(ak.row he).2;omega)))
   refine W.efg rfl rfl rfl (rfl) rfl rfl (Ef.call go119 rfl rfl (rtcontains_ok (fun y=>decide (y.f=((g.filter (fun e=>decide (e.t=at_))).getD j noEdge).f)) go120 bD ba.vec (by omega) (fun y w1 hl=>seen_ok y w1 (aZ.le hl))) ?_)
   rintro _ gn ⟨rfl,ae⟩
   refine⟨_,rfl,?_⟩
   have cA:=bE.le ae
   refine W.run 1 rfl (W.nx ?_)
   by_cases c5:(way.any (fun y=>decide (y.f=((g.filter (fun e=>decide (e.t=at_))).getD j noEdge).f)))=true
   ·refine WC.condY rfl (c5) (WC.exit (E.thenX (E.blkH (E.thenN (WC.region (W.a (.add rfl rfl (by omega)) ?_))))))
    refine W.run 1 rfl (W.nil ?_)
    have eD:=(((P.le V).ch X (fun q hq=>by cases hq;exact(fun he=>by have:=(P.row he).2;omega))).le ae)
    have eE:=(((aa.le V).ch X (fun q hq=>by cases hq;exact(fun he=>by have:=(aa.row he).2;omega))).le ae)
    have eF:=(((ab.le V).ch X (fun q hq=>by cases hq;exact(fun he=>by have:=(ab.row he).2;omega))).le ae)
    have eG:=(((ac.le V).ch X (fun q hq=>by cases hq;exact(fun he=>by have:=(ac.row he).2;omega))).le ae)
    have eH:=(((Q.le V).cn X (by have:=Q.lt;omega)).le ae)
    refine E.again (j+1,bk,Ax,cx,Ay,cy,Az,cz) (.cons rfl (.cons rfl (.cons rfl (.cons rfl (.cons rfl (.cons rfl (.nil _))))))) ?_ ?_
    ·exact⟨by omega,(by rw[fold_next (z:=noEdge) (l:=(g.filter (fun e=>decide (e.t=at_)))) (by omega),<-hbk];exact(if_pos (by first|(unfold skipR;rw[decide_eq_true ai];exact Bool.true_or _)|(unfold skipR;rw[c5];exact Bool.or_true _))).symm),hbe,hbl,cA,by have:=av;have:=V.size;have:=X.size;have:=ae.size;omega,(ba.le ae),eD,eE,eF,eG,eH⟩
    first|omega|(simp only[];omega)
   refine WC.condN rfl ((Bool.eq_false_iff.2 c5)) (WC.sn (WC.drawR (fun aL w'=>ChP w w' ((fun k=>k=gb))/\Blk w' bC 81 (edgeV ((g.filter (fun e=>decide (e.t=at_))).getD j noEdge)).toArray) [0,1,3,5,6,2,4,7] mixed (by kernel_rfl) fun aL J=>?_))
   have bb:=cA.le J
   have bF:=(aZ.le (ae.trans J))
   refine⟨⟨bb,bF⟩,?_⟩
   refine GR.rd rfl rfl (fun w' hs=> .loadB (v:= .func (.func 115) #[] #[.pointer (some ⟨b2,0,none⟩),.pointer (some ⟨b3,0,none⟩),.pointer (some ⟨b4,0,none⟩),.pointer (some ⟨gb,0,none⟩),.pointer (some ⟨b6,0,none⟩),.pointer (some ⟨b7,0,none⟩),.pointer (some ⟨b8,0,none⟩),.pointer (some ⟨b9,0,none⟩)]) na191 rfl (hE.h9.chP hs.1 hE.n9) rfl) rfl rfl rfl (GR.rd rfl rfl (fun w' hs=> .loadAll ag81 (by rfl) rfl hs.2) rfl rfl rfl ?_)
   refine GR.any rfl rfl (.move rfl) rfl rfl rfl (GR.any rfl rfl (.field0 fa81_0 rfl) rfl rfl rfl (GR.rd rfl rfl (fun w' hs=> .loadB (v:= .int .i64 (((g.filter (fun e=>decide (e.t=at_))).getD j noEdge).f)) na3 rfl hs.2 rfl) rfl rfl rfl (GR.ef rfl rfl rfl rfl rfl (Ef.buildSliceV (len:=1) [_] underlying32 el81 rfl (by simp[Value.cells,edgeV_row.len]) rfl (by decide) (by decide) ?_))))
   intro cB cC eI bG aA
   have cD:=bb.le aA
   have bG:Blk cC cB 81 (([(g.filter (fun e=>decide (e.t=at_))).getD j noEdge]).map edgeV).flatten.toArray:=bG
   have aH:OVec cC aL.heap.size 81 edgeV 9 (some ⟨cB,0,none⟩) 1 1 ([(g.filter (fun e=>decide (e.t=at_))).getD j noEdge]):=bG.ovec eI edgeV_row rfl rfl (by decide)
   have cE:=(bF.le aA)
   refine⟨fun _=>⟨cD,cE⟩,?_⟩
   have cF:=(ba.le (ae.trans (J.trans aA)))
   refine GR.ef rfl rfl rfl rfl rfl (Ef.vcat underlying32 el81 underlying32 edgeV_row rfl aH rfl cF.vec (by omega) (by unfold maxLen;omega) (by have:=aA.size;omega) ?_)
   intro gq gr bH cG aI gs
   have bI:ChP w bH ((fun k=>k=gb)):=cD.ch aI (fun i hi hlt=>absurd hlt (by have:=(aH.row hi).1;have:=bb.size;omega))
   refine⟨fun _=>⟨bI,(cE.ch aI (fun he=>by have:=(aH.row he).1;have:=bF.lt;omega))⟩,?_⟩
   have eJ:=((((Q.le V).cn X (by have:=Q.lt;omega)).le (ae.trans (J.trans aA))).ch aI (fun he=>by have:=(aH.row he).1;have:=Q.lt;have:=V.size;have:=X.size;have:=ae.size;have:=J.size;omega))
   have eK:=((((aa.le V).ch X (fun q hq=>by cases hq;exact(fun he=>by have:=(aa.row he).2;omega))).le (ae.trans (J.trans aA))).ch aI ((Apart.symm (fun q R S=>by have:=(aa.row R).2;have:=(aH.row S).1;have:=V.size;have:=X.size;have:=ae.size;have:=J.size;omega))))
   have eL:=((((ab.le V).ch X (fun q hq=>by cases hq;exact(fun he=>by have:=(ab.row he).2;omega))).le (ae.trans (J.trans aA))).ch aI ((Apart.symm (fun q R S=>by have:=(ab.row R).2;have:=(aH.row S).1;have:=V.size;have:=X.size;have:=ae.size;have:=J.size;omega))))
   have eM:=((((ac.le V).ch X (fun q hq=>by cases hq;exact(fun he=>by have:=(ac.row he).2;omega))).le (ae.trans (J.trans aA))).ch aI ((Apart.symm (fun q R S=>by have:=(ac.row R).2;have:=(aH.row S).1;have:=V.size;have:=X.size;have:=ae.size;have:=J.size;omega))))
   have eN:BestAt bH bs gb bk:=⟨_,_,_,_,_,_,eJ,eK,eL,eM,hbe,hbl.1,hbl.2.1,hbl.2.2⟩
   have eO:=ih ([(g.filter (fun e=>decide (e.t=at_))).getD j noEdge]++way) (by omega) (((g.filter (fun e=>decide (e.t=at_))).getD j noEdge).f) bk bH bI (cG.mono (Nat.le_trans hbs0 bb.size))
   have eP:=eO (by omega) (by omega) (fun he=>by have:=(cG.row he).1;have:=Q.lt;have:=V.size;have:=X.size;have:=ae.size;have:=J.size;omega) eN
   refine GR.ef rfl rfl rfl rfl rfl (Ef.callC go115 rfl rfl rfl (eP) ?_)
   rintro _ gu ⟨rfl,⟨eQ,eR,eS,eT,eU,eV,eW,eX,eY,eZ,e0,e1,e2,e3⟩,bc⟩
   refine⟨_,rfl,?_⟩
   have e4:=bI.sub bc (fun i hi hlt=>(by subst hi;exact rfl))
   refine noT (by kernel_rfl) (GR.nil (E.blkN (E.thenN (WC.region (W.a (.add rfl rfl (by omega)) ?_)))))
   refine W.run 1 rfl (W.nil ?_)
   have e5:=((cF.ch aI ((Apart.symm (fun q R S=>by have:=(ba.row R).2;have:=(aH.row S).1;have:=ae.size;have:=J.size;omega)))).chP bc (fun q hqq hF=>(by subst hF;exact hWg hqq)))
   have e6:=(((((P.le V).ch X (fun q hq=>by cases hq;exact(fun he=>by have:=(P.row he).2;omega))).le (ae.trans (J.trans aA))).ch aI ((Apart.symm (fun q R S=>by have:=(P.row R).2;have:=(aH.row S).1;have:=V.size;have:=X.size;have:=ae.size;have:=J.size;omega)))).chP bc (fun q hqq hF=>(by subst hF;exact(fun he=>by have:=(P.row he).1;have:=ap.lt;have:=O.size;omega) hqq)))
   refine E.again (j+1,(lookR g m fr to a x k ([(g.filter (fun e=>decide (e.t=at_))).getD j noEdge]++way) (((g.filter (fun e=>decide (e.t=at_))).getD j noEdge).f) bk),eQ,eR,eS,eT,eU,eV) (.cons rfl (.cons rfl (.cons rfl (.cons rfl (.cons rfl (.cons rfl (.nil _))))))) ?_ ?_
   ·exact⟨by omega,(by rw[fold_next (z:=noEdge) (l:=(g.filter (fun e=>decide (e.t=at_)))) (by omega),<-hbk];exact(if_neg (by simp only[skipR,Bool.or_eq_true,decide_eq_true_eq,not_or];exact⟨ai,c5⟩)).symm),e0,⟨e1,e2,e3⟩,e4,by have:=av;have:=V.size;have:=X.size;have:=ae.size;have:=J.size;have:=aA.size;have:=aI.size;have:=bc.size;omega,e5,e6,eX,eY,eZ,eW⟩
   first|omega|(simp only[];omega)
  refine WC.condN rfl (decide_eq_false c4) (WC.exit (E.thenX (E.thenX (E.blkH (E.end_ (E.ret0 rfl ?_))))))
  have hnc:¬cutR way (oddsR m way a x) b:=(by first|exact not_cut1 H hwl|exact not_cut2 s u (.inl (hbn I))|exact not_cut2 s u (.inr L))
  have hje:j=(g.filter (fun e=>decide (e.t=at_))).length:=(by omega)
  have hlk:lookR g m fr to a x (k+1) way at_ b=bk:=(by rw[lookR_go hnc K (by rw[hwl];omega),hbk,hje,List.take_length];rfl)
  rw[hlk]
  exact⟨rfl,⟨_,_,_,_,_,_,Q,aa,ab,ac,hbe,hbl.1,hbl.2.1,hbl.2.2⟩,au⟩
 refine W.df H rfl rfl (W.run 3 rfl (W.skipu rfl rfl rfl rfl rfl (W.skipu rfl rfl rfl rfl rfl (W.skipu rfl rfl rfl rfl rfl (W.skipu rfl rfl rfl rfl rfl (W.run 2 rfl ?_))))))
 refine W.skipu rfl rfl rfl rfl rfl (W.skipu rfl rfl rfl rfl rfl (W.skipu rfl rfl rfl rfl rfl (W.skipu rfl rfl rfl rfl rfl (W.skipu rfl rfl rfl rfl rfl (W.skipu rfl rfl rfl rfl rfl ?_)))))
 refine W.skipu rfl rfl rfl rfl rfl (W.skipu rfl rfl rfl rfl rfl (W.skipu rfl rfl rfl rfl rfl (W.skipu rfl rfl rfl rfl rfl (W.run 2 rfl (W.nx (WC.condF rfl (WC.sn (WC.seq (WC.sr (W.run 1 rfl (W.r (.loadB (v:= .int .i64 (fr)) na3 rfl (hE.h6.chP L3 hE.n6) rfl) ?_)))))))))))
 refine W.run 1 rfl (W.nx ?_)
 by_cases K:at_=fr
 ·refine WC.condY rfl (decide_eq_true K) (WC.seq (WC.sr (W.run 1 rfl (W.r (.loadAll ag61 (by rfl) rfl aQ) ?_))))
  refine W.run 1 rfl (W.a (.buildP [.slice A n c,.slice al ((digs ((oddsR m way a x).1.n)).length) am,.slice aq ((digs ((oddsR m way a x).1.d)).length) ar,.int .i64 ((oddsR m way a x).2.1)] pl190 z190 rfl rfl) ?_)
  refine W.ef rfl rfl rfl (Ef.allocA z190 fun cH e7 e8 (e9:Blk e7 cH 190 #[.slice none 0 0,.slice none 0 0,.slice none 0 0,.int .i64 (0)]) aw=>?_)
  have fa:=L3.le aw
  refine W.sA sz190 rfl rfl e9 ?_
  intro bJ a0 ax
  have a0:Blk bJ cH 190 #[.slice A n c,.slice al ((digs ((oddsR m way a x).1.n)).length) am,.slice aq ((digs ((oddsR m way a x).1.d)).length) ar,.int .i64 ((oddsR m way a x).2.1)]:=a0
  have cI:ChP w bJ ((fun k=>k=gb)):=fa.ch ax (fun i hi hlt=>by cases hi;exact absurd hlt (by have:=L3.size;have:=e8;omega))
  refine W.nx (WC.sr (W.a (.field0 fa190_0 rfl) ?_))
  have a1:=((((ah.le (o.trans C)).cn D (by have:=ah.lt;have:=o.size;omega)).le aw).cn ax (by have:=ah.lt;have:=o.size;have:=C.size;have:=D.size;omega))
  refine W.r (.loadB (v:= .slice Aw b.way.length cw) na32 rfl a1 rfl) ?_
  refine W.a (.isNil underlying32 rfl) ?_
  by_cases aj:Aw.isNone=true
  ·refine W.a (.dec (.move rfl) (aj)) ?_
   refine W.run 4 rfl (W.nx (WC.condT rfl (WC.region (W.r (.loadAll ag190 (by rfl) rfl a0) ?_))))
   refine W.sA sz190 rfl rfl a1 ?_
   intro cJ bK bd
   have bK:Blk cJ gb 190 #[.slice A n c,.slice al ((digs ((oddsR m way a x).1.n)).length) am,.slice aq ((digs ((oddsR m way a x).1.d)).length) ar,.int .i64 ((oddsR m way a x).2.1)]:=bK
   have fb:ChP w cJ ((fun k=>k=gb)):=cI.ch bd (fun i hi _=>by cases hi;exact rfl)
   refine W.nx (WC.ret (E.thenR ?_))
   have fc:=(((((hW.le (o.trans C)).ch D (fun q hq=>by cases hq;exact(fun he=>by have:=(hW.row he).2;have:=o.size;omega))).le aw).ch ax (fun q hq=>by cases hq;exact(fun he=>by have:=(hW.row he).2;have:=o.size;have:=C.size;have:=D.size;omega))).ch bd (fun q hq=>by cases hq;exact hWg))
   have fd:=(((((an.le C).ch D (fun q hq=>by cases hq;exact(fun he=>by have:=(an.row he).2;omega))).le aw).ch ax (fun q hq=>by cases hq;exact(fun he=>by have:=(an.row he).2;have:=C.size;have:=D.size;omega))).ch bd (fun q hq=>by cases hq;exact(fun he=>by have:=(an.row he).1;have:=ah.lt;omega)))
   have fe:=(((((ao.le C).ch D (fun q hq=>by cases hq;exact(fun he=>by have:=(ao.row he).2;omega))).le aw).ch ax (fun q hq=>by cases hq;exact(fun he=>by have:=(ao.row he).2;have:=C.size;have:=D.size;omega))).ch bd (fun q hq=>by cases hq;exact(fun he=>by have:=(ao.row he).1;have:=ah.lt;omega)))
   refine E.ret0 rfl ?_
   have hnc:¬cutR way (oddsR m way a x) b:=(by first|exact not_cut1 H hwl|exact not_cut2 s u (.inl (hbn I))|exact not_cut2 s u (.inr L))
   have hwn:way≠[]:=fun hh=>by first|exact absurd ((congrArg List.length hh).symm.trans hwl) (by simp;omega)|exact absurd K (hfr (by omega))
   have hlk:lookR g m fr to a x (k+1) way at_ b=(fndR way (oddsR m way a x)):=lookR_new hnc K (by first|exact .inl (hbn I)|exact .inl (hbn aj)|exact .inr c2)
   rw[hlk]
   subst hwl
   exact⟨rfl,⟨_,_,_,_,_,_,bK,fc,(fd.mono hbs0),(fe.mono hbs0),fun h=>absurd h hwn,(show way.length<=8 by omega),hol.1,hol.2⟩,fb⟩
  refine W.a (.dec (.move rfl) ((Bool.eq_false_iff.2 aj))) ?_
  refine W.g (.loadAll ag190 (by rfl) rfl a0) ?_
  refine W.g (.loadAll ag190 (by rfl) rfl a1) ?_
  have cK:=((((hW.le (o.trans C)).ch D (fun q hq=>by cases hq;exact(fun he=>by have:=(hW.row he).2;have:=o.size;omega))).le aw).ch ax (fun q hq=>by cases hq;exact(fun he=>by have:=(hW.row he).2;have:=o.size;have:=C.size;have:=D.size;omega)))
  have bL:=((((an.le C).ch D (fun q hq=>by cases hq;exact(fun he=>by have:=(an.row he).2;omega))).le aw).ch ax (fun q hq=>by cases hq;exact(fun he=>by have:=(an.row he).2;have:=C.size;have:=D.size;omega)))
  have bM:=((((ao.le C).ch D (fun q hq=>by cases hq;exact(fun he=>by have:=(ao.row he).2;omega))).le aw).ch ax (fun q hq=>by cases hq;exact(fun he=>by have:=(ao.row he).2;have:=C.size;have:=D.size;omega)))
  have cL:=((((hBw.le (o.trans C)).ch D (fun q hq=>by cases hq;exact(fun he=>by have:=(hBw.row he).2;have:=o.size;omega))).le aw).ch ax (fun q hq=>by cases hq;exact(fun he=>by have:=(hBw.row he).2;have:=o.size;have:=C.size;have:=D.size;omega)))
  have cM:=((((hBn.le (o.trans C)).ch D (fun q hq=>by cases hq;exact(fun he=>by have:=(hBn.row he).2;have:=o.size;omega))).le aw).ch ax (fun q hq=>by cases hq;exact(fun he=>by have:=(hBn.row he).2;have:=o.size;have:=C.size;have:=D.size;omega)))
  have cN:=((((hBd.le (o.trans C)).ch D (fun q hq=>by cases hq;exact(fun he=>by have:=(hBd.row he).2;have:=o.size;omega))).le aw).ch ax (fun q hq=>by cases hq;exact(fun he=>by have:=(hBd.row he).2;have:=o.size;have:=C.size;have:=D.size;omega)))
  refine W.efg rfl rfl rfl (rfl) rfl rfl (Ef.call go117 rfl rfl (better_ok bJ cK.vec bL.vec bM.vec (by omega) (by omega) (by omega) cL.vec cM.vec cN.vec (by omega) (by omega) (by omega)) ?_)
  rintro _ gv ⟨rfl,aB⟩
  refine⟨_,rfl,?_⟩
  have cO:=cI.le aB
  refine W.run 1 rfl (W.nx ?_)
  by_cases c2:(betterR (⟨way,⟨((oddsR m way a x).1.n),((oddsR m way a x).1.d)⟩,(oddsR m way a x).2.1⟩:Fnd) (⟨b.way,⟨b.odds.n,b.odds.d⟩,b.sent⟩:Fnd))=true
  ·refine WC.condY rfl (c2) (WC.region (W.r (.loadAll ag190 (by rfl) rfl (a0.le aB)) ?_))
   refine W.sA sz190 rfl rfl (a1.le aB) ?_
   intro cP bN be
   have bN:Blk cP gb 190 #[.slice A n c,.slice al ((digs ((oddsR m way a x).1.n)).length) am,.slice aq ((digs ((oddsR m way a x).1.d)).length) ar,.int .i64 ((oddsR m way a x).2.1)]:=bN
   have ff:ChP w cP ((fun k=>k=gb)):=cO.ch be (fun i hi _=>by cases hi;exact rfl)
   refine W.nx (WC.ret (E.thenR ?_))
   have fg:=((cK.le aB).ch be (fun q hq=>by cases hq;exact hWg))
   have fh:=((bL.le aB).ch be (fun q hq=>by cases hq;exact(fun he=>by have:=(bL.row he).1;have:=ah.lt;omega)))
   have fi:=((bM.le aB).ch be (fun q hq=>by cases hq;exact(fun he=>by have:=(bM.row he).1;have:=ah.lt;omega)))
   refine E.ret0 rfl ?_
   have hnc:¬cutR way (oddsR m way a x) b:=(by first|exact not_cut1 H hwl|exact not_cut2 s u (.inl (hbn I))|exact not_cut2 s u (.inr L))
   have hwn:way≠[]:=fun hh=>by first|exact absurd ((congrArg List.length hh).symm.trans hwl) (by simp;omega)|exact absurd K (hfr (by omega))
   have hlk:lookR g m fr to a x (k+1) way at_ b=(fndR way (oddsR m way a x)):=lookR_new hnc K (by first|exact .inl (hbn I)|exact .inl (hbn aj)|exact .inr c2)
   rw[hlk]
   subst hwl
   exact⟨rfl,⟨_,_,_,_,_,_,bN,fg,(fh.mono hbs0),(fi.mono hbs0),fun h=>absurd h hwn,(show way.length<=8 by omega),hol.1,hol.2⟩,ff⟩
  refine WC.condN rfl ((Bool.eq_false_iff.2 c2)) (WC.sn (WC.ret (E.thenR (E.ret0 rfl ?_))))
  have hlk:lookR g m fr to a x (k+1) way at_ b=b:=(by first|exact lookR_cut (cut_of H hwl (.inl s))|exact lookR_cut (cut_of H hwl (.inr (.inl u)))|exact lookR_cut (cut_of H hwl (.inr (.inr ⟨hbs I,L⟩)))|exact lookR_old (by first|exact not_cut1 H hwl|exact not_cut2 s u (.inl (hbn I))|exact not_cut2 s u (.inr L)) K (fun hh=>hh.elim (hbs I) c2)|exact lookR_old (by first|exact not_cut1 H hwl|exact not_cut2 s u (.inl (hbn I))|exact not_cut2 s u (.inr L)) K (fun hh=>hh.elim (hbs aj) c2)|exact lookR_end (by first|exact not_cut1 H hwl|exact not_cut2 s u (.inl (hbn I))|exact not_cut2 s u (.inr L)) K (by rw[hwl];omega))
  rw[hlk]
  exact⟨rfl,⟨_,_,_,_,_,_,(a1.le aB),(cL.le aB),(cM.le aB),(cN.le aB),hBe,hBl,hBm,hBo⟩,cO⟩
 refine WC.condN rfl (decide_eq_false K) (WC.sn (WC.seq (WC.sr (W.run 1 rfl (W.r (.len underlying32 rfl) ?_)))))
 refine W.run 1 rfl (W.nx ?_)
 by_cases c3:((n:Nat):Int)=8
 ·refine WC.condY rfl (decide_eq_true c3) (WC.ret (E.thenR ?_))
  have fj:=((hBw.le (o.trans C)).ch D (fun q hq=>by cases hq;exact(fun he=>by have:=(hBw.row he).2;have:=o.size;omega)))
  have fk:=((hBn.le (o.trans C)).ch D (fun q hq=>by cases hq;exact(fun he=>by have:=(hBn.row he).2;have:=o.size;omega)))
  have fl:=((hBd.le (o.trans C)).ch D (fun q hq=>by cases hq;exact(fun he=>by have:=(hBd.row he).2;have:=o.size;omega)))
  refine E.ret0 rfl ?_
  have hlk:lookR g m fr to a x (k+1) way at_ b=b:=(by first|exact lookR_cut (cut_of H hwl (.inl s))|exact lookR_cut (cut_of H hwl (.inr (.inl u)))|exact lookR_cut (cut_of H hwl (.inr (.inr ⟨hbs I,L⟩)))|exact lookR_old (by first|exact not_cut1 H hwl|exact not_cut2 s u (.inl (hbn I))|exact not_cut2 s u (.inr L)) K (fun hh=>hh.elim (hbs I) c2)|exact lookR_old (by first|exact not_cut1 H hwl|exact not_cut2 s u (.inl (hbn I))|exact not_cut2 s u (.inr L)) K (fun hh=>hh.elim (hbs aj) c2)|exact lookR_end (by first|exact not_cut1 H hwl|exact not_cut2 s u (.inl (hbn I))|exact not_cut2 s u (.inr L)) K (by rw[hwl];omega))
  rw[hlk]
  exact⟨rfl,⟨_,_,_,_,_,_,((ah.le (o.trans C)).cn D (by have:=ah.lt;have:=o.size;omega)),fj,fk,fl,hBe,hBl,hBm,hBo⟩,L3⟩
 refine WC.condN rfl (decide_eq_false c3) (WC.sn (WC.sr (W.r (.loadB (v:= .slice Ag ng cg) na32 rfl (hE.h7.chP L3 hE.n7) rfl) ?_)))
 refine W.run 1 rfl (W.cl go118 rfl rfl (in_ok at_ aE (hE.hg.chP L3 hE.hgg) (by omega)) ?_)
 rintro _ fm ⟨cQ,cR,rfl,cS,aT⟩
 refine W.r (.len underlying32 rfl) ?_
 refine W.run 1 rfl (W.nx (WC.block ?_))
 have fp:=(((hBw.le (o.trans C)).ch D (fun q hq=>by cases hq;exact(fun he=>by have:=(hBw.row he).2;have:=o.size;omega))).le aT)
 have fq:=(((hBn.le (o.trans C)).ch D (fun q hq=>by cases hq;exact(fun he=>by have:=(hBn.row he).2;have:=o.size;omega))).le aT)
 have fs:=(((hBd.le (o.trans C)).ch D (fun q hq=>by cases hq;exact(fun he=>by have:=(hBd.row he).2;have:=o.size;omega))).le aT)
 have ft:=(((hW.le (o.trans C)).ch D (fun q hq=>by cases hq;exact(fun he=>by have:=(hW.row he).2;have:=o.size;omega))).le aT)
 refine WC.loop (ι:=Nat×Fnd×((Option Addr))×Nat×((Option Addr))×Nat×((Option Addr))×Nat) (fun⟨j,bk,Ax,cx,Ay,cy,Az,cz⟩=>[(0,.slice A n c),(8,.pointer (some ⟨b8,0,none⟩)),(9,.pointer (some ⟨b9,0,none⟩)),(73,.slice cQ ((g.filter (fun e=>decide (e.t=at_))).length) cR),(74,.int .i64 ((((g.filter (fun e=>decide (e.t=at_))).length:Nat):Int))),(75,.int .i64 (((j:Nat):Int)))]) (fun⟨j,bk,Ax,cx,Ay,cy,Az,cz⟩ N=>(j<=(g.filter (fun e=>decide (e.t=at_))).length)/\(bk=((g.filter (fun e=>decide (e.t=at_))).take j).foldl (stepR (lookR g m fr to a x k) way to) b)/\(bk.way=[]->Ax=none)/\(bk.way.length<=8/\(digs bk.odds.n).length<=100/\(digs bk.odds.d).length<=100)/\ChP w N ((fun k=>k=gb))/\fm.heap.size<=N.heap.size/\OVec N bs 81 edgeV 9 A n c way/\OVec N aE.heap.size 81 edgeV 9 cQ ((g.filter (fun e=>decide (e.t=at_))).length) cR (g.filter (fun e=>decide (e.t=at_)))/\OVec N bs 81 edgeV 9 Ax bk.way.length cx bk.way/\OVec N bs 273 dv 1 Ay ((digs bk.odds.n).length) cy (digs bk.odds.n)/\OVec N bs 273 dv 1 Az ((digs bk.odds.d).length) cz (digs bk.odds.d)/\Blk N gb 190 #[.slice Ax bk.way.length cx,.slice Ay ((digs bk.odds.n).length) cy,.slice Az ((digs bk.odds.d).length) cz,.int .i64 (bk.sent)]) (fun⟨j,bk,Ax,cx,Ay,cy,Az,cz⟩=>(g.filter (fun e=>decide (e.t=at_))).length-j) (0,b,Aw,cw,An,cn,Ad,cd) ?_ ?_ ?_
 ·exact .cons rfl (.cons rfl (.cons rfl (.cons rfl (.cons rfl (.cons rfl (.nil _))))))
 ·exact⟨Nat.zero_le _,rfl,hBe,⟨hBl,hBm,hBo⟩,(L3.le aT),Nat.le_refl _,ft,cS,fp,fq,fs,(((ah.le (o.trans C)).cn D (by have:=ah.lt;have:=o.size;omega)).le aT)⟩
 rintro⟨j,bk,Ax,cx,Ay,cy,Az,cz⟩ N ⟨hj,hbk,hbe,hbl,au,av,ak,P,aa,ab,ac,Q⟩
 have gw:aE.heap.size<=N.heap.size:=by have:=aT.size;omega
 refine WC.sr (W.run 1 rfl (W.nx (WC.seq ?_)))
 by_cases c4:((j:Nat):Int)<(((g.filter (fun e=>decide (e.t=at_))).length:Nat):Int)
 ·refine WC.condY rfl (decide_eq_true c4) (WC.sn (WC.seq (WC.block (WC.sr (W.a (.idxS (j) underlying32 sz81 rfl rfl (cS.vec.isSome edgeV_row (by omega)) (rfl) (by omega)) ?_)))))
  refine W.r (.vload ag81 rfl P.vec edgeV_row (getS (g.filter (fun e=>decide (e.t=at_))) noEdge (by first|omega|(simp only[List.length_cons,List.length_nil];omega)))) ?_
  refine W.ef rfl rfl rfl (Ef.allocA z81 fun bO fu fv (fw:Blk fu bO 81 (edgeV noEdge).toArray) Y=>?_)
  have fx:=au.le Y
  refine W.ef0 rfl rfl (Ef.storeAll sz81 (by rfl) rfl rfl fw (by simp only[List.size_toArray,edgeV_row.len]) (edgeV_row.one ((g.filter (fun e=>decide (e.t=at_))).getD j noEdge)) ?_)
  intro bP a2 Z
  have a2:Blk bP bO 81 (edgeV ((g.filter (fun e=>decide (e.t=at_))).getD j noEdge)).toArray:=a2
  have bQ:ChP w bP ((fun k=>k=gb)):=fx.ch Z (fun i hi hlt=>by cases hi;exact absurd hlt (by have:=au.size;have:=fv;omega))
  refine W.nx (WC.seq (WC.sr (W.a (.field0 fa81_0 rfl) ?_)))
  refine W.r (.loadB (v:= .int .i64 (((g.filter (fun e=>decide (e.t=at_))).getD j noEdge).f)) na3 rfl a2 rfl) ?_
  refine W.r (.loadB (v:= .int .i64 (to)) na3 rfl (hE.h8.chP bQ hE.n8) rfl) ?_
  refine W.run 1 rfl ?_
  by_cases ai:(((g.filter (fun e=>decide (e.t=at_))).getD j noEdge).f)=to
  ·refine W.dt ai rfl rfl (W.run 4 rfl (W.nx (WC.condT rfl (WC.exit (E.thenX (E.blkH (E.thenN (WC.region (W.a (.add rfl rfl (by omega)) ?_)))))))))
   refine W.run 1 rfl (W.nil ?_)
   have fy:=((ak.le Y).ch Z (fun q hq=>by cases hq;exact(fun he=>by have:=(ak.row he).2;omega)))
   have fz:=((P.le Y).ch Z (fun q hq=>by cases hq;exact(fun he=>by have:=(P.row he).2;omega)))
   have fA:=((aa.le Y).ch Z (fun q hq=>by cases hq;exact(fun he=>by have:=(aa.row he).2;omega)))
   have fB:=((ab.le Y).ch Z (fun q hq=>by cases hq;exact(fun he=>by have:=(ab.row he).2;omega)))
   have fC:=((ac.le Y).ch Z (fun q hq=>by cases hq;exact(fun he=>by have:=(ac.row he).2;omega)))
   have fD:=((Q.le Y).cn Z (by have:=Q.lt;omega))
   refine E.again (j+1,bk,Ax,cx,Ay,cy,Az,cz) (.cons rfl (.cons rfl (.cons rfl (.cons rfl (.cons rfl (.cons rfl (.nil _))))))) ?_ ?_
   ·exact⟨by omega,(by rw[fold_next (z:=noEdge) (l:=(g.filter (fun e=>decide (e.t=at_)))) (by omega),<-hbk];exact(if_pos (by first|(unfold skipR;rw[decide_eq_true ai];exact Bool.true_or _)|(unfold skipR;rw[c5];exact Bool.or_true _))).symm),hbe,hbl,bQ,by have:=av;have:=Y.size;have:=Z.size;omega,fy,fz,fA,fB,fC,fD⟩
   first|omega|(simp only[];omega)
  refine W.df ai rfl rfl (W.run 1 rfl (W.g (Any.rd (.makeFunc rfl) _) ?_))
  have bf:=((ak.le Y).ch Z (fun q hq=>by cases hq;exact(fun he=>by have:=(ak.row he).2;omega)))
  refine W.efg rfl rfl rfl (rfl) rfl rfl (Ef.call go119 rfl rfl (rtcontains_ok (fun y=>decide (y.f=((g.filter (fun e=>decide (e.t=at_))).getD j noEdge).f)) go120 bP bf.vec (by omega) (fun y w1 hl=>seen_ok y w1 (a2.le hl))) ?_)
  rintro _ gx ⟨rfl,af⟩
  refine⟨_,rfl,?_⟩
  have cT:=bQ.le af
  refine W.run 1 rfl (W.nx ?_)
  by_cases c5:(way.any (fun y=>decide (y.f=((g.filter (fun e=>decide (e.t=at_))).getD j noEdge).f)))=true
  ·refine WC.condY rfl (c5) (WC.exit (E.thenX (E.blkH (E.thenN (WC.region (W.a (.add rfl rfl (by omega)) ?_))))))
   refine W.run 1 rfl (W.nil ?_)
   have fE:=(((P.le Y).ch Z (fun q hq=>by cases hq;exact(fun he=>by have:=(P.row he).2;omega))).le af)
   have fF:=(((aa.le Y).ch Z (fun q hq=>by cases hq;exact(fun he=>by have:=(aa.row he).2;omega))).le af)
   have fG:=(((ab.le Y).ch Z (fun q hq=>by cases hq;exact(fun he=>by have:=(ab.row he).2;omega))).le af)
   have fH:=(((ac.le Y).ch Z (fun q hq=>by cases hq;exact(fun he=>by have:=(ac.row he).2;omega))).le af)
   have fI:=(((Q.le Y).cn Z (by have:=Q.lt;omega)).le af)
   refine E.again (j+1,bk,Ax,cx,Ay,cy,Az,cz) (.cons rfl (.cons rfl (.cons rfl (.cons rfl (.cons rfl (.cons rfl (.nil _))))))) ?_ ?_
   ·exact⟨by omega,(by rw[fold_next (z:=noEdge) (l:=(g.filter (fun e=>decide (e.t=at_)))) (by omega),<-hbk];exact(if_pos (by first|(unfold skipR;rw[decide_eq_true ai];exact Bool.true_or _)|(unfold skipR;rw[c5];exact Bool.or_true _))).symm),hbe,hbl,cT,by have:=av;have:=Y.size;have:=Z.size;have:=af.size;omega,(bf.le af),fE,fF,fG,fH,fI⟩
   first|omega|(simp only[];omega)
  refine WC.condN rfl ((Bool.eq_false_iff.2 c5)) (WC.sn (WC.drawR (fun aL w'=>ChP w w' ((fun k=>k=gb))/\Blk w' bO 81 (edgeV ((g.filter (fun e=>decide (e.t=at_))).getD j noEdge)).toArray) [0,1,3,5,6,2,4,7] mixed (by kernel_rfl) fun aL J=>?_))
  have bg:=cT.le J
  have bR:=(a2.le (af.trans J))
  refine⟨⟨bg,bR⟩,?_⟩
  refine GR.rd rfl rfl (fun w' hs=> .loadB (v:= .func (.func 115) #[] #[.pointer (some ⟨b2,0,none⟩),.pointer (some ⟨b3,0,none⟩),.pointer (some ⟨b4,0,none⟩),.pointer (some ⟨gb,0,none⟩),.pointer (some ⟨b6,0,none⟩),.pointer (some ⟨b7,0,none⟩),.pointer (some ⟨b8,0,none⟩),.pointer (some ⟨b9,0,none⟩)]) na191 rfl (hE.h9.chP hs.1 hE.n9) rfl) rfl rfl rfl (GR.rd rfl rfl (fun w' hs=> .loadAll ag81 (by rfl) rfl hs.2) rfl rfl rfl ?_)
  refine GR.any rfl rfl (.move rfl) rfl rfl rfl (GR.any rfl rfl (.field0 fa81_0 rfl) rfl rfl rfl (GR.rd rfl rfl (fun w' hs=> .loadB (v:= .int .i64 (((g.filter (fun e=>decide (e.t=at_))).getD j noEdge).f)) na3 rfl hs.2 rfl) rfl rfl rfl (GR.ef rfl rfl rfl rfl rfl (Ef.buildSliceV (len:=1) [_] underlying32 el81 rfl (by simp[Value.cells,edgeV_row.len]) rfl (by decide) (by decide) ?_))))
  intro cU cV fJ bS aC
  have cW:=bg.le aC
  have bS:Blk cV cU 81 (([(g.filter (fun e=>decide (e.t=at_))).getD j noEdge]).map edgeV).flatten.toArray:=bS
  have aJ:OVec cV aL.heap.size 81 edgeV 9 (some ⟨cU,0,none⟩) 1 1 ([(g.filter (fun e=>decide (e.t=at_))).getD j noEdge]):=bS.ovec fJ edgeV_row rfl rfl (by decide)
  have cX:=(bR.le aC)
  refine⟨fun _=>⟨cW,cX⟩,?_⟩
  have cY:=(bf.le (af.trans (J.trans aC)))
  refine GR.ef rfl rfl rfl rfl rfl (Ef.vcat underlying32 el81 underlying32 edgeV_row rfl aJ rfl cY.vec (by omega) (by unfold maxLen;omega) (by have:=aC.size;omega) ?_)
  intro gy gz bT cZ aK gA
  have bU:ChP w bT ((fun k=>k=gb)):=cW.ch aK (fun i hi hlt=>absurd hlt (by have:=(aJ.row hi).1;have:=bg.size;omega))
  refine⟨fun _=>⟨bU,(cX.ch aK (fun he=>by have:=(aJ.row he).1;have:=bR.lt;omega))⟩,?_⟩
  have fK:=((((Q.le Y).cn Z (by have:=Q.lt;omega)).le (af.trans (J.trans aC))).ch aK (fun he=>by have:=(aJ.row he).1;have:=Q.lt;have:=Y.size;have:=Z.size;have:=af.size;have:=J.size;omega))
  have fL:=((((aa.le Y).ch Z (fun q hq=>by cases hq;exact(fun he=>by have:=(aa.row he).2;omega))).le (af.trans (J.trans aC))).ch aK ((Apart.symm (fun q R S=>by have:=(aa.row R).2;have:=(aJ.row S).1;have:=Y.size;have:=Z.size;have:=af.size;have:=J.size;omega))))
  have fM:=((((ab.le Y).ch Z (fun q hq=>by cases hq;exact(fun he=>by have:=(ab.row he).2;omega))).le (af.trans (J.trans aC))).ch aK ((Apart.symm (fun q R S=>by have:=(ab.row R).2;have:=(aJ.row S).1;have:=Y.size;have:=Z.size;have:=af.size;have:=J.size;omega))))
  have fN:=((((ac.le Y).ch Z (fun q hq=>by cases hq;exact(fun he=>by have:=(ac.row he).2;omega))).le (af.trans (J.trans aC))).ch aK ((Apart.symm (fun q R S=>by have:=(ac.row R).2;have:=(aJ.row S).1;have:=Y.size;have:=Z.size;have:=af.size;have:=J.size;omega))))
  have fO:BestAt bT bs gb bk:=⟨_,_,_,_,_,_,fK,fL,fM,fN,hbe,hbl.1,hbl.2.1,hbl.2.2⟩
  have fP:=ih ([(g.filter (fun e=>decide (e.t=at_))).getD j noEdge]++way) (by omega) (((g.filter (fun e=>decide (e.t=at_))).getD j noEdge).f) bk bT bU (cZ.mono (Nat.le_trans hbs0 bg.size))
  have fQ:=fP (by omega) (by omega) (fun he=>by have:=(cZ.row he).1;have:=Q.lt;have:=Y.size;have:=Z.size;have:=af.size;have:=J.size;omega) fO
  refine GR.ef rfl rfl rfl rfl rfl (Ef.callC go115 rfl rfl rfl (fQ) ?_)
  rintro _ gB ⟨rfl,⟨fR,fS,fT,fU,fV,fW,fX,fY,fZ,f0,f1,f2,f3,f4⟩,bh⟩
  refine⟨_,rfl,?_⟩
  have f8:=bU.sub bh (fun i hi hlt=>(by subst hi;exact rfl))
  refine noT (by kernel_rfl) (GR.nil (E.blkN (E.thenN (WC.region (W.a (.add rfl rfl (by omega)) ?_)))))
  refine W.run 1 rfl (W.nil ?_)
  have ga:=((cY.ch aK ((Apart.symm (fun q R S=>by have:=(bf.row R).2;have:=(aJ.row S).1;have:=af.size;have:=J.size;omega)))).chP bh (fun q hqq hF=>(by subst hF;exact hWg hqq)))
  have gc:=(((((P.le Y).ch Z (fun q hq=>by cases hq;exact(fun he=>by have:=(P.row he).2;omega))).le (af.trans (J.trans aC))).ch aK ((Apart.symm (fun q R S=>by have:=(P.row R).2;have:=(aJ.row S).1;have:=Y.size;have:=Z.size;have:=af.size;have:=J.size;omega)))).chP bh (fun q hqq hF=>(by subst hF;exact(fun he=>by have:=(P.row he).1;have:=ah.lt;have:=o.size;have:=C.size;have:=D.size;omega) hqq)))
  refine E.again (j+1,(lookR g m fr to a x k ([(g.filter (fun e=>decide (e.t=at_))).getD j noEdge]++way) (((g.filter (fun e=>decide (e.t=at_))).getD j noEdge).f) bk),fR,fS,fT,fU,fV,fW) (.cons rfl (.cons rfl (.cons rfl (.cons rfl (.cons rfl (.cons rfl (.nil _))))))) ?_ ?_
  ·exact⟨by omega,(by rw[fold_next (z:=noEdge) (l:=(g.filter (fun e=>decide (e.t=at_)))) (by omega),<-hbk];exact(if_neg (by simp only[skipR,Bool.or_eq_true,decide_eq_true_eq,not_or];exact⟨ai,c5⟩)).symm),f1,⟨f2,f3,f4⟩,f8,by have:=av;have:=Y.size;have:=Z.size;have:=af.size;have:=J.size;have:=aC.size;have:=aK.size;have:=bh.size;omega,ga,gc,fY,fZ,f0,fX⟩
  first|omega|(simp only[];omega)
 refine WC.condN rfl (decide_eq_false c4) (WC.exit (E.thenX (E.thenX (E.blkH (E.end_ (E.ret0 rfl ?_))))))
 have hnc:¬cutR way (oddsR m way a x) b:=(by first|exact not_cut1 H hwl|exact not_cut2 s u (.inl (hbn I))|exact not_cut2 s u (.inr L))
 have hje:j=(g.filter (fun e=>decide (e.t=at_))).length:=(by omega)
 have hlk:lookR g m fr to a x (k+1) way at_ b=bk:=(by rw[lookR_go hnc K (by rw[hwl];omega),hbk,hje,List.take_length];rfl)
 rw[hlk]
 exact⟨rfl,⟨_,_,_,_,_,_,Q,aa,ab,ac,hbe,hbl.1,hbl.2.1,hbl.2.2⟩,au⟩


theorem look_ok {bs base gp ng cg b2 b3 b4 gb b6 b7 b8 b9:Nat}{F:Nat->Prop}{m:MF}{Ag:Option Addr}{g:List Gsp.Edge}{fr to a x:Int}:∀(k:Nat) (way:List Gsp.Edge) {A:Option Addr} {n c:Nat} (hk1:1<=k) (at_:Int) (b:Fnd) (w:World),LookE w base gp F m Ag ng cg g fr to a x b2 b3 b4 gb b6 b7 b8 b9->bs<=w.heap.size->OVec w bs 81 edgeV 9 A n c way->n+k=9->(n=0->A=none)->(n=0->at_≠fr)->rowOf A c≠some gb->BestAt w bs gb b->
    Calls prog 115 #[.slice A n c,.int .i64 at_,.pointer (some ⟨b2,0,none⟩),.pointer (some ⟨b3,0,none⟩),.pointer (some ⟨b4,0,none⟩),.pointer (some ⟨gb,0,none⟩),.pointer (some ⟨b6,0,none⟩),.pointer (some ⟨b7,0,none⟩),.pointer (some ⟨b8,0,none⟩),.pointer (some ⟨b9,0,none⟩)] w fun r w2=>r= .returned (.tuple #[])/\BestAt w2 bs gb (lookR g m fr to a x k way at_ b)/\ChP w w2 (fun k=>k=gb)
  |0,_,_,_,_,h,_,_,_,_,_,_,_,_,_,_,_=>absurd h (by decide)
  |k+1,way,A,n,c,_,at_,b,w,hE,hbs,hW,hnk,hn0,hnf,hWg,hB=>by
    obtain⟨Aw,cw,An,cn,Ad,cd,hB⟩:=hB
    refine look_step at_ w hE (fun way' A' n' c' hk1 at' b' d hc hW' hn' e hg' hB'=>look_ok k way' hk1 at' b' d (hE.chP hc) (Nat.le_trans hbs hc.size) hW' hn' (fun h=>by omega) (fun h=>by omega) hg' hB') hbs hW hWg (by omega) hB hn0 hnf

end Go.Proofs.YtocheaahlpiajaaGreatDoor

namespace Go.Proofs.YtocheaahlpiajaaGreatDoor
open Tryz
open Go Go.Sx Go.Num Go.Gsp Go.Nsp Go.Msp Go.Rtp
set_option maxRecDepth 20000
set_option maxHeartbeats 4000000
theorem best_none {w:World}{bs gb:Nat}(h:Blk w gb 190 #[.slice none 0 0,.slice none 0 0,.slice none 0 0,.int .i64 0]):BestAt w bs gb noFnd:=by
  refine⟨none,0,none,0,none,0,?_,OVec.nil _ _ _ _ _ _,?_,?_,fun _=>rfl,by decide,?_,?_⟩
  · show Blk w gb 190 #[.slice none 0 0,.slice none (digs 0).length 0,.slice none (digs 0).length 0,.int .i64 0]
    rw[digs_zero];exact h
  · show OVec w bs 273 dv 1 none (digs 0).length 0 (digs 0)
    rw[digs_zero];exact OVec.nil _ _ _ _ _ _
  · show OVec w bs 273 dv 1 none (digs 0).length 0 (digs 0)
    rw[digs_zero];exact OVec.nil _ _ _ _ _ _
  · show(digs 0).length<=100
    rw[digs_zero];decide
  · show(digs 0).length<=100
    rw[digs_zero];decide
theorem bestR_none {g:List Gsp.Edge}{m:MF}{fr to a x:Int}(hb:badR g fr to a x=false)(h:(lookR g m fr to a x 9 [] to noFnd).way=[]):bestR g m fr to a x=([],⟨0,0⟩,19):=by unfold bestR;rw[if_neg (by rw[hb];decide),if_pos h]
theorem bestR_some {g:List Gsp.Edge}{m:MF}{fr to a x:Int}(hb:badR g fr to a x=false)(h:(lookR g m fr to a x 9 [] to noFnd).way≠[]):bestR g m fr to a x=((lookR g m fr to a x 9 [] to noFnd).way,(lookR g m fr to a x 9 [] to noFnd).odds,0):=by unfold bestR;rw[if_neg (by rw[hb];decide),if_neg h]
theorem rbest_ok {base gp:Nat}{F:Nat->Prop}{m:MF}(fr to a x:Int){A:Option Addr}{n c:Nat}{g:List Gsp.Edge}(w:World)(hP:MPool w base gp F m)(hV:Vec w edgeV 9 A n g)(hn:n<=1000000):Calls prog 46 #[.slice A n c,.pointer (some ⟨gp,0,none⟩),.int .i64 (fr),.int .i64 (to),.int .i64 (a),.int .i64 (x)] w fun r w'=>∃Aw cw An cn Ad cd,r= .returned (.tuple #[.slice Aw (bestR g m fr to a x).1.length cw,.agg #[.slice An (digs (bestR g m fr to a x).2.1.n).length cn,.slice Ad (digs (bestR g m fr to a x).2.1.d).length cd],.int .i64 (bestR g m fr to a x).2.2])/\OVec w' w.heap.size 81 edgeV 9 Aw (bestR g m fr to a x).1.length cw (bestR g m fr to a x).1/\OVec w' w.heap.size 273 dv 1 An (digs (bestR g m fr to a x).2.1.n).length cn (digs (bestR g m fr to a x).2.1.n)/\OVec w' w.heap.size 273 dv 1 Ad (digs (bestR g m fr to a x).2.1.d).length cd (digs (bestR g m fr to a x).2.1.d)/\Le w w':=by
 have hl:=hV.1
 have hgm:=hP.good
 refine enter func46 rfl rfl (WC.sr (W.ef rfl rfl rfl (Ef.box rfl fun T aY bT (aZ:Blk aY T 32 #[.slice A n c]) ad=>(W.ef rfl rfl rfl (Ef.box rfl fun U a0 bU (ao:Blk a0 U 55 #[.pointer (some ⟨gp,0,none⟩)]) V=>(W.ef rfl rfl rfl ?_))))))
 refine Ef.box rfl fun X a1 bV (a2:Blk a1 X 3 #[.int .i64 (fr)]) L=>(W.ef rfl rfl rfl (Ef.box rfl fun Y a3 bW (a4:Blk a3 Y 3 #[.int .i64 (to)]) I=>(W.ef rfl rfl rfl (Ef.box rfl fun Z a5 bX (a6:Blk a5 Z 3 #[.int .i64 (a)]) H=>(W.ef rfl rfl rfl ?_)))))
 refine Ef.box rfl fun aa a7 bY (a8:Blk a7 aa 3 #[.int .i64 (x)]) C=>?_
 have J:=((((((Le.refl w).trans ad).trans V).trans L).trans I).trans H).trans C
 refine W.run 1 rfl (W.ef rfl rfl rfl (Ef.allocA z61 fun D aF N (s:Blk aF D 61 #[.slice none 0 0,.slice none 0 0]) z=>?_))
 have L7:=J.trans z
 refine W.run 1 rfl (W.nx (WC.seq (WC.sr ?_)))
 have f8:=(aZ.le (V.trans (L.trans (I.trans (H.trans (C.trans z))))))
 refine W.r (.loadB (v:= .slice A n c) na32 rfl f8 rfl) ?_
 refine W.cl go68 rfl rfl (gright_ok aF (hV.le L7) (by omega)) ?_
 rintro _ a9 ⟨rfl,f⟩
 have L9:=L7.trans f
 refine W.run 1 rfl ?_
 by_cases K:(rightG g)=true
 ·refine W.a (.dec (.move rfl) (congrArg not (K))) ?_
  have aG:=(a2.le (I.trans (H.trans (C.trans (z.trans f)))))
  refine W.g (.loadB (v:= .int .i64 (fr)) na3 rfl aG rfl) ?_
  refine W.efg rfl rfl rfl (rfl) rfl rfl (Ef.call go114 rfl rfl (rtwithin_ok fr 0 11 a9) ?_)
  rintro _ ba ⟨rfl,j⟩
  refine⟨_,rfl,?_⟩
  have aH:=L9.trans j
  refine W.run 2 rfl ?_
  by_cases O:(inB fr 0 11)=true
  ·refine W.a (.dec (.move rfl) (congrArg not (O))) ?_
   have aI:=(a4.le (H.trans (C.trans (z.trans (f.trans j)))))
   refine W.g (.loadB (v:= .int .i64 (to)) na3 rfl aI rfl) ?_
   refine W.efg rfl rfl rfl (rfl) rfl rfl (Ef.call go114 rfl rfl (rtwithin_ok to 0 11 ba) ?_)
   rintro _ bb ⟨rfl,l⟩
   refine⟨_,rfl,?_⟩
   have ap:=aH.trans l
   refine W.run 2 rfl ?_
   by_cases P:(inB to 0 11)=true
   ·refine W.a (.dec (.move rfl) (congrArg not (P))) ?_
    have ae:=(aG.le (j.trans l))
    refine W.g (.loadB (v:= .int .i64 (fr)) na3 rfl ae rfl) ?_
    have af:=(aI.le l)
    refine W.g (.loadB (v:= .int .i64 (to)) na3 rfl af rfl) ?_
    refine W.run 2 rfl ?_
    by_cases Q:fr=to
    ·refine W.dt Q rfl rfl (W.run 9 rfl (W.nx (WC.condT rfl (WC.sr (W.a (.buildP [.slice none 0 0,.slice none 0 0] pl61 z61 rfl rfl) ?_)))))
     refine W.run 1 rfl (W.sA sz61 rfl rfl (s.le (f.trans (j.trans l))) ?_)
     intro bc aq bd
     have aq:Blk bc D 61 #[.slice none 0 0,.slice none 0 0]:=aq
     have be:=ap.tb bd J N
     refine W.run 1 rfl (W.nx (WC.ret (E.thenR (E.retG3 rfl rfl (resA rfl aq ag61 (by rfl)) rfl ?_))))
     rw[bestR_bad (by unfold badR;simp[K,O,P,Q])]
     exact⟨none,0,none,0,none,0,by simp only[digs_zero];rfl,OVec.nil _ _ _ _ _ _,by simp only[digs_zero];exact OVec.nil _ _ _ _ _ _,by simp only[digs_zero];exact OVec.nil _ _ _ _ _ _,be⟩
    refine W.df Q rfl rfl ?_
    have ah:=(a6.le (C.trans (z.trans (f.trans (j.trans l)))))
    refine W.g (.loadB (v:= .int .i64 (a)) na3 rfl ah rfl) ?_
    refine W.efg rfl rfl rfl (rfl) rfl rfl (Ef.call go114 rfl rfl (rtwithin_ok a 1 1125899906842624 bb) ?_)
    rintro _ bf ⟨rfl,e⟩
    refine⟨_,rfl,?_⟩
    have aJ:=ap.trans e
    refine W.run 2 rfl ?_
    by_cases ab:(inB a 1 1125899906842624)=true
    ·refine W.a (.dec (.move rfl) (congrArg not (ab))) ?_
     have ai:=(a8.le (z.trans (f.trans (j.trans (l.trans e)))))
     refine W.g (.loadB (v:= .int .i64 (x)) na3 rfl ai rfl) ?_
     refine W.efg rfl rfl rfl (rfl) rfl rfl (Ef.call go114 rfl rfl (rtwithin_ok x 1 1048576 bf) ?_)
     rintro _ bZ ⟨rfl,b⟩
     refine⟨_,rfl,?_⟩
     have aj:=aJ.trans b
     refine W.run 2 rfl (W.nx ?_)
     by_cases c0:(inB x 1 1048576)=true
     ·refine WC.condN rfl (congrArg not (c0)) ?_
      have hbad:badR g fr to a x=false:=by unfold badR;simp[K,O,P,Q,ab,c0]
      have hft:=(bad_T hbad).2.2.2.1
      refine WC.sn (WC.sr (W.ef rfl rfl rfl (Ef.allocA z190 fun t bg ar (au:Blk bg t 190 #[.slice none 0 0,.slice none 0 0,.slice none 0 0,.int .i64 (0)]) o=>?_)))
      have aK:=aj.trans o
      refine W.nx (WC.sr (W.ef rfl rfl rfl (Ef.alloc z191 fun R bh aL (bi:Blk bh R 191 #[.nilFunc]) u=>(W.nx (WC.sr (W.a (.makeFunc rfl) ?_))))))
      refine W.ef0 rfl rfl (Ef.store sz191 rfl rfl bi (by first|decide|(simp;done)) (rfl) ?_)
      intro ak al y
      have al:Blk ak R 191 #[.func (.func 115) #[] #[.pointer (some ⟨U,0,none⟩),.pointer (some ⟨Z,0,none⟩),.pointer (some ⟨aa,0,none⟩),.pointer (some ⟨t,0,none⟩),.pointer (some ⟨X,0,none⟩),.pointer (some ⟨T,0,none⟩),.pointer (some ⟨Y,0,none⟩),.pointer (some ⟨R,0,none⟩)]]:=al
      have ac:=(aK.trans u).tb y aK aL
      refine W.nx (WC.sr (W.r (.loadB (v:= .func (.func 115) #[] #[.pointer (some ⟨U,0,none⟩),.pointer (some ⟨Z,0,none⟩),.pointer (some ⟨aa,0,none⟩),.pointer (some ⟨t,0,none⟩),.pointer (some ⟨X,0,none⟩),.pointer (some ⟨T,0,none⟩),.pointer (some ⟨Y,0,none⟩),.pointer (some ⟨R,0,none⟩)]) na191 rfl al rfl) ?_))
      have aM:=((af.le (e.trans (b.trans (o.trans u)))).cn y (by have:=af.lt;have:=e.size;have:=b.size;have:=o.size;omega))
      refine W.r (.loadB (v:= .int .i64 (to)) na3 rfl aM rfl) ?_
      have bj:=((ao.le (L.trans (I.trans (H.trans (C.trans (z.trans (f.trans (j.trans (l.trans (e.trans (b.trans (o.trans u)))))))))))).cn y (by have:=ao.lt;have:=L.size;have:=I.size;have:=H.size;have:=C.size;have:=z.size;have:=f.size;have:=j.size;have:=l.size;have:=e.size;have:=b.size;have:=o.size;omega))
      have bk:=((ah.le (e.trans (b.trans (o.trans u)))).cn y (by have:=ah.lt;have:=e.size;have:=b.size;have:=o.size;omega))
      have bl:=((ai.le (b.trans (o.trans u))).cn y (by have:=ai.lt;have:=b.size;have:=o.size;omega))
      have bm:=((au.le u).cn y (by have:=au.lt;omega))
      have bn:=((ae.le (e.trans (b.trans (o.trans u)))).cn y (by have:=ae.lt;have:=e.size;have:=b.size;have:=o.size;omega))
      have bo:=((f8.le (f.trans (j.trans (l.trans (e.trans (b.trans (o.trans u))))))).cn y (by have:=f8.lt;have:=f.size;have:=j.size;have:=l.size;have:=e.size;have:=b.size;have:=o.size;omega))
      have bp:=((hP.le (ad.trans (V.trans (L.trans (I.trans (H.trans (C.trans (z.trans (f.trans (j.trans (l.trans (e.trans (b.trans (o.trans u)))))))))))))).ch y (fun q hqq hF=>by cases hqq;have:=hP.lt hF;have:=ad.size;have:=V.size;have:=L.size;have:=I.size;have:=H.size;have:=C.size;have:=z.size;have:=f.size;have:=j.size;have:=l.size;have:=e.size;have:=b.size;have:=o.size;have:=aL;omega))
      have bq:LookE ak base gp F m A n c g fr to a x U Z aa t X T Y R:=⟨bj,bk,bl,bn,bo,aM,al,bp,(hV.le ac),(show U≠t from by have:=ao.lt;have:=L.size;have:=I.size;have:=H.size;have:=C.size;have:=z.size;have:=f.size;have:=j.size;have:=l.size;have:=e.size;have:=b.size;omega),(show Z≠t from by have:=ah.lt;have:=e.size;have:=b.size;omega),(show aa≠t from by have:=ai.lt;have:=b.size;omega),(show X≠t from by have:=ae.lt;have:=e.size;have:=b.size;omega),(show T≠t from by have:=f8.lt;have:=f.size;have:=j.size;have:=l.size;have:=e.size;have:=b.size;omega),(show Y≠t from by have:=af.lt;have:=e.size;have:=b.size;omega),(show R≠t from by have:=au.lt;omega),(fun k hk he=>(show¬F t from(fun hF=>by have:=hP.lt hF;have:=ad.size;have:=V.size;have:=L.size;have:=I.size;have:=H.size;have:=C.size;have:=z.size;have:=f.size;have:=j.size;have:=l.size;have:=e.size;have:=b.size;have:=ar;omega)) (he▸hk)),(fun q h1 h2 _ he=>by have:=hV.blk_lt edgeV_row h2 h1;have:=aj.size;have:=ar;omega),hn⟩
      have bt:=look_ok 9 [] (by decide) to noFnd ak bq (bs:=ak.heap.size) (Nat.le_refl _) (OVec.nil _ _ _ _ _ _) (by decide) (fun _=>rfl) (fun _ h=>hft h.symm) (by simp[rowOf]) (best_none bm)
      refine W.ef rfl rfl rfl (Ef.callC go115 rfl rfl rfl (bt) ?_)
      rintro _ b0 ⟨rfl,⟨am,aO,aP,aQ,aR,aS,aT,av,aU,aV,bu,b1,b2,b3⟩,aw⟩
      refine⟨_,rfl,?_⟩
      have aW:=ac.chP_then aw (fun i hi=>(by subst hi;exact Nat.le_trans aj.size ar))
      refine W.nx (WC.seq (WC.sr (W.a (.field0 fa190_0 rfl) ?_)))
      refine W.r (.loadB (v:= .slice am ((lookR g m fr to a x 9 [] to noFnd).way.length) aO) na32 rfl aT rfl) ?_
      refine W.a (.isNil underlying32 rfl) ?_
      refine W.nx ?_
      by_cases c1:am.isNone=true
      ·refine WC.condY rfl (c1) (WC.sr (W.a (.buildP [.slice none 0 0,.slice none 0 0] pl61 z61 rfl rfl) ?_))
       refine W.run 1 rfl (W.sA sz61 rfl rfl (((s.le (f.trans (j.trans (l.trans (e.trans (b.trans (o.trans u))))))).cn y (by have:=s.lt;have:=f.size;have:=j.size;have:=l.size;have:=e.size;have:=b.size;have:=o.size;omega)).chP aw (fun hF=>(show D≠t from by have:=s.lt;have:=f.size;have:=j.size;have:=l.size;have:=e.size;have:=b.size;omega) hF)) ?_)
       intro bv ax bw
       have ax:Blk bv D 61 #[.slice none 0 0,.slice none 0 0]:=ax
       have bx:=aW.tb bw J N
       refine W.run 1 rfl (W.nx (WC.ret (E.thenR (E.retG3 rfl rfl (resA rfl ax ag61 (by rfl)) rfl ?_))))
       rw[bestR_none hbad (Decidable.byContradiction fun hh=>by have hs:=av.vec.isSome edgeV_row (List.length_pos_iff.2 hh);have hc:=c1;revert hc hs;cases am<;>simp)]
       exact⟨none,0,none,0,none,0,by simp only[digs_zero];rfl,OVec.nil _ _ _ _ _ _,by simp only[digs_zero];exact OVec.nil _ _ _ _ _ _,by simp only[digs_zero];exact OVec.nil _ _ _ _ _ _,bx⟩
      refine WC.condN rfl ((Bool.eq_false_iff.2 c1)) (WC.sn (WC.seq (WC.draw [0,1,2,3,4,5,6] mixed (by kernel_rfl) fun w9 S=>(G.a rfl (.field0 fa190_0 rfl) ?_))))
      have aX:=(aT.le S)
      refine G.r rfl (.loadB (v:= .slice am ((lookR g m fr to a x 9 [] to noFnd).way.length) aO) na32 rfl aX rfl) ?_
      refine G.a rfl (.field0 fa190_1 rfl) ?_
      refine G.r rfl (.bpart [.slice aP ((digs (lookR g m fr to a x 9 [] to noFnd).odds.n).length) aQ,.slice aR ((digs (lookR g m fr to a x 9 [] to noFnd).odds.d).length) aS] ag61 rfl (by decide) rfl aX rfl) ?_
      refine G.run 1 rfl ?_
      have bz:=((((s.le (f.trans (j.trans (l.trans (e.trans (b.trans (o.trans u))))))).cn y (by have:=s.lt;have:=f.size;have:=j.size;have:=l.size;have:=e.size;have:=b.size;have:=o.size;omega)).chP aw (fun hF=>(show D≠t from by have:=s.lt;have:=f.size;have:=j.size;have:=l.size;have:=e.size;have:=b.size;omega) hF)).le S)
      refine G.ef0 rfl rfl rfl rfl (Ef.storeAll sz61 (by rfl) rfl rfl bz (by rfl) (by simp[Value.oneCell']) ?_)
      intro bA ay an
      refine noT (by kernel_rfl) ?_
      have ay:Blk bA D 61 #[.slice aP ((digs (lookR g m fr to a x 9 [] to noFnd).odds.n).length) aQ,.slice aR ((digs (lookR g m fr to a x 9 [] to noFnd).odds.d).length) aS]:=ay
      refine G.run 1 rfl (G.nil (E.thenN (WC.ret ?_)))
      have bB:=((av.le S).ch an (fun q hq=>by cases hq;exact(fun he=>by have:=(av.row he).1;have:=s.lt;have:=f.size;have:=j.size;have:=l.size;have:=e.size;have:=b.size;have:=o.size;have:=u.size;have:=y.size;omega)))
      have bC:=((aU.le S).ch an (fun q hq=>by cases hq;exact(fun he=>by have:=(aU.row he).1;have:=s.lt;have:=f.size;have:=j.size;have:=l.size;have:=e.size;have:=b.size;have:=o.size;have:=u.size;have:=y.size;omega)))
      have bD:=((aV.le S).ch an (fun q hq=>by cases hq;exact(fun he=>by have:=(aV.row he).1;have:=s.lt;have:=f.size;have:=j.size;have:=l.size;have:=e.size;have:=b.size;have:=o.size;have:=u.size;have:=y.size;omega)))
      refine E.retG3 rfl rfl (resA rfl ay ag61 (by rfl)) rfl ?_
      rw[bestR_some hbad (fun hh=>c1 (by rw[bu hh];rfl))]
      exact⟨_,_,_,_,_,_,rfl,(bB.mono ac.size),(bC.mono ac.size),(bD.mono ac.size),((aW.trans S).tb an J N)⟩
     refine WC.condY rfl (congrArg not ((Bool.eq_false_iff.2 c0))) (WC.sr (W.a (.buildP [.slice none 0 0,.slice none 0 0] pl61 z61 rfl rfl) ?_))
     refine W.run 1 rfl (W.sA sz61 rfl rfl (s.le (f.trans (j.trans (l.trans (e.trans b))))) ?_)
     intro bE az bF
     have az:Blk bE D 61 #[.slice none 0 0,.slice none 0 0]:=az
     have bG:=aj.tb bF J N
     refine W.run 1 rfl (W.nx (WC.ret (E.thenR (E.retG3 rfl rfl (resA rfl az ag61 (by rfl)) rfl ?_))))
     rw[bestR_bad (by unfold badR;simp[K,O,P,Q,ab,c0])]
     exact⟨none,0,none,0,none,0,by simp only[digs_zero];rfl,OVec.nil _ _ _ _ _ _,by simp only[digs_zero];exact OVec.nil _ _ _ _ _ _,by simp only[digs_zero];exact OVec.nil _ _ _ _ _ _,bG⟩
    refine W.a (.dec (.move rfl) (congrArg not ((Bool.eq_false_iff.2 ab)))) ?_
    refine W.run 4 rfl (W.nx (WC.condT rfl (WC.sr (W.a (.buildP [.slice none 0 0,.slice none 0 0] pl61 z61 rfl rfl) ?_))))
    refine W.run 1 rfl (W.sA sz61 rfl rfl (s.le (f.trans (j.trans (l.trans e)))) ?_)
    intro bH aA bI
    have aA:Blk bH D 61 #[.slice none 0 0,.slice none 0 0]:=aA
    have bJ:=aJ.tb bI J N
    refine W.run 1 rfl (W.nx (WC.ret (E.thenR (E.retG3 rfl rfl (resA rfl aA ag61 (by rfl)) rfl ?_))))
    rw[bestR_bad (by unfold badR;simp[K,O,P,Q,ab])]
    exact⟨none,0,none,0,none,0,by simp only[digs_zero];rfl,OVec.nil _ _ _ _ _ _,by simp only[digs_zero];exact OVec.nil _ _ _ _ _ _,by simp only[digs_zero];exact OVec.nil _ _ _ _ _ _,bJ⟩
   refine W.a (.dec (.move rfl) (congrArg not ((Bool.eq_false_iff.2 P)))) ?_
   refine W.run 14 rfl (W.nx (WC.condT rfl (WC.sr (W.a (.buildP [.slice none 0 0,.slice none 0 0] pl61 z61 rfl rfl) ?_))))
   refine W.run 1 rfl (W.sA sz61 rfl rfl (s.le (f.trans (j.trans l))) ?_)
   intro bK aB bL
   have aB:Blk bK D 61 #[.slice none 0 0,.slice none 0 0]:=aB
   have bM:=ap.tb bL J N
   refine W.run 1 rfl (W.nx (WC.ret (E.thenR (E.retG3 rfl rfl (resA rfl aB ag61 (by rfl)) rfl ?_))))
   rw[bestR_bad (by unfold badR;simp[K,O,P])]
   exact⟨none,0,none,0,none,0,by simp only[digs_zero];rfl,OVec.nil _ _ _ _ _ _,by simp only[digs_zero];exact OVec.nil _ _ _ _ _ _,by simp only[digs_zero];exact OVec.nil _ _ _ _ _ _,bM⟩
  refine W.a (.dec (.move rfl) (congrArg not ((Bool.eq_false_iff.2 O)))) ?_
  refine W.run 19 rfl (W.nx (WC.condT rfl (WC.sr (W.a (.buildP [.slice none 0 0,.slice none 0 0] pl61 z61 rfl rfl) ?_))))
  refine W.run 1 rfl (W.sA sz61 rfl rfl (s.le (f.trans j)) ?_)
  intro bN aC bO
  have aC:Blk bN D 61 #[.slice none 0 0,.slice none 0 0]:=aC
  have bP:=aH.tb bO J N
  refine W.run 1 rfl (W.nx (WC.ret (E.thenR (E.retG3 rfl rfl (resA rfl aC ag61 (by rfl)) rfl ?_))))
  rw[bestR_bad (by unfold badR;simp[K,O])]
  exact⟨none,0,none,0,none,0,by simp only[digs_zero];rfl,OVec.nil _ _ _ _ _ _,by simp only[digs_zero];exact OVec.nil _ _ _ _ _ _,by simp only[digs_zero];exact OVec.nil _ _ _ _ _ _,bP⟩
 refine W.a (.dec (.move rfl) (congrArg not ((Bool.eq_false_iff.2 K)))) ?_
 refine W.run 24 rfl (W.nx (WC.condT rfl (WC.sr (W.a (.buildP [.slice none 0 0,.slice none 0 0] pl61 z61 rfl rfl) ?_))))
 refine W.run 1 rfl (W.sA sz61 rfl rfl (s.le f) ?_)
 intro bQ aE bR
 have aE:Blk bQ D 61 #[.slice none 0 0,.slice none 0 0]:=aE
 have bS:=L9.tb bR J N
 refine W.run 1 rfl (W.nx (WC.ret (E.thenR (E.retG3 rfl rfl (resA rfl aE ag61 (by rfl)) rfl ?_))))
 rw[bestR_bad (by unfold badR;simp[K])]
 exact⟨none,0,none,0,none,0,by simp only[digs_zero];rfl,OVec.nil _ _ _ _ _ _,by simp only[digs_zero];exact OVec.nil _ _ _ _ _ _,by simp only[digs_zero];exact OVec.nil _ _ _ _ _ _,bS⟩
end Go.Proofs.YtocheaahlpiajaaGreatDoor

namespace Go.Proofs.YtocheaahlpiajaaGreatDoor
open Tryz
open Go Go.Sx Go.Num Go.Gsp Go.Nsp Go.Msp Go.Rtp
set_option maxRecDepth 20000
def knV (q:Kn):List Value:=[.int .i64 q.p,.int .i64 q.d,.int .i64 q.a]
theorem knV_row:RowF knV 3:=⟨fun _=>rfl,fun x v hv=>by simp[knV]at hv;rcases hv with rfl|rfl|rfl<;>rfl,by decide⟩
def I64n (x:Int):Prop:= -9223372036854775808<=x/\x<=9223372036854775807
theorem apart_vec {α:Type}{w:World}{base e s:Nat}{f:α->List Value}{A:Option Addr}{m c:Nat}{xs:List α}{F:Nat->Prop}(h:OVec w base e f s A m c xs)(hn:∀g,rowOf A c=some g->¬F g):∀q,blkOf A=some q->0<m->q<w.heap.size->¬F q:=by
  intro q b d _
  have:=h.cap.1
  exact hn q (by unfold rowOf;rw[if_neg (by omega)];exact b)
theorem getD_in {α:Type}{l:List α}{z:α}{k:Nat}(h:k<l.length):l.getD k z∈l:=by
  have:l.getD k z=l[k]:=by simp[List.getD,h]
  rw[this];exact List.getElem_mem h
theorem mind_next {g:List Gsp.Edge}{l:List Kn}{k:Nat}(hk:k<l.length):(l.take (k+1)).foldl (mindS g) (fun _=>none)=mindS g ((l.take k).foldl (mindS g) (fun _=>none)) (l.getD k noKn):=by
  rw[List.take_add_one,List.foldl_append]
  simp[List.getD,hk]
theorem rledge_ok (c f t:Int)(w:World):Calls prog 121 #[.int .i64 (c),.int .i64 (f),.int .i64 (t)] w fun r w'=>r= .returned (.agg (edgeV ⟨f,t,c,1000,⟨1,0,5,1,1000⟩⟩).toArray)/\Le w w':=by
 refine enter func121 rfl rfl ?_
 have d:=Le.refl w
 refine WC.sr (W.ef rfl rfl rfl (Ef.allocA z81 fun e h i (j:Blk h e 81 (edgeV noEdge).toArray) k=>(W.nx (WC.sr (W.run 3 rfl (W.a (.buildP (polV (⟨1,0,5,1,1000⟩)) pl79 z79 rfl rfl) ?_))))))
 refine W.a (.buildP (edgeV (⟨f,t,c,1000,⟨1,0,5,1,1000⟩⟩)) pl81 z81 rfl rfl) ?_
 refine W.ef0 rfl rfl (Ef.storeAll sz81 (by rfl) rfl rfl j (by simp only[List.size_toArray,edgeV_row.len]) (edgeV_row.one (⟨f,t,c,1000,⟨1,0,5,1,1000⟩⟩)) ?_)
 intro l b m
 have b:Blk l e 81 (edgeV (⟨f,t,c,1000,⟨1,0,5,1,1000⟩⟩)).toArray:=b
 refine W.nx (WC.ret (E.retG1 rfl (resA rfl b ag81 (by rfl)) ?_))
 exact⟨rfl,((d.trans k).tb m d i)⟩

theorem few_ok {A A2:Option Addr}{n c n2 c2:Nat}(w:World):Calls prog 49 #[.slice A n c,.slice A2 n2 c2] w fun r w'=>r= .returned (.bool (decide (n<=12)&&decide (n2<=20)))/\Le w w':=by
 refine enter func49 rfl rfl ?_
 have b:=Le.refl w
 refine WC.sr (W.run 1 rfl (W.nx (WC.sr (W.run 1 rfl (W.r (.len underlying32 rfl) ?_)))))
 refine W.run 1 rfl ?_
 by_cases d:((n:Nat):Int)<=12
 ·refine W.dt d rfl rfl (W.run 1 rfl (W.g (.len underlying96 rfl) ?_))
  refine W.run 3 rfl (W.nx (WC.ret (E.retG1 rfl rfl ?_)))
  exact⟨rB (Bool.eq_iff_iff.2 (by simp only[Bool.and_eq_true,decide_eq_true_eq,Bool.false_eq_true,false_iff,not_and];omega)),b⟩
 refine W.df d rfl rfl (W.run 5 rfl (W.nx (WC.ret (E.retG1 rfl rfl ?_))))
 exact⟨rB (Bool.eq_iff_iff.2 (by simp only[Bool.and_eq_true,decide_eq_true_eq,Bool.false_eq_true,false_iff,not_and];omega)),b⟩

theorem mind_ok {A A2:Option Addr}{n c n2 c2:Nat}{g:List Gsp.Edge}{l:List Kn}(w:World)(hV:Vec w edgeV 9 A n g)(hL:Vec w knV 3 A2 n2 l)(hgl:∀q∈l,I64n q.d)(hn:n<=9223372036854775807)(hn2:n2<=9223372036854775807):Calls prog 50 #[.slice A n c,.slice A2 n2 c2] w fun r w'=>∃gp F,r= .returned (.pointer (some ⟨gp,0,none⟩))/\MPool w' w.heap.size gp F (mindG g l)/\Le w w':=by
 have hl:=hV.1;have Q:=hL.1
 refine enter func50 rfl rfl ?_
 have u:=Le.refl w
 refine WC.sr (W.run 1 rfl (W.nx (WC.sr (W.cl go64 rfl rfl (new_mind w) ?_))))
 rintro _ R ⟨H,S,rfl,T,U⟩
 refine W.run 1 rfl (W.nx (WC.seq (WC.sr (W.run 1 rfl (W.a (.dec (.isNilP (by kernel_rfl) rfl) rfl) ?_)))))
 refine W.nx (WC.condF rfl (WC.sn (WC.seq (WC.sr (W.run 1 rfl (W.nx (WC.block (WC.loop (ι:=Nat) (fun k=>[(0,.slice A n c),(1,.slice A2 n2 c2),(5,.pointer (some ⟨H,0,none⟩)),(6,.int .i64 (((k:Nat):Int)))]) (fun k f=>(k<=n2)/\Le w f/\R.heap.size<=f.heap.size/\MPool f w.heap.size H S ((l.take k).foldl (mindS g) (fun _=>none))) (fun k=>n2-k) 0 ?_ ?_ ?_))))))))
 ·exact .cons rfl (.cons rfl (.cons rfl (.cons rfl (.nil _))))
 ·exact⟨Nat.zero_le _,(u.trans U),Nat.le_refl _,T⟩
 rintro k f ⟨hk,e,m,b⟩
 refine WC.seq (WC.sr (W.run 2 rfl (W.r (.len underlying96 rfl) ?_)))
 refine W.run 1 rfl (W.nx ?_)
 by_cases I:((k:Nat):Int)<((n2:Nat):Int)
 ·refine WC.condY rfl (decide_eq_true I) ?_
  have V:=hgl (l.getD k noKn) (getD_in (z:=noKn) (by omega))
  unfold I64n at V
  have hnx:=mind_next (g:=g) (l:=l) (k:=k) (by omega)
  refine WC.sn (WC.seq (WC.block (WC.seq (WC.sr (W.run 2 rfl (W.a (.idxS (k) underlying96 sz199 rfl rfl (hL.isSome knV_row (by omega)) (rfl) (by omega)) ?_))))))
  refine W.a (.vfield fa199_0 (hL.isSome knV_row (by omega)) rfl) ?_
  refine W.r (.vcell (j:=k) (o:=0) (v:= .int .i64 ((l.getD k noKn).p)) na3 rfl (hL.le e) knV_row (getS l noKn (by omega)) rfl) ?_
  refine W.run 1 rfl ?_
  by_cases J:((l.getD k noKn).p)<0
  ·refine W.dt J rfl rfl (W.run 9 rfl (W.nx (WC.condT rfl ?_)))
   have hms:((l.take (k+1)).foldl (mindS g) (fun _=>none))=((l.take k).foldl (mindS g) (fun _=>none)):=(by rw[hnx];unfold mindS;exact if_pos (by omega))
   refine WC.exit (E.thenX (E.blkH (E.thenN (WC.region (W.run 1 rfl (W.a (.add rfl rfl (by omega)) ?_))))))
   refine W.run 1 rfl (W.nil (E.again (k+1) (.cons rfl (.cons rfl (.cons rfl (.cons rfl (.nil _))))) ?_ ?_))
   ·exact⟨by omega,e,by have:=m;omega,(by rw[hnx];unfold mindS;first|(rw[if_pos (by omega)];exact b)|(rw[if_neg (by omega),if_pos (by omega)];exact b)|(rw[if_neg (by omega),if_neg (by omega)];exact b))⟩
   first|omega|(simp only[];omega)
  refine W.df J rfl rfl (W.run 2 rfl (W.g (Any.rd (.idxS (k) underlying96 sz199 rfl rfl (hL.isSome knV_row (by omega)) (rfl) (by omega)) _) ?_))
  refine W.g (Any.rd (.vfield fa199_0 (hL.isSome knV_row (by omega)) rfl) _) ?_
  refine W.g (.vcell (j:=k) (o:=0) (v:= .int .i64 ((l.getD k noKn).p)) na3 rfl (hL.le e) knV_row (getS l noKn (by omega)) rfl) ?_
  refine W.run 1 rfl (W.g (.len underlying32 rfl) ?_)
  refine W.run 2 rfl (W.nx ?_)
  by_cases c2:((n:Nat):Int)<=((l.getD k noKn).p)
  ·refine WC.condY rfl (decide_eq_true c2) ?_
   have hms:((l.take (k+1)).foldl (mindS g) (fun _=>none))=((l.take k).foldl (mindS g) (fun _=>none)):=(by rw[hnx];unfold mindS;exact if_pos (by omega))
   refine WC.exit (E.thenX (E.blkH (E.thenN (WC.region (W.run 1 rfl (W.a (.add rfl rfl (by omega)) ?_))))))
   refine W.run 1 rfl (W.nil (E.again (k+1) (.cons rfl (.cons rfl (.cons rfl (.cons rfl (.nil _))))) ?_ ?_))
   ·exact⟨by omega,e,by have:=m;omega,(by rw[hnx];unfold mindS;first|(rw[if_pos (by omega)];exact b)|(rw[if_neg (by omega),if_pos (by omega)];exact b)|(rw[if_neg (by omega),if_neg (by omega)];exact b))⟩
   first|omega|(simp only[];omega)
  refine WC.condN rfl (decide_eq_false c2) (WC.sn (WC.sr (W.run 2 rfl (W.a (.idxS (k) underlying96 sz199 rfl rfl (hL.isSome knV_row (by omega)) (rfl) (by omega)) ?_))))
  refine W.a (.vfield fa199_1 (hL.isSome knV_row (by omega)) rfl) ?_
  refine W.r (.vcell (j:=k) (o:=1) (v:= .int .i64 ((l.getD k noKn).d)) na3 rfl (hL.le e) knV_row (getS l noKn (by omega)) rfl) ?_
  refine W.a (.and1 rfl rfl (by omega)) ?_
  refine W.run 1 rfl (W.nx ?_)
  by_cases K:(((l.getD k noKn).d)%2)=0
  ·refine WC.condY rfl (decide_eq_true K) (WC.draw [0,1,2,3,4,5,6,7,8,9,10,11,12,13,14] mixed (by kernel_rfl) fun X x=>?_)
   have s:=e.trans x
   refine G.run 4 rfl (G.a rfl (.idxS (k) underlying96 sz199 rfl rfl (hL.isSome knV_row (by omega)) (rfl) (by omega)) ?_)
   refine G.a rfl (.vfield fa199_0 (hL.isSome knV_row (by omega)) rfl) ?_
   refine G.r rfl (.vcell (j:=k) (o:=0) (v:= .int .i64 ((l.getD k noKn).p)) na3 rfl (hL.le s) knV_row (getS l noKn (by omega)) rfl) ?_
   refine G.a rfl (.idxS ((l.getD k noKn).p.toNat) underlying32 sz81 rfl rfl (hV.isSome edgeV_row (by omega)) (by omega) (by omega)) ?_
   refine G.r rfl (.vload ag81 rfl (hV.le s) edgeV_row (getS g noEdge (by omega))) ?_
   refine G.run 2 rfl (G.a rfl (.idxS (k) underlying96 sz199 rfl rfl (hL.isSome knV_row (by omega)) (rfl) (by omega)) ?_)
   refine G.a rfl (.vfield fa199_2 (hL.isSome knV_row (by omega)) rfl) ?_
   refine G.r rfl (.vcell (j:=k) (o:=2) (v:= .int .i64 ((l.getD k noKn).a)) na3 rfl (hL.le s) knV_row (getS l noKn (by omega)) rfl) ?_
   have L:=(b.le x)
   refine G.ef rfl rfl rfl rfl rfl (Ef.call go80 rfl rfl (fail_mind (g.getD ((l.getD k noKn).p.toNat) noEdge) ((l.getD k noKn).a) L) ?_)
   rintro _ Y ⟨rfl,y,Z,N⟩
   refine⟨_,rfl,?_⟩
   refine noT (by kernel_rfl) (G.nil (E.blkN (E.thenN (WC.region (W.run 1 rfl (W.a (.add rfl rfl (by omega)) ?_))))))
   refine W.run 1 rfl (W.nil (E.again (k+1) (.cons rfl (.cons rfl (.cons rfl (.cons rfl (.nil _))))) ?_ ?_))
   ·exact⟨by omega,(s.chP_then N (fun i hi=>Nat.le_trans u.size (L.old hi))),by have:=m;have:=x.size;have:=N.size;omega,(by rw[hnx];unfold mindS;first|(rw[if_pos (by omega)];exact y)|(rw[if_neg (by omega),if_pos (by omega)];exact y)|(rw[if_neg (by omega),if_neg (by omega)];exact y))⟩
   first|omega|(simp only[];omega)
  refine WC.condN rfl (decide_eq_false K) (WC.draw [0,1,2,3,4,5,6,7,8,9,10,11,12,13,14] mixed (by kernel_rfl) fun aa C=>?_)
  have t:=e.trans C
  refine G.run 4 rfl (G.a rfl (.idxS (k) underlying96 sz199 rfl rfl (hL.isSome knV_row (by omega)) (rfl) (by omega)) ?_)
  refine G.a rfl (.vfield fa199_0 (hL.isSome knV_row (by omega)) rfl) ?_
  refine G.r rfl (.vcell (j:=k) (o:=0) (v:= .int .i64 ((l.getD k noKn).p)) na3 rfl (hL.le t) knV_row (getS l noKn (by omega)) rfl) ?_
  refine G.a rfl (.idxS ((l.getD k noKn).p.toNat) underlying32 sz81 rfl rfl (hV.isSome edgeV_row (by omega)) (by omega) (by omega)) ?_
  refine G.r rfl (.vload ag81 rfl (hV.le t) edgeV_row (getS g noEdge (by omega))) ?_
  refine G.run 2 rfl (G.a rfl (.idxS (k) underlying96 sz199 rfl rfl (hL.isSome knV_row (by omega)) (rfl) (by omega)) ?_)
  refine G.a rfl (.vfield fa199_2 (hL.isSome knV_row (by omega)) rfl) ?_
  refine G.r rfl (.vcell (j:=k) (o:=2) (v:= .int .i64 ((l.getD k noKn).a)) na3 rfl (hL.le t) knV_row (getS l noKn (by omega)) rfl) ?_
  have O:=(b.le C)
  refine G.ef rfl rfl rfl rfl rfl (Ef.call go81 rfl rfl (pass_mind (g.getD ((l.getD k noKn).p.toNat) noEdge) ((l.getD k noKn).a) O) ?_)
  rintro _ ab ⟨rfl,D,ac,P⟩
  refine⟨_,rfl,?_⟩
  refine noT (by kernel_rfl) (G.nil (E.blkN (E.thenN (WC.region (W.run 1 rfl (W.a (.add rfl rfl (by omega)) ?_))))))
  refine W.run 1 rfl (W.nil (E.again (k+1) (.cons rfl (.cons rfl (.cons rfl (.cons rfl (.nil _))))) ?_ ?_))
  ·exact⟨by omega,(t.chP_then P (fun i hi=>Nat.le_trans u.size (O.old hi))),by have:=m;have:=C.size;have:=P.size;omega,(by rw[hnx];unfold mindS;first|(rw[if_pos (by omega)];exact D)|(rw[if_neg (by omega),if_pos (by omega)];exact D)|(rw[if_neg (by omega),if_neg (by omega)];exact D))⟩
  first|omega|(simp only[];omega)
 refine WC.condN rfl (decide_eq_false I) (WC.exit (E.thenX (E.thenX (E.blkH (E.thenN (WC.sr (W.run 2 rfl (W.nx (WC.ret (E.retG1 rfl rfl ?_))))))))))
 have hke:k=n2:=(by omega)
 subst hke
 rw[show MPool=MPool from rfl]
 exact⟨_,_,rfl,(by have h:=b;rw[<-Q,List.take_length]at h;exact h),e⟩


end Go.Proofs.YtocheaahlpiajaaGreatDoor

namespace Go.Sx
open Go Go.RowKit
section
variable {α β : Type} {w w' : World} {b1 b2 e1 e2 s1 s2 n1 n2 c d : Nat} {f : α -> List Value} {g : β -> List Value} {A B : Option Addr} {xs : List α} {ys : List β}
end
end Go.Sx
namespace Go.Proofs.YtocheaahlpiajaaGreatDoor
open Go Go.Sx Go.Num Go.Gsp Go.Nsp Go.Msp Go.Rtp
set_option maxRecDepth 20000
structure PaR where
  amt : Int
  wA : Option Addr
  wN : Nat
  wC : Nat
  sA : Option Addr
  sN : Nat
  sC : Nat
  tA : Option Addr
  tN : Nat
  tC : Nat
def noPaR:PaR:=⟨0,none,0,0,none,0,0,none,0,0⟩
structure PaAt (w : World) (bs : Nat) (r : PaR) (p : Prt) : Prop where
  amt : r.amt = p.amt
  way : OVec w bs 81 edgeV 9 r.wA r.wN r.wC p.way
  sent : OVec w bs 3 iv 1 r.sA r.sN r.sC p.sent
  till : OVec w bs 3 iv 1 r.tA r.tN r.tC p.till
def PasAt (w:World)(bs:Nat)(rs:List PaR)(ps:List Prt):Prop:=rs.length=ps.length/\∀i,i<ps.length->PaAt w bs (rs.getD i noPaR) (ps.getD i noPrt)
section
variable {w w' : World} {bs bs' : Nat} {r : PaR} {p : Prt} {rs : List PaR} {ps : List Prt} {F : Nat -> Prop}
theorem PaAt.le (h:PaAt w bs r p)(k:Le w w'):PaAt w' bs r p:=⟨h.1,h.2.le k,h.3.le k,h.4.le k⟩
theorem PaAt.mono (h:PaAt w bs r p)(k:bs'<=bs):PaAt w bs' r p:=⟨h.1,h.2.mono k,h.3.mono k,h.4.mono k⟩
theorem PaAt.chP (h:PaAt w bs r p)(k:ChP w w' F)(hF:∀i,F i->i<bs):PaAt w' bs r p:=
  ⟨h.1,h.2.chP k fun g hg hf=>by have:=(h.2.row hg).1;have:=hF g hf;omega,h.3.chP k fun g hg hf=>by have:=(h.3.row hg).1;have:=hF g hf;omega,h.4.chP k fun g hg hf=>by have:=(h.4.row hg).1;have:=hF g hf;omega⟩
theorem PasAt.nil (w:World)(bs:Nat):PasAt w bs [] []:=⟨rfl,fun i hi=>absurd hi (Nat.not_lt_zero _)⟩
theorem PasAt.le (h:PasAt w bs rs ps)(k:Le w w'):PasAt w' bs rs ps:=⟨h.1,fun i hi=>(h.2 i hi).le k⟩
theorem PasAt.mono (h:PasAt w bs rs ps)(k:bs'<=bs):PasAt w bs' rs ps:=⟨h.1,fun i hi=>(h.2 i hi).mono k⟩
theorem PasAt.chP (h:PasAt w bs rs ps)(k:ChP w w' F)(hF:∀i,F i->i<bs):PasAt w' bs rs ps:=⟨h.1,fun i hi=>(h.2 i hi).chP k hF⟩
theorem getD_app1 {α:Type}{z x:α}{l:List α}{i:Nat}(h:i<l.length):(l++[x]).getD i z=l.getD i z:=by
  rw[List.getD_eq_getElem?_getD,List.getD_eq_getElem?_getD,List.getElem?_append_left h]
theorem getD_app2 {α:Type}{z x:α}{l:List α}:(l++[x]).getD l.length z=x:=by
  rw[List.getD_eq_getElem?_getD,List.getElem?_append_right (Nat.le_refl _),Nat.sub_self]
  rfl
theorem PasAt.push (h:PasAt w bs rs ps)(k:PaAt w bs r p):PasAt w bs (rs++[r]) (ps++[p]):=by
  refine⟨by simp[h.1],fun i hi=>?_⟩
  simp only[List.length_append,List.length_cons,List.length_nil]at hi
  by_cases e:i<ps.length
  · rw[getD_app1 e,getD_app1 (by rw[h.1];exact e)]
    exact h.2 i e
  · have:i=ps.length:=by omega
    subst this
    rw[getD_app2,<-h.1,getD_app2]
    exact k
theorem PasAt.cast {ps':List Prt}(h:PasAt w bs rs ps)(e:ps=ps'):PasAt w bs rs ps':=e▸h
end
end Go.Proofs.YtocheaahlpiajaaGreatDoor

namespace Go.Proofs.YtocheaahlpiajaaGreatDoor
open Tryz
open Go Go.Sx Go.Hsp Go.Num Go.Osp Go.Gsp Go.Rtp
set_option maxRecDepth 20000
set_option maxHeartbeats 1000000
structure PlR where
  pA : Option Addr
  pN : Nat
  pC : Nat
  bA : Option Addr
  bN : Nat
  bC : Nat
def noPlR:PlR:=⟨none,0,0,none,0,0⟩
def plV (r:PlR):List Value:=[.slice r.pA r.pN r.pC,.slice r.bA r.bN r.bC]
theorem plV_row:RowF plV 2:=⟨fun _=>rfl,fun x v hv=>by simp[plV]at hv;rcases hv with rfl|rfl<;>rfl,by decide⟩
structure PlnAt (w : World) (bs : Nat) (r : PlR) (p : Pln) : Prop where
  pts : OVec w bs 43 pv1 1 r.pA r.pN r.pC p.pts
  bl : OVec w bs 28 pv1 1 r.bA r.bN r.bC p.bl
def PlnsAt (w:World)(bs:Nat)(rs:List PlR)(ps:List Pln):Prop:=rs.length=ps.length/\∀i,i<ps.length->PlnAt w bs (rs.getD i noPlR) (ps.getD i noPln)
section
variable {w w' : World} {bs bs' : Nat} {r : PlR} {p : Pln} {rs : List PlR} {ps : List Pln} {F : Nat -> Prop}
theorem PlnAt.le (h:PlnAt w bs r p)(k:Le w w'):PlnAt w' bs r p:=⟨h.1.le k,h.2.le k⟩
theorem PlnAt.mono (h:PlnAt w bs r p)(k:bs'<=bs):PlnAt w bs' r p:=⟨h.1.mono k,h.2.mono k⟩
theorem PlnAt.chP (h:PlnAt w bs r p)(k:ChP w w' F)(hF:∀i,F i->i<bs):PlnAt w' bs r p:=
  ⟨h.1.chP k fun g hg hf=>by have:=(h.1.row hg).1;have:=hF g hf;omega,h.2.chP k fun g hg hf=>by have:=(h.2.row hg).1;have:=hF g hf;omega⟩
theorem PlnsAt.nil (w:World)(bs:Nat):PlnsAt w bs [] []:=⟨rfl,fun i hi=>absurd hi (Nat.not_lt_zero _)⟩
theorem PlnsAt.le (h:PlnsAt w bs rs ps)(k:Le w w'):PlnsAt w' bs rs ps:=⟨h.1,fun i hi=>(h.2 i hi).le k⟩
theorem PlnsAt.mono (h:PlnsAt w bs rs ps)(k:bs'<=bs):PlnsAt w bs' rs ps:=⟨h.1,fun i hi=>(h.2 i hi).mono k⟩
theorem PlnsAt.chP (h:PlnsAt w bs rs ps)(k:ChP w w' F)(hF:∀i,F i->i<bs):PlnsAt w' bs rs ps:=⟨h.1,fun i hi=>(h.2 i hi).chP k hF⟩
theorem PlnsAt.push (h:PlnsAt w bs rs ps)(k:PlnAt w bs r p):PlnsAt w bs (rs++[r]) (ps++[p]):=by
  refine⟨by simp[h.1],fun i hi=>?_⟩
  simp only[List.length_append,List.length_cons,List.length_nil]at hi
  by_cases e:i<ps.length
  · rw[getD_app1 e,getD_app1 (by rw[h.1];exact e)]
    exact h.2 i e
  · have:i=ps.length:=by omega
    subst this
    rw[getD_app2,<-h.1,getD_app2]
    exact k
theorem PlnsAt.cast {ps':List Pln}(h:PlnsAt w bs rs ps)(e:ps=ps'):PlnsAt w bs rs ps':=e▸h
end
theorem pnewF_ok (p:Nat)(hp:p<18446744073709551616)(seed:List Byte)(n:Nat)(h:¬(right p=true/\p≠1/\1<=n/\n<=8))(w:World):Calls prog 19 #[.int .u64 (((p:Nat):Int)),.agg (seed.map u8v).toArray,.int .i64 (((n:Nat):Int))] w fun r w'=>r= .returned (.tuple #[.agg #[.slice none 0 0,.slice none 0 0],.bool false])/\Le w w':=by
 refine enter func19 rfl rfl (WC.sr (W.ef rfl rfl rfl (Ef.boxA rfl fun K L N O x=>?_)))
 have b:=(Le.refl w).trans x
 refine W.ef rfl rfl rfl (Ef.allocA z41 fun c o e (f:Blk o c 41 (plV noPlR).toArray) y=>(W.run 1 rfl (W.nx (WC.seq (WC.sr (W.run 1 rfl (W.cl go75 rfl rfl (pright_ok p (by omega) o) ?_)))))))
 rintro _ P ⟨rfl,d⟩
 have i:=(b.trans y).trans d
 refine W.run 1 rfl ?_
 by_cases s:(right p)=true
 ·refine W.a (.dec (.move rfl) (congrArg not (s))) ?_
  refine W.run 3 rfl ?_
  by_cases t:((p:Nat):Int)=1
  ·refine W.dt t rfl rfl (W.run 7 rfl (W.nx (WC.condT rfl (WC.sr (W.a (.buildP (plV noPlR) pl41 z41 rfl rfl) ?_)))))
   refine W.ef0 rfl rfl (Ef.storeAll sz41 (by rfl) rfl rfl (f.le d) (by simp only[List.size_toArray,plV_row.len]) (plV_row.one noPlR) ?_)
   intro z j A
   have j:Blk z c 41 (plV noPlR).toArray:=j
   refine W.run 1 rfl (W.nx (WC.ret (E.thenR (E.retG2 rfl (resA rfl j ag41 (by rfl)) rfl ?_))))
   exact⟨rfl,(i.tb A b e)⟩
  refine W.df t rfl rfl (W.run 3 rfl ?_)
  by_cases u:((n:Nat):Int)<1
  ·refine W.dt u rfl rfl (W.run 3 rfl (W.nx (WC.condT rfl (WC.sr (W.a (.buildP (plV noPlR) pl41 z41 rfl rfl) ?_)))))
   refine W.ef0 rfl rfl (Ef.storeAll sz41 (by rfl) rfl rfl (f.le d) (by simp only[List.size_toArray,plV_row.len]) (plV_row.one noPlR) ?_)
   intro C k D
   have k:Blk C c 41 (plV noPlR).toArray:=k
   refine W.run 1 rfl (W.nx (WC.ret (E.thenR (E.retG2 rfl (resA rfl k ag41 (by rfl)) rfl ?_))))
   exact⟨rfl,(i.tb D b e)⟩
  refine W.df u rfl rfl (W.run 3 rfl (W.nx ?_))
  by_cases v:8<((n:Nat):Int)
  ·refine WC.condY rfl (decide_eq_true v) (WC.sr (W.a (.buildP (plV noPlR) pl41 z41 rfl rfl) ?_))
   refine W.ef0 rfl rfl (Ef.storeAll sz41 (by rfl) rfl rfl (f.le d) (by simp only[List.size_toArray,plV_row.len]) (plV_row.one noPlR) ?_)
   intro F l H
   have l:Blk F c 41 (plV noPlR).toArray:=l
   refine W.run 1 rfl (W.nx (WC.ret (E.thenR (E.retG2 rfl (resA rfl l ag41 (by rfl)) rfl ?_))))
   exact⟨rfl,(i.tb H b e)⟩
  refine WC.condN rfl (decide_eq_false v) ?_
  exact absurd ⟨by assumption,by omega,by omega,by omega⟩ h
 refine W.a (.dec (.move rfl) (congrArg not ((Bool.eq_false_iff.2 s)))) ?_
 refine W.run 11 rfl (W.nx (WC.condT rfl (WC.sr (W.a (.buildP (plV noPlR) pl41 z41 rfl rfl) ?_))))
 refine W.ef0 rfl rfl (Ef.storeAll sz41 (by rfl) rfl rfl (f.le d) (by simp only[List.size_toArray,plV_row.len]) (plV_row.one noPlR) ?_)
 intro I m J
 have m:Blk I c 41 (plV noPlR).toArray:=m
 refine W.run 1 rfl (W.nx (WC.ret (E.thenR (E.retG2 rfl (resA rfl m ag41 (by rfl)) rfl ?_))))
 exact⟨rfl,(i.tb J b e)⟩

end Go.Proofs.YtocheaahlpiajaaGreatDoor

