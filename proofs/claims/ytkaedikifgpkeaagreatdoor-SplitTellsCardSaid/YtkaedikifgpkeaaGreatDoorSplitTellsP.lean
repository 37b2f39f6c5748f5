/- SplitTells: for every input the law answers true and leaves its arguments as they were. -/
import Derived.Test.YtkaedikifgpkeaaGreatDoorSplitTellsO
import Derived.Laws.Cover3
set_option linter.unusedVariables false
set_option linter.unusedSimpArgs false
namespace Go.Sx
theorem Any.notNil {P:Program}{env:Env}{n:Nat}{d:Option Nat}{T:TypeId}{p:String}{af:Array Edge}{gd:Option (Nat×Bool)}{t e ty:TypeId}{x:Operand}{A:Option Addr}{l c:Nat}(ht:P.underlying t=some (.slice e))(hx:ev env x=some (.slice A l c)):
    Any P env n ⟨d,.binOp .neq t x (.const (.slice none 0 0)) ty,T,p,af,gd⟩ (.bool !A.isNone):=
  .bin hx rfl (fun _=>rfl) fun w=>run_neq_slice_nil w t e A l c ht
end Go.Sx
namespace Go.Proofs.YtkaedikifgpkeaaGreatDoor
open Tryz
open Go Go.Sx Go.Num Go.fO Go.oF Go.uI Go.tH
set_option maxRecDepth 20000
set_option maxHeartbeats 4000000
def VS (w:World)(bs gb:Nat)(b:kY)(Aw:Option Addr)(cw:Nat)(An:Option Addr)(cn:Nat)(Ad:Option Addr)(cd:Nat):Prop:=
  fA w gb 122 #[.slice Aw b.way.length cw,.slice An (eP b.fQ.n).length cn,.slice Ad (eP b.fQ.d).length cd,.int .i64 b.sent]/\eU w bs 66 fD 9 Aw b.way.length cw b.way/\eU w bs 143 dv 1 An (eP b.fQ.n).length cn (eP b.fQ.n)/\eU w bs 143 dv 1 Ad (eP b.fQ.d).length cd (eP b.fQ.d)/\(b.way=[]->Aw=none)/\b.way.length<=8/\(eP b.fQ.n).length<=100/\(eP b.fQ.d).length<=100
def wH (w:World)(bs gb:Nat)(b:kY):Prop:=∃Aw cw An cn Ad cd,VS w bs gb b Aw cw An cn Ad cd
structure ET (w:World)(base gp:Nat)(F:Nat->Prop)(m:MF)(Ag:Option Addr)(ng cg:Nat)(g:List fO.Edge)(fr to a x:Int)(b2 b3 b4 gb b6 b7 b8 b9:Nat):Prop where
  h2:fA w b2 30 #[.pointer (some ⟨gp,0,none⟩)]
  h3:fA w b3 3 #[.int .i64 a]
  h4:fA w b4 3 #[.int .i64 x]
  h6:fA w b6 3 #[.int .i64 fr]
  h7:fA w b7 22 #[.slice Ag ng cg]
  h8:fA w b8 3 #[.int .i64 to]
  h9:fA w b9 123 #[.func (.func 69) #[] #[.pointer (some ⟨b2,0,none⟩),.pointer (some ⟨b3,0,none⟩),.pointer (some ⟨b4,0,none⟩),.pointer (some ⟨gb,0,none⟩),.pointer (some ⟨b6,0,none⟩),.pointer (some ⟨b7,0,none⟩),.pointer (some ⟨b8,0,none⟩),.pointer (some ⟨b9,0,none⟩)]]
  hP:iN w base gp F m
  hg:Vec w fD 9 Ag ng g
  n2:b2≠gb
  n3:b3≠gb
  n4:b4≠gb
  n6:b6≠gb
  n7:b7≠gb
  n8:b8≠gb
  n9:b9≠gb
  hPg:∀k,F k->¬k=gb
  hgg:∀q,kT Ag=some q->0<ng->q<w.heap.size->¬q=gb
  R8:ng<=1000000
theorem ET.iQ {w w':World}{base gp:Nat}{F:Nat->Prop}{m:MF}{Ag:Option Addr}{ng cg:Nat}{g:List fO.Edge}{fr to a x:Int}{b2 b3 b4 gb b6 b7 b8 b9:Nat}(h:ET w base gp F m Ag ng cg g fr to a x b2 b3 b4 gb b6 b7 b8 b9)(hc:jU w w' (fun k=>k=gb)):ET w' base gp F m Ag ng cg g fr to a x b2 b3 b4 gb b6 b7 b8 b9:=
  ⟨h.h2.iQ hc h.n2,h.h3.iQ hc h.n3,h.h4.iQ hc h.n4,h.h6.iQ hc h.n6,h.h7.iQ hc h.n7,h.h8.iQ hc h.n8,h.h9.iQ hc h.n9,h.hP.iQ hc h.hPg,h.hg.iQ hc h.hgg,h.n2,h.n3,h.n4,h.n6,h.n7,h.n8,h.n9,h.hPg,fun q b c _=>h.hgg q b c (h.hg.jc eQ c b),h.R8⟩
theorem jC {g:List fO.Edge}{m:MF}{fr to a x:Int}{k:Nat}{way:List fO.Edge}{at_:Int}{b:kY}(h:xL way (fM m way a x) b):jd g m fr to a x (k+1) way at_ b=b:=by rw[jd,if_pos h]
theorem EU {g:List fO.Edge}{m:MF}{fr to a x:Int}{k:Nat}{way:List fO.Edge}{at_:Int}{b:kY}(h:¬xL way (fM m way a x) b)(h1:at_=fr)(h2:b.way=[]\/u7 (IZ way (fM m way a x)) b=true):jd g m fr to a x (k+1) way at_ b=IZ way (fM m way a x):=by rw[jd,if_neg h,if_pos h1,if_pos h2]
theorem lq {g:List fO.Edge}{m:MF}{fr to a x:Int}{k:Nat}{way:List fO.Edge}{at_:Int}{b:kY}(h:¬xL way (fM m way a x) b)(h1:at_=fr)(h2:¬(b.way=[]\/u7 (IZ way (fM m way a x)) b=true)):jd g m fr to a x (k+1) way at_ b=b:=by rw[jd,if_neg h,if_pos h1,if_neg h2]
theorem rO {g:List fO.Edge}{m:MF}{fr to a x:Int}{k:Nat}{way:List fO.Edge}{at_:Int}{b:kY}(h:¬xL way (fM m way a x) b)(h1:at_≠fr)(h2:way.length=8):jd g m fr to a x (k+1) way at_ b=b:=by rw[jd,if_neg h,if_neg h1,if_pos h2]
theorem Rx {g:List fO.Edge}{m:MF}{fr to a x:Int}{k:Nat}{way:List fO.Edge}{at_:Int}{b:kY}(h:¬xL way (fM m way a x) b)(h1:at_≠fr)(h2:way.length≠8):jd g m fr to a x (k+1) way at_ b=(ZZ g at_).foldl (D6 (jd g m fr to a x k) way to) b:=by rw[jd,if_neg h,if_neg h1,if_neg h2]
theorem gX {way:List fO.Edge}{r:Fr×Int×Int}{b:kY}{n:Nat}(h:¬0<((n:Nat):Int))(hl:way.length=n):¬xL way r b:=fun hc=>hc.1 (List.eq_nil_of_length_eq_zero (by omega))
theorem fJ {way:List fO.Edge}{r:Fr×Int×Int}{b:kY}(h1:¬r.2.2≠0)(h2:¬(((eP r.1.n).length:Nat):Int)=0)(h3:b.way=[]\/¬kQ (fE r.1) (fE b.fQ)<0):¬xL way r b:=by
  rintro⟨_,h|h|h⟩
  · exact h1 h
  · rw[h,eT]at h2;exact h2 rfl
  · rcases h3 with k|k
    · exact h.1 k
    · exact k h.2
theorem nk {way:List fO.Edge}{r:Fr×Int×Int}{b:kY}{n:Nat}(h:0<((n:Nat):Int))(hl:way.length=n)(hc:r.2.2≠0\/(((eP r.1.n).length:Nat):Int)=0\/(b.way≠[]/\kQ (fE r.1) (fE b.fQ)<0)):xL way r b:=by
  refine⟨fun hh=>by rw[hh]at hl;simp at hl;omega,?_⟩
  rcases hc with k|k|k
  · exact .inl k
  · exact .inr (.inl (Nat.eq_zero_of_not_pos fun hp=>by have:=sF hp;omega))
  · exact .inr (.inr k)
theorem yT {α:Type}{f:kY->α->kY}{b:kY}{l:List α}{z:α}{k:Nat}(hk:k<l.length):(l.take (k+1)).foldl f b=f ((l.take k).foldl f b) (l.getD k z):=by
  rw[List.take_add_one,List.foldl_append]
  simp[List.getD,hk]
theorem UE (y:fO.Edge){ge:Nat}{e:fO.Edge}(w:World)(hge:fA w ge 66 (fD e).toArray):Calls prog 74 #[.agg (fD y).toArray,.pointer (some ⟨ge,0,none⟩)] w fun r w'=>r= .returned (.bool (decide (y.f=e.f)))/\Le w w':=by
 refine enter func74 rfl rfl (Sr (W.ef rfl rfl rfl (Ef.iM rfl fun c d j (h:fA d c 66 (fD y).toArray) i=>?_)))
 have b:=(Le.refl w).trans i
 refine Wn 1 rfl (Nx (Sr (Wa (.eZ iX rfl) rfl (Wr (.fe (v:= .int .i64 y.f) gM rfl h rfl) rfl (Wa (.eZ iX rfl) rfl (Wr (.fe (v:= .int .i64 e.f) gM rfl (hge.le b) rfl) rfl (Wn 2 rfl (Nx (Rt ?_)))))))))
 refine E.fu rfl rfl ?_
 exact⟨rB (by simp[]),b⟩

theorem DX {A:Option Addr}{n c:Nat}{xs:List fO.Edge}{F:Nat}{oP:Array Value}(pr:fO.Edge->Bool)(hgo:fK prog F)(w:World)(hV:Vec w fD 9 A n xs)(hn:n<=1000000)(hf:∀(e:fO.Edge) (w1:World),Le w w1->Calls prog F (#[.agg (fD e).toArray]++oP) w1 fun r w2=>r= .returned (.bool (pr e))/\Le w1 w2):Calls prog 73 #[.slice A n c,.func (.func F) #[] oP] w fun r w'=>r= .returned (.bool (xs.any pr))/\Le w w':=by
 refine enter func73 rfl rfl ?_
 have b:=Le.refl w
 refine Sr (Wn 1 rfl (Nx (Sr (Wn 2 rfl (W.cl YW rfl rfl (QB pr hgo w (hV.le b) (by omega) (fun e w1 hl=>hf e w1 (b.trans hl))) ?_)))))
 rintro _ f ⟨rfl,d⟩
 refine Wn 2 rfl (Nx (Rt (E.fu rfl rfl ?_)))
 exact⟨rB (by unfold NL;cases hx:xs.any pr<;>simp),(b.trans d)⟩

theorem Oq {bs base gp ng cg b2 b3 b4 gb b6 b7 b8 b9:Nat}{F:Nat->Prop}{m:MF}{Ag:Option Addr}{g:List fO.Edge}{fr to a x:Int}{k:Nat}{A:Option Addr}{n c:Nat}{way:List fO.Edge}(at_:Int){b:kY}{Aw An Ad:Option Addr}{cw cn cd:Nat}(w:World)(hE:ET w base gp F m Ag ng cg g fr to a x b2 b3 b4 gb b6 b7 b8 b9)(ih:∀(Gj:List fO.Edge) {A':Option Addr} {n' c':Nat} (hk1:1<=k) (at':Int) (b':kY) (w1:World),jU w w1 (fun k=>k=gb)->eU w1 bs 66 fD 9 A' n' c' Gj->n'+k=9->1<=n'->rowOf A' c'≠some gb->wH w1 bs gb b'->Calls prog 69 #[.slice A' n' c',.int .i64 at',.pointer (some ⟨b2,0,none⟩),.pointer (some ⟨b3,0,none⟩),.pointer (some ⟨b4,0,none⟩),.pointer (some ⟨gb,0,none⟩),.pointer (some ⟨b6,0,none⟩),.pointer (some ⟨b7,0,none⟩),.pointer (some ⟨b8,0,none⟩),.pointer (some ⟨b9,0,none⟩)] w1 fun r w2=>r= .returned (.tuple #[])/\wH w2 bs gb (jd g m fr to a x k Gj at' b')/\jU w1 w2 (fun k=>k=gb))(Gl:bs<=w.heap.size)(hW:eU w bs 66 fD 9 A n c way)(ZM:rowOf A c≠some gb)(hnk:n+k=8)(hB:VS w bs gb b Aw cw An cn Ad cd)(hWn:n=0->A=none)(hfr:n=0->at_≠fr):Calls prog 69 #[.slice A n c,.int .i64 at_,.pointer (some ⟨b2,0,none⟩),.pointer (some ⟨b3,0,none⟩),.pointer (some ⟨b4,0,none⟩),.pointer (some ⟨gb,0,none⟩),.pointer (some ⟨b6,0,none⟩),.pointer (some ⟨b7,0,none⟩),.pointer (some ⟨b8,0,none⟩),.pointer (some ⟨b9,0,none⟩)] w fun r w'=>r= .returned (.tuple #[])/\wH w' bs gb (jd g m fr to a x (k+1) way at_ b)/\jU w w' (fun k=>k=gb):=by
 obtain⟨ax,hBw,OL,hBd,Xn,hBl,hBm,Xy⟩:=hB
 have hgm:=hE.hP.good
 have hol:=yK hgm way a x
 have hwl:=hW.vec.1
 have R8:=hE.R8
 have hbn:Aw.isNone=true->b.way=[]:=fun h=>Decidable.byContradiction fun hh=>by have:=hBw.vec.isSome eQ (List.length_pos_iff.2 hh);revert h this;cases Aw<;>simp
 have hbs:¬Aw.isNone=true->b.way≠[]:=fun h hh=>h (by rw[Xn hh];rfl)
 have hgl:=hE.hg.1
 have hfl:=List.length_filter_le (fun e=>decide (e.t=at_)) g
 refine enter func69 rfl rfl ?_
 have L0:=jU.refl w (fun k=>k=gb)
 refine Sr (Wr (.fe (v:= .pointer (some ⟨gp,0,none⟩)) Ny rfl (hE.h2.iQ L0 hE.n2) rfl) rfl (Wn 1 rfl (Wr (.fe (v:= .int .i64 a) gM rfl (hE.h3.iQ L0 hE.n3) rfl) rfl (Wr (.fe (v:= .int .i64 x) gM rfl (hE.h4.iQ L0 hE.n4) rfl) rfl (W.cl aa3 rfl rfl (Q9 a x w (hE.hP.iQ L0 hE.hPg) hW.vec (by omega)) ?_)))))
 rintro _ cI ⟨af,ah,an,ao,rfl,a8,a9,X⟩
 have L1:=L0.le X
 refine Wn 1 rfl (Wa (.extract (v:= .agg #[.slice af ((eP ((fM m way a x).1.n)).length) ah,.slice an ((eP ((fM m way a x).1.d)).length) ao]) rfl rfl) rfl (Wn 2 rfl (W.ef rfl rfl rfl (Ef.fI z37 fun aH bA bB (bC:fA bA aH 37 #[.slice none 0 0,.slice none 0 0]) aa=>?_))))
 have L2:=L1.le aa
 refine W.sA gV rfl rfl bC ?_
 intro aI au ab
 have au:fA aI aH 37 #[.slice af ((eP ((fM m way a x).1.n)).length) ah,.slice an ((eP ((fM m way a x).1.d)).length) ao]:=au
 have L3:jU w aI (fun k=>k=gb):=L2.ch ab (fun i hi hlt=>by cases hi;exact absurd hlt (by have:=L1.size;have:=bB;omega))
 refine Wn 2 rfl (Nx ?_)
 have f4:=((hW.le (X.trans aa)).cb ab (hW.rn (by have:=X.size;omega)))
 have f5:=((ax.le (X.trans aa)).cn ab (by have:=ax.lt;have:=X.size;omega))
 have f6:=((hBw.le (X.trans aa)).cb ab (hBw.rn (by have:=X.size;omega)))
 have f7:=((OL.le (X.trans aa)).cb ab (OL.rn (by have:=X.size;omega)))
 have f8:=((hBd.le (X.trans aa)).cb ab (hBd.rn (by have:=X.size;omega)))
 have f9:=((a8.le aa).cb ab (a8.rn (by omega)))
 have aJ:=((a9.le aa).cb ab (a9.rn (by omega)))
 refine WC.cut (ι:=Unit) (fun _u=>[(0,.slice A n c),(1,.int .i64 at_),(5,.pointer (some ⟨gb,0,none⟩)),(6,.pointer (some ⟨b6,0,none⟩)),(7,.pointer (some ⟨b7,0,none⟩)),(8,.pointer (some ⟨b8,0,none⟩)),(9,.pointer (some ⟨b9,0,none⟩)),(12,.pointer (some ⟨aH,0,none⟩)),(13,.int .i64 ((fM m way a x).2.1))]) (fun _u S=>(((0<((n:Nat):Int))/\¬(((fM m way a x).2.2)≠0)/\¬((((eP ((fM m way a x).1.n)).length:Nat):Int)=0)/\(Aw.isNone=true))\/((0<((n:Nat):Int))/\¬(((fM m way a x).2.2)≠0)/\¬((((eP ((fM m way a x).1.n)).length:Nat):Int)=0)/\¬(Aw.isNone=true)/\¬((kQ (fE (⟨((fM m way a x).1.n),((fM m way a x).1.d)⟩:Fr)) (fE (⟨b.fQ.n,b.fQ.d⟩:Fr)))<0))\/(¬(0<((n:Nat):Int))))/\jU w S (fun k=>k=gb)/\aI.heap.size<=S.heap.size/\eU S bs 66 fD 9 A n c way/\fA S gb 122 #[.slice Aw b.way.length cw,.slice An ((eP b.fQ.n).length) cn,.slice Ad ((eP b.fQ.d).length) cd,.int .i64 (b.sent)]/\eU S bs 66 fD 9 Aw b.way.length cw b.way/\eU S bs 143 dv 1 An ((eP b.fQ.n).length) cn (eP b.fQ.n)/\eU S bs 143 dv 1 Ad ((eP b.fQ.d).length) cd (eP b.fQ.d)/\fA S aH 37 #[.slice af ((eP ((fM m way a x).1.n)).length) ah,.slice an ((eP ((fM m way a x).1.d)).length) ao]/\eU S w.heap.size 143 dv 1 af ((eP ((fM m way a x).1.n)).length) ah (eP ((fM m way a x).1.n))/\eU S w.heap.size 143 dv 1 an ((eP ((fM m way a x).1.d)).length) ao (eP ((fM m way a x).1.d))) ?_ ?_
 ·refine Sr (Wn 1 rfl (Wr (.len underlying22 rfl) rfl (Wn 1 rfl ?_)))
  by_cases D:0<((n:Nat):Int)
  ·refine Dt D rfl rfl (Wn 2 rfl ?_)
   by_cases u:((fM m way a x).2.2)≠0
   ·refine Wg (Any.rd (.dec (.move rfl) (dT u)) _) rfl (Wn 4 rfl (Wg (Any.rd (.mM rfl rfl rfl) _) rfl (Wn 5 rfl (W.fZ rfl rfl rfl rfl rfl (W.fZ rfl rfl rfl rfl rfl ?_)))))
    refine W.fZ rfl rfl rfl rfl rfl (W.fZ rfl rfl rfl rfl rfl (W.fZ rfl rfl rfl rfl rfl (Wn 1 rfl (Wg (Any.rd (.mM rfl rfl rfl) _) rfl (Wn 1 rfl (Nx (WC.gL rfl (Rt (E.eX ?_)))))))))
    refine E.nO rfl ?_
    have hlk:jd g m fr to a x (k+1) way at_ b=b:=(by first|exact jC (nk D hwl (.inl u))|exact jC (nk D hwl (.inr (.inl C)))|exact jC (nk D hwl (.inr (.inr ⟨hbs K,O⟩)))|exact lq (by first|exact gX D hwl|exact fJ u C (.inl (hbn K))|exact fJ u C (.inr O)|exact(R.elim (fun⟨_,o,s,H⟩=>fJ o s (.inl (hbn H))) fun hh=>hh.elim (fun⟨_,o,s,_,I⟩=>fJ o s (.inr I)) fun J=>gX J hwl)) Q (fun hh=>hh.elim (hbs K) U)|exact lq (by first|exact gX D hwl|exact fJ u C (.inl (hbn K))|exact fJ u C (.inr O)|exact(R.elim (fun⟨_,o,s,H⟩=>fJ o s (.inl (hbn H))) fun hh=>hh.elim (fun⟨_,o,s,_,I⟩=>fJ o s (.inr I)) fun J=>gX J hwl)) Q (fun hh=>hh.elim (hbs ai) U)|exact rO (by first|exact gX D hwl|exact fJ u C (.inl (hbn K))|exact fJ u C (.inr O)|exact(R.elim (fun⟨_,o,s,H⟩=>fJ o s (.inl (hbn H))) fun hh=>hh.elim (fun⟨_,o,s,_,I⟩=>fJ o s (.inr I)) fun J=>gX J hwl)) Q (by rw[hwl];omega))
    rw[hlk]
    exact⟨rfl,⟨_,_,_,_,_,_,f5,f6,f7,f8,Xn,hBl,hBm,Xy⟩,L3⟩
   refine Wg (Any.rd (.dec (.move rfl) (dF u)) _) rfl (Wg (Any.rd (.eZ lW rfl) _) rfl (Wg (.fe (v:= .slice af ((eP ((fM m way a x).1.n)).length) ah) jl rfl au rfl) rfl (Wg (.len underlying35 rfl) rfl (Wn 1 rfl (Wg (Any.rd (.mO rfl rfl rfl) _) rfl ?_)))))
   by_cases C:(((eP ((fM m way a x).1.n)).length:Nat):Int)=0
   ·refine Wg (Any.rd (.dec (.move rfl) (dT C)) _) rfl (Wn 4 rfl (W.fZ rfl rfl rfl rfl rfl (W.fZ rfl rfl rfl rfl rfl (W.fZ rfl rfl rfl rfl rfl (W.fZ rfl rfl rfl rfl rfl ?_)))))
    refine W.fZ rfl rfl rfl rfl rfl (Wn 1 rfl (Wg (Any.rd (.mM rfl rfl rfl) _) rfl (Wn 1 rfl (Nx (WC.gL rfl (Rt (E.eX (E.nO rfl ?_))))))))
    have hlk:jd g m fr to a x (k+1) way at_ b=b:=(by first|exact jC (nk D hwl (.inl u))|exact jC (nk D hwl (.inr (.inl C)))|exact jC (nk D hwl (.inr (.inr ⟨hbs K,O⟩)))|exact lq (by first|exact gX D hwl|exact fJ u C (.inl (hbn K))|exact fJ u C (.inr O)|exact(R.elim (fun⟨_,o,s,H⟩=>fJ o s (.inl (hbn H))) fun hh=>hh.elim (fun⟨_,o,s,_,I⟩=>fJ o s (.inr I)) fun J=>gX J hwl)) Q (fun hh=>hh.elim (hbs K) U)|exact lq (by first|exact gX D hwl|exact fJ u C (.inl (hbn K))|exact fJ u C (.inr O)|exact(R.elim (fun⟨_,o,s,H⟩=>fJ o s (.inl (hbn H))) fun hh=>hh.elim (fun⟨_,o,s,_,I⟩=>fJ o s (.inr I)) fun J=>gX J hwl)) Q (fun hh=>hh.elim (hbs ai) U)|exact rO (by first|exact gX D hwl|exact fJ u C (.inl (hbn K))|exact fJ u C (.inr O)|exact(R.elim (fun⟨_,o,s,H⟩=>fJ o s (.inl (hbn H))) fun hh=>hh.elim (fun⟨_,o,s,_,I⟩=>fJ o s (.inr I)) fun J=>gX J hwl)) Q (by rw[hwl];omega))
    rw[hlk]
    exact⟨rfl,⟨_,_,_,_,_,_,f5,f6,f7,f8,Xn,hBl,hBm,Xy⟩,L3⟩
   refine Wg (Any.rd (.dec (.move rfl) (dF C)) _) rfl (Wg (Any.rd (.eZ uO rfl) _) rfl (Wg (.fe (v:= .slice Aw b.way.length cw) ni rfl f5 rfl) rfl (Wg (Any.rd (.notNil underlying22 rfl) _) rfl ?_)))
   by_cases K:Aw.isNone=true
   ·refine Wg (Any.rd (.dec (.move rfl) (congrArg not K)) _) rfl (Wn 5 rfl (Wg (Any.rd (.mO rfl rfl rfl) _) rfl (Wg (Any.rd (.mO rfl rfl rfl) _) rfl (Wn 1 rfl (Nx (WC.iD rfl (WC.skip (E.meet () (.of rfl) ?_))))))))
    exact⟨Or.inl ⟨D,u,C,K⟩,L3,Nat.le_refl _,f4,f5,f6,f7,f8,au,f9,aJ⟩
   refine Wg (Any.rd (.dec (.move rfl) (congrArg not (Bool.eq_false_iff.2 K))) _) rfl (Wg (.fB gQ (by rfl) rfl au) rfl ?_)
   refine Wg (Any.rd (.eZ AL rfl) _) rfl (Wg (.vO [.slice An ((eP b.fQ.n).length) cn,.slice Ad ((eP b.fQ.d).length) cd] gQ rfl (by decide) rfl f5 rfl) rfl (W.mW rfl rfl rfl rfl rfl rfl (Ef.call WB rfl rfl (F9 aI f9.vec aJ.vec (by omega) (by omega) f7.vec f8.vec (by omega) (by omega)) ?_)))
   rintro _ cJ ⟨rfl,V⟩
   refine⟨_,rfl,?_⟩
   have ba:=L3.le V
   refine Wn 1 rfl (Wg (Any.rd (.mM rfl rfl rfl) _) rfl (Wg (Any.rd (.mO rfl rfl rfl) _) rfl (Wn 1 rfl (Nx ?_))))
   by_cases O:(kQ (fE (⟨((fM m way a x).1.n),((fM m way a x).1.d)⟩:Fr)) (fE (⟨b.fQ.n,b.fQ.d⟩:Fr)))<0
   ·refine Cy rfl (dT O) (Rt (E.eX (E.nO rfl ?_)))
    have hlk:jd g m fr to a x (k+1) way at_ b=b:=(by first|exact jC (nk D hwl (.inl u))|exact jC (nk D hwl (.inr (.inl C)))|exact jC (nk D hwl (.inr (.inr ⟨hbs K,O⟩)))|exact lq (by first|exact gX D hwl|exact fJ u C (.inl (hbn K))|exact fJ u C (.inr O)|exact(R.elim (fun⟨_,o,s,H⟩=>fJ o s (.inl (hbn H))) fun hh=>hh.elim (fun⟨_,o,s,_,I⟩=>fJ o s (.inr I)) fun J=>gX J hwl)) Q (fun hh=>hh.elim (hbs K) U)|exact lq (by first|exact gX D hwl|exact fJ u C (.inl (hbn K))|exact fJ u C (.inr O)|exact(R.elim (fun⟨_,o,s,H⟩=>fJ o s (.inl (hbn H))) fun hh=>hh.elim (fun⟨_,o,s,_,I⟩=>fJ o s (.inr I)) fun J=>gX J hwl)) Q (fun hh=>hh.elim (hbs ai) U)|exact rO (by first|exact gX D hwl|exact fJ u C (.inl (hbn K))|exact fJ u C (.inr O)|exact(R.elim (fun⟨_,o,s,H⟩=>fJ o s (.inl (hbn H))) fun hh=>hh.elim (fun⟨_,o,s,_,I⟩=>fJ o s (.inr I)) fun J=>gX J hwl)) Q (by rw[hwl];omega))
    rw[hlk]
    exact⟨rfl,⟨_,_,_,_,_,_,(f5.le V),(f6.le V),(f7.le V),(f8.le V),Xn,hBl,hBm,Xy⟩,ba⟩
   refine Cn rfl (dF O) (WC.skip (E.meet () (.of rfl) ?_))
   exact⟨Or.inr (Or.inl ⟨D,u,C,K,O⟩),ba,by have:=V.size;omega,(f4.le V),(f5.le V),(f6.le V),(f7.le V),(f8.le V),(au.le V),(f9.le V),(aJ.le V)⟩
  refine Df D rfl rfl (Wn 3 rfl (W.fZ rfl rfl rfl rfl rfl (W.fZ rfl rfl rfl rfl rfl (W.fZ rfl rfl rfl rfl rfl (W.fZ rfl rfl rfl rfl rfl (Wn 2 rfl ?_))))))
  refine W.fZ rfl rfl rfl rfl rfl (W.fZ rfl rfl rfl rfl rfl (W.fZ rfl rfl rfl rfl rfl (W.fZ rfl rfl rfl rfl rfl (W.fZ rfl rfl rfl rfl rfl (W.fZ rfl rfl rfl rfl rfl ?_)))))
  refine W.fZ rfl rfl rfl rfl rfl (W.fZ rfl rfl rfl rfl rfl (W.fZ rfl rfl rfl rfl rfl (W.fZ rfl rfl rfl rfl rfl (Wn 2 rfl (Nx (WC.iD rfl (WC.skip (E.meet () (.of rfl) ?_))))))))
  exact⟨Or.inr (Or.inr D),L3,Nat.le_refl _,f4,f5,f6,f7,f8,au,f9,aJ⟩
 rintro _u S ⟨R,av,bb,ay,az,aK,aL,aM,bD,aA,aB⟩
 have cK:w.heap.size<=S.heap.size:=by have:=bb;have:=X.size;have:=aa.size;have:=ab.size;omega
 have cL:w.heap.size<=S.heap.size:=by have:=bb;have:=X.size;have:=aa.size;have:=ab.size;omega
 refine Sq (Sr (Wn 1 rfl (Wr (.fe (v:= .int .i64 fr) gM rfl (hE.h6.iQ av hE.n6) rfl) rfl (Wn 1 rfl (Nx ?_)))))
 by_cases Q:at_=fr
 ·refine Cy rfl (dT Q) (Sq (Sr (Wn 1 rfl (Wr (.fB gQ (by rfl) rfl bD) rfl ?_))))
  refine Wn 1 rfl (Wa (.gF [.slice A n c,.slice af ((eP ((fM m way a x).1.n)).length) ah,.slice an ((eP ((fM m way a x).1.d)).length) ao,.int .i64 ((fM m way a x).2.1)] Zv Ww rfl rfl) rfl (W.ef rfl rfl rfl (Ef.fI Ww fun bc bE bF (bG:fA bE bc 122 #[.slice none 0 0,.slice none 0 0,.slice none 0 0,.int .i64 (0)]) Y=>?_)))
  have bH:=av.le Y
  refine W.sA LX rfl rfl bG ?_
  intro aU aC Z
  have aC:fA aU bc 122 #[.slice A n c,.slice af ((eP ((fM m way a x).1.n)).length) ah,.slice an ((eP ((fM m way a x).1.d)).length) ao,.int .i64 ((fM m way a x).2.1)]:=aC
  have bd:jU w aU (fun k=>k=gb):=bH.ch Z (fun i hi hlt=>by cases hi;exact absurd hlt (by have:=av.size;have:=bF;omega))
  refine Nx (Sr (Wa (.eZ uO rfl) rfl ?_))
  have aE:=((az.le Y).cn Z (by have:=az.lt;omega))
  refine Wr (.fe (v:= .slice Aw b.way.length cw) ni rfl aE rfl) rfl (Wa (.isNil underlying22 rfl) rfl ?_)
  by_cases ai:Aw.isNone=true
  ·refine Wa (.dec (.move rfl) ai) rfl (Wn 4 rfl (Nx (WC.gL rfl (WC.region (Wr (.fB LY (by rfl) rfl aC) rfl ?_)))))
   refine W.sA LX rfl rfl aE ?_
   intro be aV aO
   have aV:fA be gb 122 #[.slice A n c,.slice af ((eP ((fM m way a x).1.n)).length) ah,.slice an ((eP ((fM m way a x).1.d)).length) ao,.int .i64 ((fM m way a x).2.1)]:=aV
   have bI:jU w be (fun k=>k=gb):=bd.ch aO (fun i hi _=>by cases hi;exact rfl)
   refine Nx (Rt (E.eX ?_))
   have bJ:=(((ay.le Y).cb Z (ay.rn (by omega))).ch aO (fun q hq=>by cases hq;exact ZM))
   refine E.nO rfl ?_
   have hnc:¬xL way (fM m way a x) b:=(by first|exact gX D hwl|exact fJ u C (.inl (hbn K))|exact fJ u C (.inr O)|exact(R.elim (fun⟨_,o,s,H⟩=>fJ o s (.inl (hbn H))) fun hh=>hh.elim (fun⟨_,o,s,_,I⟩=>fJ o s (.inr I)) fun J=>gX J hwl))
   have hwn:way≠[]:=fun hh=>by first|exact absurd ((congrArg List.length hh).symm.trans hwl) (by simp;omega)|exact absurd Q (hfr (by omega))
   have hlk:jd g m fr to a x (k+1) way at_ b=(IZ way (fM m way a x)):=EU hnc Q (by first|exact .inl (hbn K)|exact .inl (hbn ai)|exact .inr U)
   rw[hlk]
   subst hwl
   exact⟨rfl,⟨_,_,_,_,_,_,aV,bJ,((((aA.le Y).cb Z (aA.rn (by omega))).cb aO (aA.rl (by have:=ax.lt;omega))).mono Gl),((((aB.le Y).cb Z (aB.rn (by omega))).cb aO (aB.rl (by have:=ax.lt;omega))).mono Gl),fun h=>absurd h hwn,(show way.length<=8 by omega),hol.1,hol.2⟩,bI⟩
  refine Wa (.dec (.move rfl) (Bool.eq_false_iff.2 ai)) rfl (Wg (.fB LY (by rfl) rfl aC) rfl ?_)
  refine Wg (.fB LY (by rfl) rfl aE) rfl ?_
  have bf:=((ay.le Y).cb Z (ay.rn (by omega)))
  have aW:=((aA.le Y).cb Z (aA.rn (by omega)))
  have aX:=((aB.le Y).cb Z (aB.rn (by omega)))
  have bg:=((aK.le Y).cb Z (aK.rn (by omega)))
  have bh:=((aL.le Y).cb Z (aL.rn (by omega)))
  have bi:=((aM.le Y).cb Z (aM.rn (by omega)))
  refine W.mW rfl rfl rfl rfl rfl rfl (Ef.call aa4 rfl rfl (N9 aU bf.vec aW.vec aX.vec (by omega) (by omega) (by omega) bg.vec bh.vec bi.vec (by omega) (by omega) (by omega)) ?_)
  rintro _ cM ⟨rfl,ac⟩
  refine⟨_,rfl,?_⟩
  have bj:=bd.le ac
  refine Wn 1 rfl (Nx ?_)
  by_cases U:(u7 (⟨way,⟨((fM m way a x).1.n),((fM m way a x).1.d)⟩,(fM m way a x).2.1⟩:kY) (⟨b.way,⟨b.fQ.n,b.fQ.d⟩,b.sent⟩:kY))=true
  ·refine Cy rfl U (WC.region (Wr (.fB LY (by rfl) rfl (aC.le ac)) rfl ?_))
   refine W.sA LX rfl rfl (aE.le ac) ?_
   intro bl aY aP
   have aY:fA bl gb 122 #[.slice A n c,.slice af ((eP ((fM m way a x).1.n)).length) ah,.slice an ((eP ((fM m way a x).1.d)).length) ao,.int .i64 ((fM m way a x).2.1)]:=aY
   have bK:jU w bl (fun k=>k=gb):=bj.ch aP (fun i hi _=>by cases hi;exact rfl)
   refine Nx (Rt (E.eX ?_))
   have bL:=((bf.le ac).ch aP (fun q hq=>by cases hq;exact ZM))
   refine E.nO rfl ?_
   have hnc:¬xL way (fM m way a x) b:=(by first|exact gX D hwl|exact fJ u C (.inl (hbn K))|exact fJ u C (.inr O)|exact(R.elim (fun⟨_,o,s,H⟩=>fJ o s (.inl (hbn H))) fun hh=>hh.elim (fun⟨_,o,s,_,I⟩=>fJ o s (.inr I)) fun J=>gX J hwl))
   have hwn:way≠[]:=fun hh=>by first|exact absurd ((congrArg List.length hh).symm.trans hwl) (by simp;omega)|exact absurd Q (hfr (by omega))
   have hlk:jd g m fr to a x (k+1) way at_ b=(IZ way (fM m way a x)):=EU hnc Q (by first|exact .inl (hbn K)|exact .inl (hbn ai)|exact .inr U)
   rw[hlk]
   subst hwl
   exact⟨rfl,⟨_,_,_,_,_,_,aY,bL,(((aW.le ac).cb aP (aW.rl (by have:=ax.lt;omega))).mono Gl),(((aX.le ac).cb aP (aX.rl (by have:=ax.lt;omega))).mono Gl),fun h=>absurd h hwn,(show way.length<=8 by omega),hol.1,hol.2⟩,bK⟩
  refine Cn rfl (Bool.eq_false_iff.2 U) (Sn (Rt (E.eX (E.nO rfl ?_))))
  have hlk:jd g m fr to a x (k+1) way at_ b=b:=(by first|exact jC (nk D hwl (.inl u))|exact jC (nk D hwl (.inr (.inl C)))|exact jC (nk D hwl (.inr (.inr ⟨hbs K,O⟩)))|exact lq (by first|exact gX D hwl|exact fJ u C (.inl (hbn K))|exact fJ u C (.inr O)|exact(R.elim (fun⟨_,o,s,H⟩=>fJ o s (.inl (hbn H))) fun hh=>hh.elim (fun⟨_,o,s,_,I⟩=>fJ o s (.inr I)) fun J=>gX J hwl)) Q (fun hh=>hh.elim (hbs K) U)|exact lq (by first|exact gX D hwl|exact fJ u C (.inl (hbn K))|exact fJ u C (.inr O)|exact(R.elim (fun⟨_,o,s,H⟩=>fJ o s (.inl (hbn H))) fun hh=>hh.elim (fun⟨_,o,s,_,I⟩=>fJ o s (.inr I)) fun J=>gX J hwl)) Q (fun hh=>hh.elim (hbs ai) U)|exact rO (by first|exact gX D hwl|exact fJ u C (.inl (hbn K))|exact fJ u C (.inr O)|exact(R.elim (fun⟨_,o,s,H⟩=>fJ o s (.inl (hbn H))) fun hh=>hh.elim (fun⟨_,o,s,_,I⟩=>fJ o s (.inr I)) fun J=>gX J hwl)) Q (by rw[hwl];omega))
  rw[hlk]
  exact⟨rfl,⟨_,_,_,_,_,_,(aE.le ac),(bg.le ac),(bh.le ac),(bi.le ac),Xn,hBl,hBm,Xy⟩,bj⟩
 refine Cn rfl (dF Q) (Sn (Sq (Sr (Wn 1 rfl (Wr (.len underlying22 rfl) rfl (Wn 1 rfl (Nx ?_)))))))
 by_cases c3:((n:Nat):Int)=8
 ·refine Cy rfl (dT c3) (Rt (E.eX (E.nO rfl ?_)))
  have hlk:jd g m fr to a x (k+1) way at_ b=b:=(by first|exact jC (nk D hwl (.inl u))|exact jC (nk D hwl (.inr (.inl C)))|exact jC (nk D hwl (.inr (.inr ⟨hbs K,O⟩)))|exact lq (by first|exact gX D hwl|exact fJ u C (.inl (hbn K))|exact fJ u C (.inr O)|exact(R.elim (fun⟨_,o,s,H⟩=>fJ o s (.inl (hbn H))) fun hh=>hh.elim (fun⟨_,o,s,_,I⟩=>fJ o s (.inr I)) fun J=>gX J hwl)) Q (fun hh=>hh.elim (hbs K) U)|exact lq (by first|exact gX D hwl|exact fJ u C (.inl (hbn K))|exact fJ u C (.inr O)|exact(R.elim (fun⟨_,o,s,H⟩=>fJ o s (.inl (hbn H))) fun hh=>hh.elim (fun⟨_,o,s,_,I⟩=>fJ o s (.inr I)) fun J=>gX J hwl)) Q (fun hh=>hh.elim (hbs ai) U)|exact rO (by first|exact gX D hwl|exact fJ u C (.inl (hbn K))|exact fJ u C (.inr O)|exact(R.elim (fun⟨_,o,s,H⟩=>fJ o s (.inl (hbn H))) fun hh=>hh.elim (fun⟨_,o,s,_,I⟩=>fJ o s (.inr I)) fun J=>gX J hwl)) Q (by rw[hwl];omega))
  rw[hlk]
  exact⟨rfl,⟨_,_,_,_,_,_,az,aK,aL,aM,Xn,hBl,hBm,Xy⟩,av⟩
 refine Cn rfl (dF c3) (Sn (Sr (Wr (.fe (v:= .slice Ag ng cg) ni rfl (hE.h7.iQ av hE.n7) rfl) rfl (Wn 1 rfl (W.cl aa5 rfl rfl (ZB at_ S (hE.hg.iQ av hE.hgg) (by omega)) ?_)))))
 rintro _ bM ⟨bm,bn,rfl,bo,aw⟩
 refine Wr (.len underlying22 rfl) rfl (Wn 1 rfl (Nx (WC.block ?_)))
 refine WC.loop (ι:=Nat×kY×(Option Addr)×Nat×(Option Addr)×Nat×(Option Addr)×Nat) (fun⟨j,bk,Ax,cx,Ay,cy,Az,cz⟩=>[(0,.slice A n c),(8,.pointer (some ⟨b8,0,none⟩)),(9,.pointer (some ⟨b9,0,none⟩)),(73,.slice bm ((g.filter (fun e=>decide (e.t=at_))).length) bn),(74,.int .i64 (((g.filter (fun e=>decide (e.t=at_))).length:Nat):Int)),(75,.int .i64 ((j:Nat):Int))]) (fun⟨j,bk,Ax,cx,Ay,cy,Az,cz⟩ ad=>(j<=(g.filter (fun e=>decide (e.t=at_))).length)/\(bk=((g.filter (fun e=>decide (e.t=at_))).take j).foldl (D6 (jd g m fr to a x k) way to) b)/\(bk.way=[]->Ax=none)/\(bk.way.length<=8/\(eP bk.fQ.n).length<=100/\(eP bk.fQ.d).length<=100)/\jU w ad (fun k=>k=gb)/\bM.heap.size<=ad.heap.size/\eU ad bs 66 fD 9 A n c way/\eU ad S.heap.size 66 fD 9 bm ((g.filter (fun e=>decide (e.t=at_))).length) bn (g.filter (fun e=>decide (e.t=at_)))/\eU ad bs 66 fD 9 Ax bk.way.length cx bk.way/\eU ad bs 143 dv 1 Ay ((eP bk.fQ.n).length) cy (eP bk.fQ.n)/\eU ad bs 143 dv 1 Az ((eP bk.fQ.d).length) cz (eP bk.fQ.d)/\fA ad gb 122 #[.slice Ax bk.way.length cx,.slice Ay ((eP bk.fQ.n).length) cy,.slice Az ((eP bk.fQ.d).length) cz,.int .i64 (bk.sent)]) (fun⟨j,bk,Ax,cx,Ay,cy,Az,cz⟩=>(g.filter (fun e=>decide (e.t=at_))).length-j) (0,b,Aw,cw,An,cn,Ad,cd) ?_ ?_ ?_
 ·exact .of rfl
 ·exact⟨Nat.zero_le _,rfl,Xn,⟨hBl,hBm,Xy⟩,(av.le aw),Nat.le_refl _,(ay.le aw),bo,(aK.le aw),(aL.le aw),(aM.le aw),(az.le aw)⟩
 rintro⟨j,bk,Ax,cx,Ay,cy,Az,cz⟩ ad ⟨hj,hbk,hbe,hbl,aZ,a0,aQ,aj,ap,aq,ar,ak⟩
 have cN:S.heap.size<=ad.heap.size:=by have:=aw.size;omega
 refine Sr (Wn 1 rfl (Nx (Sq ?_)))
 by_cases c4:((j:Nat):Int)<(((g.filter (fun e=>decide (e.t=at_))).length:Nat):Int)
 ·refine Cy rfl (dT c4) (Sn (Sq (WC.block (Sr (Wa (.fV j underlying22 iI rfl rfl (bo.vec.isSome eQ (by omega)) rfl (by omega)) rfl (Wr (.j5 iJ rfl aj.vec eQ (gD (g.filter (fun e=>decide (e.t=at_))) eO (by first|omega|(simp only[List.length_cons,List.length_nil];omega)))) rfl ?_))))))
  refine W.ef rfl rfl rfl (Ef.fI z66 fun a1 bN bO (bP:fA bN a1 66 (fD eO).toArray) L=>?_)
  have bQ:=aZ.le L
  refine W.iO rfl rfl (Ef.storeAll iI (by rfl) rfl rfl bP (by simp only[List.size_toArray,eQ.len]) (eQ.one ((g.filter (fun e=>decide (e.t=at_))).getD j eO)) ?_)
  intro a2 aF N
  have aF:fA a2 a1 66 (fD ((g.filter (fun e=>decide (e.t=at_))).getD j eO)).toArray:=aF
  have a3:jU w a2 (fun k=>k=gb):=bQ.ch N (fun i hi hlt=>by cases hi;exact absurd hlt (by have:=aZ.size;have:=bO;omega))
  refine Nx (Sq (Sr (Wa (.eZ iX rfl) rfl (Wr (.fe (v:= .int .i64 (((g.filter (fun e=>decide (e.t=at_))).getD j eO).f)) gM rfl aF rfl) rfl (Wr (.fe (v:= .int .i64 to) gM rfl (hE.h8.iQ a3 hE.n8) rfl) rfl (Wn 1 rfl ?_))))))
  by_cases aG:(((g.filter (fun e=>decide (e.t=at_))).getD j eO).f)=to
  ·refine Dt aG rfl rfl (Wn 4 rfl (Nx (WC.gL rfl (WC.exit (E.fC (E.gW (E.eY (WC.region (Wa (.add rfl rfl (by omega)) rfl (Wn 1 rfl (W.nil ?_)))))))))))
   have bR:=((aQ.le L).cb N (aQ.rn (by omega)))
   have bS:=((aj.le L).cb N (aj.rn (by omega)))
   have bT:=((ap.le L).cb N (ap.rn (by omega)))
   have bU:=((aq.le L).cb N (aq.rn (by omega)))
   have bV:=((ar.le L).cb N (ar.rn (by omega)))
   have bW:=((ak.le L).cn N (by have:=ak.lt;omega))
   refine E.again (j+1,bk,Ax,cx,Ay,cy,Az,cz) (.of rfl) ?_ ?_
   ·exact⟨by omega,(by rw[yT (z:=eO) (l:=(g.filter (fun e=>decide (e.t=at_)))) (by omega),<-hbk];exact(if_pos (by first|(unfold xM;rw[dT aG];exact Bool.true_or _)|(unfold xM;rw[c5];exact Bool.or_true _))).symm),hbe,hbl,a3,by have:=a0;have:=L.size;have:=N.size;omega,bR,bS,bT,bU,bV,bW⟩
   first|omega|(simp only[];omega)
  refine Df aG rfl rfl (Wn 1 rfl (Wg (Any.rd (.makeFunc rfl) _) rfl ?_))
  have aR:=((aQ.le L).cb N (aQ.rn (by omega)))
  refine W.mW rfl rfl rfl rfl rfl rfl (Ef.call aa6 rfl rfl (DX (fun y=>decide (y.f=((g.filter (fun e=>decide (e.t=at_))).getD j eO).f)) aa7 a2 aR.vec (by omega) (fun y w1 hl=>UE y w1 (aF.le hl))) ?_)
  rintro _ cO ⟨rfl,P⟩
  refine⟨_,rfl,?_⟩
  have bp:=a3.le P
  refine Wn 1 rfl (Nx ?_)
  by_cases c5:(way.any (fun y=>decide (y.f=((g.filter (fun e=>decide (e.t=at_))).getD j eO).f)))=true
  ·refine Cy rfl c5 (WC.exit (E.fC (E.gW (E.eY (WC.region (Wa (.add rfl rfl (by omega)) rfl (Wn 1 rfl (W.nil ?_))))))))
   have bX:=(((aj.le L).cb N (aj.rn (by omega))).le P)
   have bY:=(((ap.le L).cb N (ap.rn (by omega))).le P)
   have bZ:=(((aq.le L).cb N (aq.rn (by omega))).le P)
   have b0:=(((ar.le L).cb N (ar.rn (by omega))).le P)
   have b1:=(((ak.le L).cn N (by have:=ak.lt;omega)).le P)
   refine E.again (j+1,bk,Ax,cx,Ay,cy,Az,cz) (.of rfl) ?_ ?_
   ·exact⟨by omega,(by rw[yT (z:=eO) (l:=(g.filter (fun e=>decide (e.t=at_)))) (by omega),<-hbk];exact(if_pos (by first|(unfold xM;rw[dT aG];exact Bool.true_or _)|(unfold xM;rw[c5];exact Bool.or_true _))).symm),hbe,hbl,bp,by have:=a0;have:=L.size;have:=N.size;have:=P.size;omega,(aR.le P),bX,bY,bZ,b0,b1⟩
   first|omega|(simp only[];omega)
  refine Cn rfl (Bool.eq_false_iff.2 c5) (Sn (WC.XJ (fun bq w'=>jU w w' (fun k=>k=gb)/\fA w' a1 66 (fD ((g.filter (fun e=>decide (e.t=at_))).getD j eO)).toArray) [0,1,3,5,6,2,4,7] mixed (by kernel_rfl) fun bq T=>?_))
  have aS:=bp.le T
  have a4:=(aF.le (P.trans T))
  refine⟨⟨aS,a4⟩,?_⟩
  refine GR.rd rfl rfl (fun w' hs=> .fe (v:= .func (.func 69) #[] #[.pointer (some ⟨b2,0,none⟩),.pointer (some ⟨b3,0,none⟩),.pointer (some ⟨b4,0,none⟩),.pointer (some ⟨gb,0,none⟩),.pointer (some ⟨b6,0,none⟩),.pointer (some ⟨b7,0,none⟩),.pointer (some ⟨b8,0,none⟩),.pointer (some ⟨b9,0,none⟩)]) Vb rfl (hE.h9.iQ hs.1 hE.n9) rfl) rfl rfl rfl (GR.rd rfl rfl (fun w' hs=> .fB iJ (by rfl) rfl hs.2) rfl rfl rfl ?_)
  refine GR.any rfl rfl (.move rfl) rfl rfl rfl (GR.any rfl rfl (.eZ iX rfl) rfl rfl rfl (GR.rd rfl rfl (fun w' hs=> .fe (v:= .int .i64 (((g.filter (fun e=>decide (e.t=at_))).getD j eO).f)) gM rfl hs.2 rfl) rfl rfl rfl (GR.ef rfl rfl rfl rfl rfl (Ef.gq (len:=1) [_] underlying22 zw rfl (by simp[Value.cells,eQ.len]) rfl (by decide) (by decide) ?_))))
  intro bt bu b5 a5 ae
  have bv:=aS.le ae
  have a5:fA bu bt 66 (([(g.filter (fun e=>decide (e.t=at_))).getD j eO]).map fD).flatten.toArray:=a5
  have al:eU bu bq.heap.size 66 fD 9 (some ⟨bt,0,none⟩) 1 1 ([(g.filter (fun e=>decide (e.t=at_))).getD j eO]):=a5.kL b5 eQ rfl rfl (by decide)
  have bw:=(a4.le ae)
  refine⟨fun _=>⟨bv,bw⟩,?_⟩
  have bx:=(aR.le (P.trans (T.trans ae)))
  refine GR.ef rfl rfl rfl rfl rfl (Ef.Nu underlying22 zw underlying22 eQ rfl al rfl bx.vec (by omega) (by unfold maxLen;omega) (by have:=ae.size;omega) ?_)
  intro cP cQ a6 bz am cR
  have a7:jU w a6 (fun k=>k=gb):=bv.ch am (fun i hi hlt=>absurd hlt (by have:=(al.row hi).1;have:=aS.size;omega))
  refine⟨fun _=>⟨a7,(bw.ch am (al.rl (by have:=a4.lt;omega)))⟩,?_⟩
  have ca:=((((ak.le L).cn N (by have:=ak.lt;omega)).le (P.trans (T.trans ae))).ch am (al.rl (by have:=ak.lt;have:=L.size;have:=N.size;have:=P.size;have:=T.size;omega)))
  have cc:=((((ap.le L).cb N (ap.rn (by omega))).le (P.trans (T.trans ae))).ch am (Apart.symm (fun q h1 h2=>by have:=(ap.row h1).2;have:=(al.row h2).1;have:=L.size;have:=N.size;have:=P.size;have:=T.size;omega)))
  have ce:=((((aq.le L).cb N (aq.rn (by omega))).le (P.trans (T.trans ae))).ch am (Apart.symm (fun q h1 h2=>by have:=(aq.row h1).2;have:=(al.row h2).1;have:=L.size;have:=N.size;have:=P.size;have:=T.size;omega)))
  have cf:=((((ar.le L).cb N (ar.rn (by omega))).le (P.trans (T.trans ae))).ch am (Apart.symm (fun q h1 h2=>by have:=(ar.row h1).2;have:=(al.row h2).1;have:=L.size;have:=N.size;have:=P.size;have:=T.size;omega)))
  have ci:wH a6 bs gb bk:=⟨_,_,_,_,_,_,ca,cc,ce,cf,hbe,hbl.1,hbl.2.1,hbl.2.2⟩
  have cj:=ih ([(g.filter (fun e=>decide (e.t=at_))).getD j eO]++way) (by omega) (((g.filter (fun e=>decide (e.t=at_))).getD j eO).f) bk a6 a7 (bz.mono (Nat.le_trans Gl aS.size))
  have ck:=cj (by omega) (by omega) (bz.rl (by have:=ak.lt;have:=L.size;have:=N.size;have:=P.size;have:=T.size;omega)) ci
  refine GR.ef rfl rfl rfl rfl rfl (Ef.xm Yx rfl rfl rfl ck ?_)
  rintro _ cS ⟨rfl,⟨cm,co,cp,cq,cr,cs,ct,cu,cv,cA,cB,cC,cD,cE⟩,aT⟩
  refine⟨_,rfl,?_⟩
  have cF:=a7.sub aT (fun i hi hlt=>(by subst hi;exact rfl))
  refine noT (by kernel_rfl) (GR.nil (E.gI (E.eY (WC.region (Wa (.add rfl rfl (by omega)) rfl (Wn 1 rfl (W.nil ?_)))))))
  have cG:=((bx.ch am (Apart.symm (fun q h1 h2=>by have:=(aR.row h1).2;have:=(al.row h2).1;have:=P.size;have:=T.size;omega))).iQ aT (fun q hqq hF=>(by subst hF;exact ZM hqq)))
  have cH:=(((((aj.le L).cb N (aj.rn (by omega))).le (P.trans (T.trans ae))).ch am (Apart.symm (fun q h1 h2=>by have:=(aj.row h1).2;have:=(al.row h2).1;have:=L.size;have:=N.size;have:=P.size;have:=T.size;omega))).iQ aT (fun q hqq hF=>(by subst hF;exact(aj.rl (by have:=az.lt;omega)) hqq)))
  refine E.again (j+1,(jd g m fr to a x k ([(g.filter (fun e=>decide (e.t=at_))).getD j eO]++way) (((g.filter (fun e=>decide (e.t=at_))).getD j eO).f) bk),cm,co,cp,cq,cr,cs) (.of rfl) ?_ ?_
  ·exact⟨by omega,(by rw[yT (z:=eO) (l:=(g.filter (fun e=>decide (e.t=at_)))) (by omega),<-hbk];exact(if_neg (by simp only[xM,Bool.or_eq_true,decide_eq_true_eq,not_or];exact⟨aG,c5⟩)).symm),cB,⟨cC,cD,cE⟩,cF,by have:=a0;have:=L.size;have:=N.size;have:=P.size;have:=T.size;have:=ae.size;have:=am.size;have:=aT.size;omega,cG,cH,cu,cv,cA,ct⟩
  first|omega|(simp only[];omega)
 refine Cn rfl (dF c4) (WC.exit (E.fC (E.fC (E.gW (E.end_ (E.nO rfl ?_))))))
 have hnc:¬xL way (fM m way a x) b:=(by first|exact gX D hwl|exact fJ u C (.inl (hbn K))|exact fJ u C (.inr O)|exact(R.elim (fun⟨_,o,s,H⟩=>fJ o s (.inl (hbn H))) fun hh=>hh.elim (fun⟨_,o,s,_,I⟩=>fJ o s (.inr I)) fun J=>gX J hwl))
 have Td:j=(g.filter (fun e=>decide (e.t=at_))).length:=(by omega)
 have hlk:jd g m fr to a x (k+1) way at_ b=bk:=(by rw[Rx hnc Q (by rw[hwl];omega),hbk,Td,List.take_length];rfl)
 rw[hlk]
 exact⟨rfl,⟨_,_,_,_,_,_,ak,ap,aq,ar,hbe,hbl.1,hbl.2.1,hbl.2.2⟩,aZ⟩


theorem look_ok {bs base gp ng cg b2 b3 b4 gb b6 b7 b8 b9:Nat}{F:Nat->Prop}{m:MF}{Ag:Option Addr}{g:List fO.Edge}{fr to a x:Int}:∀(k:Nat) (way:List fO.Edge) {A:Option Addr} {n c:Nat} (hk1:1<=k) (at_:Int) (b:kY) (w:World),ET w base gp F m Ag ng cg g fr to a x b2 b3 b4 gb b6 b7 b8 b9->bs<=w.heap.size->eU w bs 66 fD 9 A n c way->n+k=9->(n=0->A=none)->(n=0->at_≠fr)->rowOf A c≠some gb->wH w bs gb b->
    Calls prog 69 #[.slice A n c,.int .i64 at_,.pointer (some ⟨b2,0,none⟩),.pointer (some ⟨b3,0,none⟩),.pointer (some ⟨b4,0,none⟩),.pointer (some ⟨gb,0,none⟩),.pointer (some ⟨b6,0,none⟩),.pointer (some ⟨b7,0,none⟩),.pointer (some ⟨b8,0,none⟩),.pointer (some ⟨b9,0,none⟩)] w fun r w2=>r= .returned (.tuple #[])/\wH w2 bs gb (jd g m fr to a x k way at_ b)/\jU w w2 (fun k=>k=gb)
  |0,_,_,_,_,h,_,_,_,_,_,_,_,_,_,_,_=>absurd h (by decide)
  |k+1,way,A,n,c,_,at_,b,w,hE,hbs,hW,hnk,hn0,hnf,ZM,hB=>by
    obtain⟨Aw,cw,An,cn,Ad,cd,hB⟩:=hB
    refine Oq at_ w hE (fun Gj A' n' c' hk1 at' b' d hc hW' hn' e hg' hB'=>look_ok k Gj hk1 at' b' d (hE.iQ hc) (Nat.le_trans hbs hc.size) hW' hn' (fun h=>by omega) (fun h=>by omega) hg' hB') hbs hW ZM (by omega) hB hn0 hnf

end Go.Proofs.YtkaedikifgpkeaaGreatDoor

namespace Go.Proofs.YtkaedikifgpkeaaGreatDoor
open Tryz
open Go Go.Sx Go.Num Go.fO Go.oF Go.uI Go.tH
set_option maxRecDepth 20000
set_option maxHeartbeats 4000000
theorem Ot {w:World}{bs gb:Nat}(h:fA w gb 122 #[.slice none 0 0,.slice none 0 0,.slice none 0 0,.int .i64 0]):wH w bs gb j6:=by
  refine⟨none,0,none,0,none,0,?_,eU.nil _ _ _ _ _ _,?_,?_,fun _=>rfl,by decide,?_,?_⟩
  · show fA w gb 122 #[.slice none 0 0,.slice none (eP 0).length 0,.slice none (eP 0).length 0,.int .i64 0]
    rw[eT];exact h
  · show eU w bs 143 dv 1 none (eP 0).length 0 (eP 0)
    rw[eT];exact eU.nil _ _ _ _ _ _
  · show eU w bs 143 dv 1 none (eP 0).length 0 (eP 0)
    rw[eT];exact eU.nil _ _ _ _ _ _
  · show(eP 0).length<=100
    rw[eT];decide
  · show(eP 0).length<=100
    rw[eT];decide
theorem KR {g:List fO.Edge}{m:MF}{fr to a x:Int}(hb:mR g fr to a x=false)(h:(jd g m fr to a x 9 [] to j6).way=[]):gz g m fr to a x=([],⟨0,0⟩,19):=by unfold gz;rw[if_neg (by rw[hb];decide),if_pos h]
theorem KS {g:List fO.Edge}{m:MF}{fr to a x:Int}(hb:mR g fr to a x=false)(h:(jd g m fr to a x 9 [] to j6).way≠[]):gz g m fr to a x=((jd g m fr to a x 9 [] to j6).way,(jd g m fr to a x 9 [] to j6).fQ,0):=by unfold gz;rw[if_neg (by rw[hb];decide),if_neg h]
theorem Jt {base gp:Nat}{F:Nat->Prop}{m:MF}(fr to a x:Int){A:Option Addr}{n c:Nat}{g:List fO.Edge}(w:World)(hP:iN w base gp F m)(hV:Vec w fD 9 A n g)(hn:n<=1000000):Calls prog 31 #[.slice A n c,.pointer (some ⟨gp,0,none⟩),.int .i64 fr,.int .i64 to,.int .i64 a,.int .i64 (x)] w fun r w'=>∃Aw cw An cn Ad cd,r= .returned (.tuple #[.slice Aw (gz g m fr to a x).1.length cw,.agg #[.slice An (eP (gz g m fr to a x).2.1.n).length cn,.slice Ad (eP (gz g m fr to a x).2.1.d).length cd],.int .i64 (gz g m fr to a x).2.2])/\eU w' w.heap.size 66 fD 9 Aw (gz g m fr to a x).1.length cw (gz g m fr to a x).1/\eU w' w.heap.size 143 dv 1 An (eP (gz g m fr to a x).2.1.n).length cn (eP (gz g m fr to a x).2.1.n)/\eU w' w.heap.size 143 dv 1 Ad (eP (gz g m fr to a x).2.1.d).length cd (eP (gz g m fr to a x).2.1.d)/\Le w w':=by
 have hl:=hV.1
 have hgm:=hP.good
 refine enter func31 rfl rfl (Sr (W.ef rfl rfl rfl (Ef.box rfl fun T aY bR (aZ:fA aY T 22 #[.slice A n c]) ad=>(W.ef rfl rfl rfl (Ef.box rfl fun U a0 bS (ao:fA a0 U 30 #[.pointer (some ⟨gp,0,none⟩)]) V=>(W.ef rfl rfl rfl ?_))))))
 refine Ef.box rfl fun X a1 bT (a2:fA a1 X 3 #[.int .i64 (fr)]) L=>(W.ef rfl rfl rfl (Ef.box rfl fun Y a3 bU (a4:fA a3 Y 3 #[.int .i64 (to)]) I=>(W.ef rfl rfl rfl (Ef.box rfl fun Z a5 bV (a6:fA a5 Z 3 #[.int .i64 (a)]) H=>(W.ef rfl rfl rfl ?_)))))
 refine Ef.box rfl fun aa a7 bW (a8:fA a7 aa 3 #[.int .i64 (x)]) C=>?_
 have J:=((((((Le.refl w).trans ad).trans V).trans L).trans I).trans H).trans C
 refine Wn 1 rfl (W.ef rfl rfl rfl (Ef.fI z37 fun D aF N (s:fA aF D 37 #[.slice none 0 0,.slice none 0 0]) z=>?_))
 have L7:=J.trans z
 refine Wn 1 rfl (Nx (Sq (Sr ?_)))
 have f8:=(aZ.le (V.trans (L.trans (I.trans (H.trans (C.trans z))))))
 refine Wr (.fe (v:= .slice A n c) ni rfl f8 rfl) rfl (W.cl aa2 rfl rfl (NP aF (hV.le L7) (by omega)) ?_)
 rintro _ a9 ⟨rfl,f⟩
 have L9:=L7.trans f
 refine Wn 1 rfl ?_
 by_cases K:(ko g)=true
 ·refine Wa (.dec (.move rfl) (congrArg not K)) rfl ?_
  have aG:=(a2.le (I.trans (H.trans (C.trans (z.trans f)))))
  refine Wg (.fe (v:= .int .i64 fr) gM rfl aG rfl) rfl (W.mW rfl rfl rfl rfl rfl rfl (Ef.call Tx rfl rfl (qO fr 0 11 a9) ?_))
  rintro _ ba ⟨rfl,j⟩
  refine⟨_,rfl,?_⟩
  have aH:=L9.trans j
  refine Wn 2 rfl ?_
  by_cases O:(jv fr 0 11)=true
  ·refine Wa (.dec (.move rfl) (congrArg not O)) rfl ?_
   have aI:=(a4.le (H.trans (C.trans (z.trans (f.trans j)))))
   refine Wg (.fe (v:= .int .i64 to) gM rfl aI rfl) rfl (W.mW rfl rfl rfl rfl rfl rfl (Ef.call Tx rfl rfl (qO to 0 11 ba) ?_))
   rintro _ bb ⟨rfl,l⟩
   refine⟨_,rfl,?_⟩
   have ap:=aH.trans l
   refine Wn 2 rfl ?_
   by_cases P:(jv to 0 11)=true
   ·refine Wa (.dec (.move rfl) (congrArg not P)) rfl ?_
    have ae:=(aG.le (j.trans l))
    refine Wg (.fe (v:= .int .i64 fr) gM rfl ae rfl) rfl ?_
    have af:=(aI.le l)
    refine Wg (.fe (v:= .int .i64 to) gM rfl af rfl) rfl (Wn 2 rfl ?_)
    by_cases Q:fr=to
    ·refine Dt Q rfl rfl (Wn 9 rfl (Nx (WC.gL rfl (Sr (Wa (.gF [.slice none 0 0,.slice none 0 0] jY z37 rfl rfl) rfl (Wn 1 rfl (W.sA gV rfl rfl (s.le (f.trans (j.trans l))) ?_)))))))
     intro bc aq bd
     have aq:fA bc D 37 #[.slice none 0 0,.slice none 0 0]:=aq
     have be:=ap.tb bd J N
     refine Wn 1 rfl (Nx (Rt (E.eX (E.gU rfl rfl (iB rfl aq gQ (by rfl)) rfl ?_))))
     rw[iT (by unfold mR;simp[K,O,P,Q])]
     exact⟨none,0,none,0,none,0,by simp only[eT];rfl,eU.nil _ _ _ _ _ _,by simp only[eT];exact eU.nil _ _ _ _ _ _,by simp only[eT];exact eU.nil _ _ _ _ _ _,be⟩
    refine Df Q rfl rfl ?_
    have ah:=(a6.le (C.trans (z.trans (f.trans (j.trans l)))))
    refine Wg (.fe (v:= .int .i64 a) gM rfl ah rfl) rfl (W.mW rfl rfl rfl rfl rfl rfl (Ef.call Tx rfl rfl (qO a 1 1125899906842624 bb) ?_))
    rintro _ bf ⟨rfl,e⟩
    refine⟨_,rfl,?_⟩
    have aJ:=ap.trans e
    refine Wn 2 rfl ?_
    by_cases ab:(jv a 1 1125899906842624)=true
    ·refine Wa (.dec (.move rfl) (congrArg not ab)) rfl ?_
     have ai:=(a8.le (z.trans (f.trans (j.trans (l.trans e)))))
     refine Wg (.fe (v:= .int .i64 x) gM rfl ai rfl) rfl (W.mW rfl rfl rfl rfl rfl rfl (Ef.call Tx rfl rfl (qO x 1 1048576 bf) ?_))
     rintro _ bX ⟨rfl,b⟩
     refine⟨_,rfl,?_⟩
     have aj:=aJ.trans b
     refine Wn 2 rfl (Nx ?_)
     by_cases c0:(jv x 1 1048576)=true
     ·refine Cn rfl (congrArg not c0) ?_
      have hbad:mR g fr to a x=false:=by unfold mR;simp[K,O,P,Q,ab,c0]
      have hft:=(zm hbad).2.2.2.1
      refine Sn (Sr (W.ef rfl rfl rfl (Ef.fI Ww fun t bg ar (au:fA bg t 122 #[.slice none 0 0,.slice none 0 0,.slice none 0 0,.int .i64 (0)]) o=>?_)))
      have aK:=aj.trans o
      refine Nx (Sr (W.ef rfl rfl rfl (Ef.alloc aaI fun R bh aL (bi:fA bh R 123 #[.nilFunc]) u=>(Nx (Sr (Wa (.makeFunc rfl) rfl (W.iO rfl rfl (Ef.store X8 rfl rfl bi (by first|decide|(simp;done)) rfl ?_))))))))
      intro ak al y
      have al:fA ak R 123 #[.func (.func 69) #[] #[.pointer (some ⟨U,0,none⟩),.pointer (some ⟨Z,0,none⟩),.pointer (some ⟨aa,0,none⟩),.pointer (some ⟨t,0,none⟩),.pointer (some ⟨X,0,none⟩),.pointer (some ⟨T,0,none⟩),.pointer (some ⟨Y,0,none⟩),.pointer (some ⟨R,0,none⟩)]]:=al
      have ac:=(aK.trans u).tb y aK aL
      refine Nx (Sr (Wr (.fe (v:= .func (.func 69) #[] #[.pointer (some ⟨U,0,none⟩),.pointer (some ⟨Z,0,none⟩),.pointer (some ⟨aa,0,none⟩),.pointer (some ⟨t,0,none⟩),.pointer (some ⟨X,0,none⟩),.pointer (some ⟨T,0,none⟩),.pointer (some ⟨Y,0,none⟩),.pointer (some ⟨R,0,none⟩)]) Vb rfl al rfl) rfl ?_))
      have aM:=((af.le (e.trans (b.trans (o.trans u)))).cn y (by have:=af.lt;have:=e.size;have:=b.size;have:=o.size;omega))
      refine Wr (.fe (v:= .int .i64 to) gM rfl aM rfl) rfl ?_
      have bj:=((ao.le (L.trans (I.trans (H.trans (C.trans (z.trans (f.trans (j.trans (l.trans (e.trans (b.trans (o.trans u)))))))))))).cn y (by have:=ao.lt;have:=L.size;have:=I.size;have:=H.size;have:=C.size;have:=z.size;have:=f.size;have:=j.size;have:=l.size;have:=e.size;have:=b.size;have:=o.size;omega))
      have bk:=((ah.le (e.trans (b.trans (o.trans u)))).cn y (by have:=ah.lt;have:=e.size;have:=b.size;have:=o.size;omega))
      have bl:=((ai.le (b.trans (o.trans u))).cn y (by have:=ai.lt;have:=b.size;have:=o.size;omega))
      have bm:=((au.le u).cn y (by have:=au.lt;omega))
      have bn:=((ae.le (e.trans (b.trans (o.trans u)))).cn y (by have:=ae.lt;have:=e.size;have:=b.size;have:=o.size;omega))
      have bo:=((f8.le (f.trans (j.trans (l.trans (e.trans (b.trans (o.trans u))))))).cn y (by have:=f8.lt;have:=f.size;have:=j.size;have:=l.size;have:=e.size;have:=b.size;have:=o.size;omega))
      have bp:=((hP.le (ad.trans (V.trans (L.trans (I.trans (H.trans (C.trans (z.trans (f.trans (j.trans (l.trans (e.trans (b.trans (o.trans u)))))))))))))).ch y (fun q hqq hF=>by cases hqq;have:=hP.lt hF;have:=ad.size;have:=V.size;have:=L.size;have:=I.size;have:=H.size;have:=C.size;have:=z.size;have:=f.size;have:=j.size;have:=l.size;have:=e.size;have:=b.size;have:=o.size;have:=aL;omega))
      have bq:ET ak base gp F m A n c g fr to a x U Z aa t X T Y R:=⟨bj,bk,bl,bn,bo,aM,al,bp,(hV.le ac),(show U≠t from by have:=ao.lt;have:=L.size;have:=I.size;have:=H.size;have:=C.size;have:=z.size;have:=f.size;have:=j.size;have:=l.size;have:=e.size;have:=b.size;omega),(show Z≠t from by have:=ah.lt;have:=e.size;have:=b.size;omega),(show aa≠t from by have:=ai.lt;have:=b.size;omega),(show X≠t from by have:=ae.lt;have:=e.size;have:=b.size;omega),(show T≠t from by have:=f8.lt;have:=f.size;have:=j.size;have:=l.size;have:=e.size;have:=b.size;omega),(show Y≠t from by have:=af.lt;have:=e.size;have:=b.size;omega),(show R≠t from by have:=au.lt;omega),(fun k hk he=>(show¬F t from(fun hF=>by have:=hP.lt hF;have:=ad.size;have:=V.size;have:=L.size;have:=I.size;have:=H.size;have:=C.size;have:=z.size;have:=f.size;have:=j.size;have:=l.size;have:=e.size;have:=b.size;have:=ar;omega)) (he▸hk)),(fun q h1 h2 _ he=>by have:=hV.jc eQ h2 h1;have:=aj.size;have:=ar;omega),hn⟩
      have bt:=look_ok 9 [] (by decide) to j6 ak bq (bs:=ak.heap.size) (Nat.le_refl _) (eU.nil _ _ _ _ _ _) (by decide) (fun _=>rfl) (fun _ h=>hft h.symm) (by simp[rowOf]) (Ot bm)
      refine W.ef rfl rfl rfl (Ef.xm Yx rfl rfl rfl bt ?_)
      rintro _ bY ⟨rfl,⟨am,aO,aP,aQ,aR,aS,aT,av,aU,aV,bu,bZ,b0,b1⟩,aw⟩
      refine⟨_,rfl,?_⟩
      have aW:=ac.nP aw (fun i hi=>(by subst hi;exact Nat.le_trans aj.size ar))
      refine Nx (Sq (Sr (Wa (.eZ uO rfl) rfl (Wr (.fe (v:= .slice am ((jd g m fr to a x 9 [] to j6).way.length) aO) ni rfl aT rfl) rfl (Wa (.isNil underlying22 rfl) rfl (Nx ?_))))))
      by_cases c1:am.isNone=true
      ·refine Cy rfl c1 (Sr (Wa (.gF [.slice none 0 0,.slice none 0 0] jY z37 rfl rfl) rfl (Wn 1 rfl (W.sA gV rfl rfl (((s.le (f.trans (j.trans (l.trans (e.trans (b.trans (o.trans u))))))).cn y (by have:=s.lt;have:=f.size;have:=j.size;have:=l.size;have:=e.size;have:=b.size;have:=o.size;omega)).iQ aw (fun hF=>(show D≠t from by have:=s.lt;have:=f.size;have:=j.size;have:=l.size;have:=e.size;have:=b.size;omega) hF)) ?_))))
       intro bv ax bw
       have ax:fA bv D 37 #[.slice none 0 0,.slice none 0 0]:=ax
       have bx:=aW.tb bw J N
       refine Wn 1 rfl (Nx (Rt (E.eX (E.gU rfl rfl (iB rfl ax gQ (by rfl)) rfl ?_))))
       rw[KR hbad (Decidable.byContradiction fun hh=>by have hs:=av.vec.isSome eQ (List.length_pos_iff.2 hh);have hc:=c1;revert hc hs;cases am<;>simp)]
       exact⟨none,0,none,0,none,0,by simp only[eT];rfl,eU.nil _ _ _ _ _ _,by simp only[eT];exact eU.nil _ _ _ _ _ _,by simp only[eT];exact eU.nil _ _ _ _ _ _,bx⟩
      refine Cn rfl (Bool.eq_false_iff.2 c1) (Sn (Sq (WC.draw [0,1,2,3,4,5,6] mixed (by kernel_rfl) fun w9 S=>(Ga rfl (.eZ uO rfl) ?_))))
      have aX:=(aT.le S)
      refine Gd rfl (.fe (v:= .slice am ((jd g m fr to a x 9 [] to j6).way.length) aO) ni rfl aX rfl) (Ga rfl (.eZ AL rfl) (Gd rfl (.vO [.slice aP ((eP (jd g m fr to a x 9 [] to j6).fQ.n).length) aQ,.slice aR ((eP (jd g m fr to a x 9 [] to j6).fQ.d).length) aS] gQ rfl (by decide) rfl aX rfl) (Gn 1 rfl ?_)))
      have bz:=((((s.le (f.trans (j.trans (l.trans (e.trans (b.trans (o.trans u))))))).cn y (by have:=s.lt;have:=f.size;have:=j.size;have:=l.size;have:=e.size;have:=b.size;have:=o.size;omega)).iQ aw (fun hF=>(show D≠t from by have:=s.lt;have:=f.size;have:=j.size;have:=l.size;have:=e.size;have:=b.size;omega) hF)).le S)
      refine G.iO rfl rfl rfl rfl (Ef.storeAll gV (by rfl) rfl rfl bz (by rfl) (by simp[Value.oneCell']) ?_)
      intro bA ay an
      refine noT (by kernel_rfl) ?_
      have ay:fA bA D 37 #[.slice aP ((eP (jd g m fr to a x 9 [] to j6).fQ.n).length) aQ,.slice aR ((eP (jd g m fr to a x 9 [] to j6).fQ.d).length) aS]:=ay
      refine Gn 1 rfl (G.nil (E.eY (Rt ?_)))
      have bB:=((aV.le S).cb an (aV.rl (by have:=s.lt;have:=f.size;have:=j.size;have:=l.size;have:=e.size;have:=b.size;have:=o.size;have:=u.size;have:=y.size;omega)))
      refine E.gU rfl rfl (iB rfl ay gQ (by rfl)) rfl ?_
      rw[KS hbad (fun hh=>c1 (by rw[bu hh];rfl))]
      exact⟨_,_,_,_,_,_,rfl,(((av.le S).cb an (av.rl (by have:=s.lt;have:=f.size;have:=j.size;have:=l.size;have:=e.size;have:=b.size;have:=o.size;have:=u.size;have:=y.size;omega))).mono ac.size),(((aU.le S).cb an (aU.rl (by have:=s.lt;have:=f.size;have:=j.size;have:=l.size;have:=e.size;have:=b.size;have:=o.size;have:=u.size;have:=y.size;omega))).mono ac.size),(bB.mono ac.size),((aW.trans S).tb an J N)⟩
     refine Cy rfl (congrArg not (Bool.eq_false_iff.2 c0)) (Sr (Wa (.gF [.slice none 0 0,.slice none 0 0] jY z37 rfl rfl) rfl (Wn 1 rfl (W.sA gV rfl rfl (s.le (f.trans (j.trans (l.trans (e.trans b))))) ?_))))
     intro bC az bD
     have az:fA bC D 37 #[.slice none 0 0,.slice none 0 0]:=az
     have bE:=aj.tb bD J N
     refine Wn 1 rfl (Nx (Rt (E.eX (E.gU rfl rfl (iB rfl az gQ (by rfl)) rfl ?_))))
     rw[iT (by unfold mR;simp[K,O,P,Q,ab,c0])]
     exact⟨none,0,none,0,none,0,by simp only[eT];rfl,eU.nil _ _ _ _ _ _,by simp only[eT];exact eU.nil _ _ _ _ _ _,by simp only[eT];exact eU.nil _ _ _ _ _ _,bE⟩
    refine Wa (.dec (.move rfl) (congrArg not (Bool.eq_false_iff.2 ab))) rfl (Wn 4 rfl (Nx (WC.gL rfl (Sr (Wa (.gF [.slice none 0 0,.slice none 0 0] jY z37 rfl rfl) rfl (Wn 1 rfl (W.sA gV rfl rfl (s.le (f.trans (j.trans (l.trans e)))) ?_)))))))
    intro bF aA bG
    have aA:fA bF D 37 #[.slice none 0 0,.slice none 0 0]:=aA
    have bH:=aJ.tb bG J N
    refine Wn 1 rfl (Nx (Rt (E.eX (E.gU rfl rfl (iB rfl aA gQ (by rfl)) rfl ?_))))
    rw[iT (by unfold mR;simp[K,O,P,Q,ab])]
    exact⟨none,0,none,0,none,0,by simp only[eT];rfl,eU.nil _ _ _ _ _ _,by simp only[eT];exact eU.nil _ _ _ _ _ _,by simp only[eT];exact eU.nil _ _ _ _ _ _,bH⟩
   refine Wa (.dec (.move rfl) (congrArg not (Bool.eq_false_iff.2 P))) rfl (Wn 14 rfl (Nx (WC.gL rfl (Sr (Wa (.gF [.slice none 0 0,.slice none 0 0] jY z37 rfl rfl) rfl (Wn 1 rfl (W.sA gV rfl rfl (s.le (f.trans (j.trans l))) ?_)))))))
   intro bI aB bJ
   have aB:fA bI D 37 #[.slice none 0 0,.slice none 0 0]:=aB
   have bK:=ap.tb bJ J N
   refine Wn 1 rfl (Nx (Rt (E.eX (E.gU rfl rfl (iB rfl aB gQ (by rfl)) rfl ?_))))
   rw[iT (by unfold mR;simp[K,O,P])]
   exact⟨none,0,none,0,none,0,by simp only[eT];rfl,eU.nil _ _ _ _ _ _,by simp only[eT];exact eU.nil _ _ _ _ _ _,by simp only[eT];exact eU.nil _ _ _ _ _ _,bK⟩
  refine Wa (.dec (.move rfl) (congrArg not (Bool.eq_false_iff.2 O))) rfl (Wn 19 rfl (Nx (WC.gL rfl (Sr (Wa (.gF [.slice none 0 0,.slice none 0 0] jY z37 rfl rfl) rfl (Wn 1 rfl (W.sA gV rfl rfl (s.le (f.trans j)) ?_)))))))
  intro bL aC bM
  have aC:fA bL D 37 #[.slice none 0 0,.slice none 0 0]:=aC
  have bN:=aH.tb bM J N
  refine Wn 1 rfl (Nx (Rt (E.eX (E.gU rfl rfl (iB rfl aC gQ (by rfl)) rfl ?_))))
  rw[iT (by unfold mR;simp[K,O])]
  exact⟨none,0,none,0,none,0,by simp only[eT];rfl,eU.nil _ _ _ _ _ _,by simp only[eT];exact eU.nil _ _ _ _ _ _,by simp only[eT];exact eU.nil _ _ _ _ _ _,bN⟩
 refine Wa (.dec (.move rfl) (congrArg not (Bool.eq_false_iff.2 K))) rfl (Wn 24 rfl (Nx (WC.gL rfl (Sr (Wa (.gF [.slice none 0 0,.slice none 0 0] jY z37 rfl rfl) rfl (Wn 1 rfl (W.sA gV rfl rfl (s.le f) ?_)))))))
 intro bO aE bP
 have aE:fA bO D 37 #[.slice none 0 0,.slice none 0 0]:=aE
 have bQ:=L9.tb bP J N
 refine Wn 1 rfl (Nx (Rt (E.eX (E.gU rfl rfl (iB rfl aE gQ (by rfl)) rfl ?_))))
 rw[iT (by unfold mR;simp[K])]
 exact⟨none,0,none,0,none,0,by simp only[eT];rfl,eU.nil _ _ _ _ _ _,by simp only[eT];exact eU.nil _ _ _ _ _ _,by simp only[eT];exact eU.nil _ _ _ _ _ _,bQ⟩
end Go.Proofs.YtkaedikifgpkeaaGreatDoor

namespace Go.Proofs.YtkaedikifgpkeaaGreatDoor
open Tryz
open Go Go.Sx Go.Num Go.fO Go.oF Go.uI Go.tH
set_option maxRecDepth 20000
def Xo (q:Kn):List Value:=[.int .i64 q.p,.int .i64 q.d,.int .i64 q.a]
theorem ig:lg Xo 3:=⟨fun _=>rfl,fun x v hv=>by simp[Xo]at hv;rcases hv with rfl|rfl|rfl<;>rfl,by decide⟩
def Ju (x:Int):Prop:= -9223372036854775808<=x/\x<=9223372036854775807
theorem getD_in {α:Type}{l:List α}{z:α}{k:Nat}(h:k<l.length):l.getD k z∈l:=by
  have:l.getD k z=l[k]:=by simp[List.getD,h]
  rw[this];exact List.getElem_mem h
theorem vv {g:List fO.Edge}{l:List Kn}{k:Nat}(hk:k<l.length):(l.take (k+1)).foldl (kV g) (fun _=>none)=kV g ((l.take k).foldl (kV g) (fun _=>none)) (l.getD k jI):=by
  rw[List.take_add_one,List.foldl_append]
  simp[List.getD,hk]
theorem EW (c f t ro m:Int)(w:World):Calls prog 21 #[.int .i64 c,.int .i64 f,.int .i64 t,.int .i64 ro,.int .i64 (m)] w fun r w'=>r= .returned (.agg (fD ⟨f,t,c,ro,⟨0,0,5,1,m⟩⟩).toArray)/\Le w w':=by
 refine enter func21 rfl rfl ?_
 have d:=Le.refl w
 refine Sr (W.ef rfl rfl rfl (Ef.fI z66 fun e h i (j:fA h e 66 (fD eO).toArray) k=>(Nx (Sr (Wn 5 rfl (Wa (.gF (nI (⟨0,0,5,1,m⟩)) abj z64 rfl rfl) rfl (Wa (.gF (fD (⟨f,t,c,ro,⟨0,0,5,1,m⟩⟩)) Zu z66 rfl rfl) rfl (W.iO rfl rfl ?_))))))))
 refine Ef.storeAll iI (by rfl) rfl rfl j (by simp only[List.size_toArray,eQ.len]) (eQ.one (⟨f,t,c,ro,⟨0,0,5,1,m⟩⟩)) ?_
 intro l b n
 have b:fA l e 66 (fD (⟨f,t,c,ro,⟨0,0,5,1,m⟩⟩)).toArray:=b
 refine Nx (Rt (E.fu rfl (iB rfl b iJ (by rfl)) ?_))
 exact⟨rfl,((d.trans k).tb n d i)⟩

theorem Xp {A A2:Option Addr}{n c n2 c2:Nat}(w:World):Calls prog 5 #[.slice A n c,.slice A2 n2 c2] w fun r w'=>r= .returned (.bool (decide (n<=8)&&decide (n2<=20)))/\Le w w':=by
 refine enter func5 rfl rfl ?_
 have b:=Le.refl w
 refine Sr (Wn 1 rfl (Nx (Sr (Wn 1 rfl (Wr (.len underlying22 rfl) rfl (Wn 1 rfl ?_))))))
 by_cases d:((n:Nat):Int)<=8
 ·refine Dt d rfl rfl (Wn 1 rfl (Wg (.len underlying23 rfl) rfl (Wn 3 rfl (Nx (Rt (E.fu rfl rfl ?_))))))
  exact⟨rB (Bool.eq_iff_iff.2 (by simp only[Bool.and_eq_true,decide_eq_true_eq,Bool.false_eq_true,false_iff,not_and];omega)),b⟩
 refine Df d rfl rfl (Wn 5 rfl (Nx (Rt (E.fu rfl rfl ?_))))
 exact⟨rB (Bool.eq_iff_iff.2 (by simp only[Bool.and_eq_true,decide_eq_true_eq,Bool.false_eq_true,false_iff,not_and];omega)),b⟩

theorem UF {A A2:Option Addr}{n c n2 c2:Nat}{g:List fO.Edge}{l:List Kn}(w:World)(hV:Vec w fD 9 A n g)(hL:Vec w Xo 3 A2 n2 l)(hgl:∀q∈l,Ju q.d)(hn:n<=9223372036854775807)(hn2:n2<=9223372036854775807):Calls prog 6 #[.slice A n c,.slice A2 n2 c2] w fun r w'=>∃gp F,r= .returned (.pointer (some ⟨gp,0,none⟩))/\iN w' w.heap.size gp F (xO g l)/\Le w w':=by
 have hl:=hV.1;have Q:=hL.1
 refine enter func6 rfl rfl ?_
 have u:=Le.refl w
 refine Sr (Wn 1 rfl (Nx (Sr (W.cl Yj rfl rfl (IY w) ?_))))
 rintro _ R ⟨H,S,rfl,T,U⟩
 refine Wn 1 rfl (Nx (Sq (Sr (Wn 1 rfl (Nx (WC.block (WC.loop (ι:=Nat) (fun k=>[(0,.slice A n c),(1,.slice A2 n2 c2),(5,.pointer (some ⟨H,0,none⟩)),(6,.int .i64 ((k:Nat):Int))]) (fun k f=>(k<=n2)/\Le w f/\R.heap.size<=f.heap.size/\iN f w.heap.size H S ((l.take k).foldl (kV g) (fun _=>none))) (fun k=>n2-k) 0 ?_ ?_ ?_)))))))
 ·exact .of rfl
 ·exact⟨Nat.zero_le _,(u.trans U),Nat.le_refl _,T⟩
 rintro k f ⟨hk,e,m,b⟩
 refine Sq (Sr (Wn 2 rfl (Wr (.len underlying23 rfl) rfl (Wn 1 rfl ?_))))
 by_cases I:((k:Nat):Int)<((n2:Nat):Int)
 ·refine Dt I rfl rfl (Wn 1 rfl (Wg (Any.rd (.dec (.Te (by kernel_rfl) rfl) rfl) _) rfl (Wn 1 rfl (Nx (WC.gL rfl (Sn (Sq (WC.block (Sq (Sr (Wn 2 rfl (Wa (.fV k underlying23 xF rfl rfl (hL.isSome ig (by omega)) rfl (by omega)) rfl (Wa (.gH uf (hL.isSome ig (by omega)) rfl) rfl (Wr (.ik (j:=k) (o:=0) (v:= .int .i64 ((l.getD k jI).p)) gM rfl (hL.le e) ig (gD l jI (by omega)) rfl) rfl ?_))))))))))))))
  refine Wn 1 rfl ?_
  by_cases J:((l.getD k jI).p)<0
  ·refine Dt J rfl rfl (Wn 9 rfl (Nx (WC.gL rfl ?_)))
   have hnx:=vv (g:=g) (l:=l) (k:=k) (by omega)
   have hms:((l.take (k+1)).foldl (kV g) (fun _=>none))=((l.take k).foldl (kV g) (fun _=>none)):=(by rw[hnx];unfold kV;exact if_pos (by omega))
   refine WC.exit (E.fC (E.gW (E.eY (WC.region (Wn 1 rfl (Wa (.add rfl rfl (by omega)) rfl (Wn 1 rfl (W.nil (E.again (k+1) (.of rfl) ?_ ?_)))))))))
   ·exact⟨by omega,e,by have:=m;omega,(by rw[hnx];unfold kV;first|(rw[if_pos (by omega)];exact b)|(rw[if_neg (by omega),if_pos (by omega)];exact b)|(rw[if_neg (by omega),if_neg (by omega)];exact b))⟩
   first|omega|(simp only[];omega)
  refine Df J rfl rfl (Wn 2 rfl (Wg (Any.rd (.fV k underlying23 xF rfl rfl (hL.isSome ig (by omega)) rfl (by omega)) _) rfl (Wg (Any.rd (.gH uf (hL.isSome ig (by omega)) rfl) _) rfl (Wg (.ik (j:=k) (o:=0) (v:= .int .i64 ((l.getD k jI).p)) gM rfl (hL.le e) ig (gD l jI (by omega)) rfl) rfl (Wn 1 rfl (Wg (.len underlying22 rfl) rfl ?_))))))
  refine Wn 2 rfl (Nx ?_)
  by_cases K:((n:Nat):Int)<=((l.getD k jI).p)
  ·refine Cy rfl (dT K) ?_
   have hnx:=vv (g:=g) (l:=l) (k:=k) (by omega)
   have hms:((l.take (k+1)).foldl (kV g) (fun _=>none))=((l.take k).foldl (kV g) (fun _=>none)):=(by rw[hnx];unfold kV;exact if_pos (by omega))
   refine WC.exit (E.fC (E.gW (E.eY (WC.region (Wn 1 rfl (Wa (.add rfl rfl (by omega)) rfl (Wn 1 rfl (W.nil (E.again (k+1) (.of rfl) ?_ ?_)))))))))
   ·exact⟨by omega,e,by have:=m;omega,(by rw[hnx];unfold kV;first|(rw[if_pos (by omega)];exact b)|(rw[if_neg (by omega),if_pos (by omega)];exact b)|(rw[if_neg (by omega),if_neg (by omega)];exact b))⟩
   first|omega|(simp only[];omega)
  refine Cn rfl (dF K) ?_
  have V:=hgl (l.getD k jI) (getD_in (z:=jI) (by omega))
  unfold Ju at V
  have hnx:=vv (g:=g) (l:=l) (k:=k) (by omega)
  refine Sn (Sr (Wn 2 rfl (Wa (.fV k underlying23 xF rfl rfl (hL.isSome ig (by omega)) rfl (by omega)) rfl (Wa (.gH Qo (hL.isSome ig (by omega)) rfl) rfl (Wr (.ik (j:=k) (o:=1) (v:= .int .i64 ((l.getD k jI).d)) gM rfl (hL.le e) ig (gD l jI (by omega)) rfl) rfl (Wa (.and1 rfl rfl (by omega)) rfl (Wn 1 rfl (Nx ?_))))))))
  by_cases c2:(((l.getD k jI).d)%2)=0
  ·refine Cy rfl (dT c2) (WC.draw [0,1,2,3,4,5,6,7,8,9,10,11,12,13,14] mixed (by kernel_rfl) fun X x=>?_)
   have s:=e.trans x
   refine Gn 4 rfl (Ga rfl (.fV k underlying23 xF rfl rfl (hL.isSome ig (by omega)) rfl (by omega)) (Ga rfl (.gH uf (hL.isSome ig (by omega)) rfl) (Gd rfl (.ik (j:=k) (o:=0) (v:= .int .i64 ((l.getD k jI).p)) gM rfl (hL.le s) ig (gD l jI (by omega)) rfl) (Ga rfl (.fV ((l.getD k jI).p.toNat) underlying22 iI rfl rfl (hV.isSome eQ (by omega)) (by omega) (by omega)) (Gd rfl (.j5 iJ rfl (hV.le s) eQ (gD g eO (by omega))) ?_)))))
   refine Gn 2 rfl (Ga rfl (.fV k underlying23 xF rfl rfl (hL.isSome ig (by omega)) rfl (by omega)) (Ga rfl (.gH FR (hL.isSome ig (by omega)) rfl) (Gd rfl (.ik (j:=k) (o:=2) (v:= .int .i64 ((l.getD k jI).a)) gM rfl (hL.le s) ig (gD l jI (by omega)) rfl) ?_)))
   have L:=(b.le x)
   refine G.ef rfl rfl rfl rfl rfl (Ef.call aaQ rfl rfl (N8 (g.getD ((l.getD k jI).p.toNat) eO) ((l.getD k jI).a) L) ?_)
   rintro _ Y ⟨rfl,y,Z,N⟩
   refine⟨_,rfl,?_⟩
   refine noT (by kernel_rfl) (G.nil (E.gI (E.eY (WC.region (Wn 1 rfl (Wa (.add rfl rfl (by omega)) rfl (Wn 1 rfl (W.nil (E.again (k+1) (.of rfl) ?_ ?_)))))))))
   ·exact⟨by omega,(s.nP N (fun i hi=>Nat.le_trans u.size (L.old hi))),by have:=m;have:=x.size;have:=N.size;omega,(by rw[hnx];unfold kV;first|(rw[if_pos (by omega)];exact y)|(rw[if_neg (by omega),if_pos (by omega)];exact y)|(rw[if_neg (by omega),if_neg (by omega)];exact y))⟩
   first|omega|(simp only[];omega)
  refine Cn rfl (dF c2) (WC.draw [0,1,2,3,4,5,6,7,8,9,10,11,12,13,14] mixed (by kernel_rfl) fun w8 C=>?_)
  have t:=e.trans C
  refine Gn 4 rfl (Ga rfl (.fV k underlying23 xF rfl rfl (hL.isSome ig (by omega)) rfl (by omega)) (Ga rfl (.gH uf (hL.isSome ig (by omega)) rfl) (Gd rfl (.ik (j:=k) (o:=0) (v:= .int .i64 ((l.getD k jI).p)) gM rfl (hL.le t) ig (gD l jI (by omega)) rfl) (Ga rfl (.fV ((l.getD k jI).p.toNat) underlying22 iI rfl rfl (hV.isSome eQ (by omega)) (by omega) (by omega)) (Gd rfl (.j5 iJ rfl (hV.le t) eQ (gD g eO (by omega))) ?_)))))
  refine Gn 2 rfl (Ga rfl (.fV k underlying23 xF rfl rfl (hL.isSome ig (by omega)) rfl (by omega)) (Ga rfl (.gH FR (hL.isSome ig (by omega)) rfl) (Gd rfl (.ik (j:=k) (o:=2) (v:= .int .i64 ((l.getD k jI).a)) gM rfl (hL.le t) ig (gD l jI (by omega)) rfl) ?_)))
  have O:=(b.le C)
  refine G.ef rfl rfl rfl rfl rfl (Ef.call Ym rfl rfl (EE (g.getD ((l.getD k jI).p.toNat) eO) ((l.getD k jI).a) O) ?_)
  rintro _ aa ⟨rfl,D,ab,P⟩
  refine⟨_,rfl,?_⟩
  refine noT (by kernel_rfl) (G.nil (E.gI (E.eY (WC.region (Wn 1 rfl (Wa (.add rfl rfl (by omega)) rfl (Wn 1 rfl (W.nil (E.again (k+1) (.of rfl) ?_ ?_)))))))))
  ·exact⟨by omega,(t.nP P (fun i hi=>Nat.le_trans u.size (O.old hi))),by have:=m;have:=C.size;have:=P.size;omega,(by rw[hnx];unfold kV;first|(rw[if_pos (by omega)];exact D)|(rw[if_neg (by omega),if_pos (by omega)];exact D)|(rw[if_neg (by omega),if_neg (by omega)];exact D))⟩
  first|omega|(simp only[];omega)
 refine Df I rfl rfl (Wn 3 rfl (Nx (WC.iD rfl (WC.exit (E.fC (E.fC (E.gW (E.eY (Sr (Wn 2 rfl (Nx (Rt (E.fu rfl rfl ?_)))))))))))))
 have hke:k=n2:=(by omega)
 subst hke
 rw[show iN=iN from rfl]
 exact⟨_,_,rfl,(by have h:=b;rw[<-Q,List.take_length]at h;exact h),e⟩
end Go.Proofs.YtkaedikifgpkeaaGreatDoor

namespace Go.Proofs.YtkaedikifgpkeaaGreatDoor
open Tryz
open Go Go.Sx Go.Num Go.fO Go.oF Go.uI Go.tH
set_option maxRecDepth 20000
theorem EX {o:List Int}{a n v:Int}{i nn:Nat}(hl:o.length=nn)(hi:i<nn)(h:∀j,j<i->o.getD j 0=kX a n j)(hv:v=kX a n i):∀j,j<i+1->(o.set i v).getD j 0=kX a n j:=by
  intro j hj
  by_cases e:j=i
  · subst e;rw[hv];simp[List.getD,hl,hi]
  · rw[<-h j (by omega)]
    simp[List.getD,List.getElem?_set_ne (Ne.symm e)]
theorem UG {o:List Int}{i:Nat}{v:Int}(h:i<o.length):(o.set i v).getD i 0=v:=by
  rw[List.getD_eq_getElem?_getD,List.getElem?_set_self h]
  rfl
theorem Jv {a n:Int}(h0:0<=a/n)(h1:1<=n)(hr:0<a%n):a/n+1<=a:=by
  have hd:=Int.mul_ediv_add_emod a n
  have hq:1*(a/n)<=n*(a/n):=Int.mul_le_mul_of_nonneg_right h1 h0
  rw[Int.one_mul]at hq
  omega
theorem KT {o:List Int}{a n:Int}(h1:1<=n)(h8:n<=8)(h3:n<=a)(hl:o.length=n.toNat)(h:∀j,j<n.toNat->o.getD j 0=kX a n j):o=fw a n:=by
  obtain⟨k1,_,c,_⟩:=qx h1 h8 h3
  refine List.ext_getElem (by rw[hl,k1]) fun i d e=>?_
  have b:=h i (by omega)
  have f:=c i (by omega)
  rw[<-f]at b
  simpa[List.getD,d,e]using b
theorem rP (a n:Int)(w:World)(ha:a<=9223372036854775807):Calls prog 15 #[.int .i64 a,.int .i64 (n)] w fun r w'=>∃A c,r= .returned (.slice A (fw a n).length c)/\eU w' w.heap.size 3 iv 1 A (fw a n).length c (fw a n)/\A.isNone=decide (fw a n=[])/\Le w w':=by
 refine enter func15 rfl rfl ?_
 have d:=Le.refl w
 refine Sr (Wn 1 rfl (Nx (Sq (Sr (Wn 2 rfl ?_)))))
 by_cases m:n<1
 ·refine Dt m rfl rfl (Wn 8 rfl (Nx (WC.gL rfl (Sr (Wn 1 rfl (Nx (Rt (E.eX (E.fu rfl rfl ?_)))))))))
  have hz:fw a n=[]:=(by unfold fw;rw[if_pos (by omega)])
  rw[hz]
  exact⟨none,0,rfl,eU.nil _ _ _ _ _ _,rfl,d⟩
 refine Df m rfl rfl (Wn 3 rfl ?_)
 by_cases s:8<n
 ·refine Dt s rfl rfl (Wn 4 rfl (Nx (WC.gL rfl (Sr (Wn 1 rfl (Nx (Rt (E.eX (E.fu rfl rfl ?_)))))))))
  have hz:fw a n=[]:=(by unfold fw;rw[if_pos (by omega)])
  rw[hz]
  exact⟨none,0,rfl,eU.nil _ _ _ _ _ _,rfl,d⟩
 refine Df s rfl rfl (Wn 4 rfl (Nx ?_))
 by_cases t:a<n
 ·refine Cy rfl (dT t) (Sr (Wn 1 rfl (Nx (Rt (E.eX (E.fu rfl rfl ?_))))))
  have hz:fw a n=[]:=(by unfold fw;rw[if_pos (by omega)])
  rw[hz]
  exact⟨none,0,rfl,eU.nil _ _ _ _ _ _,rfl,d⟩
 refine Cn rfl (dF t) ?_
 have hqa:=Int.ediv_le_self n (show 0<=a by omega)
 have I:=Int.ediv_nonneg (show 0<=a by omega) (show 0<=n by omega)
 refine Sn (Sr (Wa (.as (.move rfl) (int_eq (b:=((n.toNat:Nat):Int)) (by omega))) rfl (W.ef rfl rfl rfl (Ef.rA 0 n.toNat underlying47 Gx fT rfl rfl rfl rfl rfl (by omega) (by unfold maxLen;omega) ?_))))
 intro u J L f x
 refine Wn 1 rfl (Nx (Sq (Sr (Wn 2 rfl (Nx (WC.block (WC.loop (ι:=Nat×(List Int)) (fun⟨i,o⟩=>[(0,.int .i64 a),(1,.int .i64 n),(5,.slice (some ⟨u,0,none⟩) n.toNat n.toNat),(20,.int .i64 n),(21,.int .i64 ((i:Nat):Int))]) (fun⟨i,o⟩ e=>(i<=n.toNat)/\(o.length=n.toNat)/\(∀j,j<i->o.getD j 0=kX a n j)/\Le w e/\J.heap.size<=e.heap.size/\eU e w.heap.size 3 iv 1 (some ⟨u,0,none⟩) n.toNat n.toNat o) (fun⟨i,o⟩=>n.toNat-i) (0,(List.replicate n.toNat 0)) ?_ ?_ ?_)))))))
 ·exact .of rfl
 ·exact⟨Nat.zero_le _,List.length_replicate,fun j hj=>absurd hj (Nat.not_lt_zero _),(d.trans x),Nat.le_refl _,f⟩
 rintro⟨i,o⟩ e ⟨hi,hol,hos,y,z,k⟩
 have N:w.heap.size<=e.heap.size:=by have:=x.size;omega
 refine Sr (Wn 1 rfl (Nx (Sq ?_)))
 by_cases C:((i:Nat):Int)<n
 ·refine Cy rfl (dT C) (Sn (Sq (WC.block (Sr (Wn 2 rfl (Nx (Sr (Wn 4 rfl (Wa (.quo rfl rfl (by omega)) rfl (Wa (.fV i underlying47 kR rfl rfl (f.vec.isSome fT (by omega)) rfl (by omega)) rfl (W.iO rfl rfl (Ef.vE (j:=i) (o:=0) (a/n) kR rfl (by omega) rfl k fT (gD o 0 (by omega)) (by decide) rfl rfl ?_))))))))))))
  intro O h l
  have D:=y.gG l (fun q hq=>Nat.le_trans d.size (k.row hq).1)
  refine Nx (Sr (Wn 3 rfl (Wa (.rem rfl rfl (by omega)) rfl (Wn 1 rfl (Nx ?_)))))
  by_cases F:((i:Nat):Int)<(a%n)
  ·refine Cy rfl (dT F) (WC.region (Wn 2 rfl ?_))
   have hls:(o.set i (a/n)).length=n.toNat:=by rw[List.length_set];exact hol
   refine Wa (.fV i underlying47 kR rfl rfl (f.vec.isSome fT (by omega)) rfl (by omega)) rfl (Wr (.jB (v:= .int .i64 ((o.set i (a/n)).getD i 0)) gM rfl h.vec fT (gD (o.set i (a/n)) 0 (by first|omega|(simp only[List.length_cons,List.length_nil];omega))) rfl) rfl ?_)
   have hgs:=UG (v:=a/n) (show i<o.length by omega)
   have hsu:=Jv I (show 1<=n by omega) (by omega)
   refine Wa (.add rfl rfl (by omega)) rfl (Wa (.fV i underlying47 kR rfl rfl (f.vec.isSome fT (by omega)) rfl (by omega)) rfl (W.iO rfl rfl (Ef.vE (j:=i) (o:=0) (((o.set i (a/n)).getD i 0)+1) kR rfl (by omega) rfl h fT (gD (o.set i (a/n)) 0 (by omega)) (by decide) rfl rfl fun P K H=>(W.nil (E.gI (E.eY (WC.region (Wa (.add rfl rfl (by omega)) rfl ?_))))))))
   refine Wn 1 rfl (W.nil (E.again (i+1,(o.set i (a/n+1))) (.of rfl) ?_ ?_))
   ·exact⟨by omega,by simp[hol],EX hol (by omega) hos (by unfold kX;rw[if_pos (by omega)]),(D.gG H (fun q hq=>Nat.le_trans d.size (h.row hq).1)),by have:=z;have:=l.size;have:=H.size;omega,(K.cast rfl (by rw[hgs,List.set_set]))⟩
   first|omega|(simp only[];omega)
  refine Cn rfl (dF F) (WC.skip (E.gI (E.eY (WC.region (Wa (.add rfl rfl (by omega)) rfl (Wn 1 rfl (W.nil (E.again (i+1,(o.set i (a/n))) (.of rfl) ?_ ?_))))))))
  ·exact⟨by omega,by simp[hol],EX hol (by omega) hos (by unfold kX;rw[if_neg (by omega)];omega),D,by have:=z;have:=l.size;omega,h⟩
  first|omega|(simp only[];omega)
 refine Cn rfl (dF C) (WC.exit (E.fC (E.fC (E.gW (E.eY (Sr (Wn 2 rfl (Nx (Rt (E.fu rfl rfl ?_))))))))))
 have hin:i=n.toNat:=(by omega)
 have abw:=KT (by omega) (by omega) (by omega) hol (fun j hj=>hos j (by omega))
 have hsl:=qx (a:=a) (n:=n) (by omega) (by omega) (by omega)
 rw[dF hsl.2.2.2,hsl.1]
 subst abw
 exact⟨_,_,rfl,(k.mono d.size),rfl,y⟩
end Go.Proofs.YtkaedikifgpkeaaGreatDoor

namespace Go.Sx
open Go Go.RowKit
section
variable {α β:Type}{w w':World}{b1 b2 e1 e2 s1 s2 n1 n2 c d:Nat}{f:α->List Value}{g:β->List Value}{A B:Option Addr}{xs:List α}{ys:List β}
theorem eU.Ry (h1:eU w b1 e1 f s1 A n1 c xs)(h2:eU w b2 e2 g s2 B n2 d ys)(hne:e1≠e2):Apart A c B d:=fun q hA hB=>by
  rcases h2.2.2 with⟨_,rfl⟩|⟨g',cur,rfl,_,hh,_⟩
  · rw[iL]at hB;cases hB
  · have:=mg hB
    subst this
    exact eU.lV h1 (show fA w _ e2 cur from hh) hne hA
theorem eU.Da (h1:eU w b1 e1 f s1 A n1 c xs)(hc:Ch w w' (rowOf B d))(h2:eU w b2 e2 g s2 B n2 d ys)(hne:e1≠e2):eU w' b1 e1 f s1 A n1 c xs:=h1.ch hc fun q hq ha=>h1.Ry h2 hne q ha hq
theorem eU.wI {t k:Nat}{cs:Array Value}(h1:eU w b1 e1 f s1 A n1 c xs)(hc:Ch w w' (some k))(h2:fA w k t cs)(hne:e1≠t):eU w' b1 e1 f s1 A n1 c xs:=h1.ch hc fun q hq ha=>by
  cases hq
  exact h1.lV h2 hne ha
end
end Go.Sx
namespace Go.Proofs.YtkaedikifgpkeaaGreatDoor
open Go Go.Sx Go.Num Go.fO Go.oF Go.uI Go.tH
set_option maxRecDepth 20000
structure yU where
  vX:Int
  wA:Option Addr
  wN:Nat
  wC:Nat
  sA:Option Addr
  sN:Nat
  sC:Nat
  tA:Option Addr
  tN:Nat
  tC:Nat
def gu:yU:=⟨0,none,0,0,none,0,0,none,0,0⟩
def sM (r:yU):List Value:=[.int .i64 r.vX,.slice r.wA r.wN r.wC,.slice r.sA r.sN r.sC,.slice r.tA r.tN r.tC]
theorem gy:lg sM 4:=⟨fun _=>rfl,fun x v hv=>by simp[sM]at hv;rcases hv with rfl|rfl|rfl|rfl<;>rfl,by decide⟩
structure oQ (w:World)(bs:Nat)(r:yU)(p:tK):Prop where
  vX:r.vX=p.vX
  way:eU w bs 66 fD 9 r.wA r.wN r.wC p.way
  sent:eU w bs 3 iv 1 r.sA r.sN r.sC p.sent
  till:eU w bs 3 iv 1 r.tA r.tN r.tC p.till
def il (w:World)(bs:Nat)(rs:List yU)(ps:List tK):Prop:=rs.length=ps.length/\∀i,i<ps.length->oQ w bs (rs.getD i gu) (ps.getD i jr)
section
variable {w w':World}{bs bs':Nat}{r:yU}{p:tK}{rs:List yU}{ps:List tK}{F:Nat->Prop}
theorem oQ.le (h:oQ w bs r p)(k:Le w w'):oQ w' bs r p:=⟨h.1,h.2.le k,h.3.le k,h.4.le k⟩
theorem oQ.mono (h:oQ w bs r p)(k:bs'<=bs):oQ w bs' r p:=⟨h.1,h.2.mono k,h.3.mono k,h.4.mono k⟩
theorem oQ.iQ (h:oQ w bs r p)(k:jU w w' F)(hF:∀i,F i->i<bs):oQ w' bs r p:=
  ⟨h.1,h.2.iQ k fun g hg hf=>by have:=(h.2.row hg).1;have:=hF g hf;omega,h.3.iQ k fun g hg hf=>by have:=(h.3.row hg).1;have:=hF g hf;omega,h.4.iQ k fun g hg hf=>by have:=(h.4.row hg).1;have:=hF g hf;omega⟩
theorem oQ.MZ {b e s n c:Nat}{α:Type}{f:α->List Value}{A:Option Addr}{xs:List α}(h:oQ w bs r p)(k:Ch w w' (rowOf A c))(o:eU w b e f s A n c xs)(h1:66≠e)(h2:3≠e):oQ w' bs r p:=
  ⟨h.1,h.2.Da k o h1,h.3.Da k o h2,h.4.Da k o h2⟩
theorem oQ.qy {g t:Nat}{cs:Array Value}(h:oQ w bs r p)(k:Ch w w' (some g))(o:fA w g t cs)(h1:66≠t)(h2:3≠t):oQ w' bs r p:=
  ⟨h.1,h.2.wI k o h1,h.3.wI k o h2,h.4.wI k o h2⟩
theorem oQ.EY {w0:World}{o:Option Nat}(h:oQ w bs r p)(h0:oQ w0 bs r p)(k:Ch w w' o)(hn:∀q,o=some q->w0.heap.size<=q):oQ w' bs r p:=
  ⟨h.1,h.2.ch k fun g hg ha=>by have:=(h0.2.row ha).2;have:=hn g hg;omega,h.3.ch k fun g hg ha=>by have:=(h0.3.row ha).2;have:=hn g hg;omega,h.4.ch k fun g hg ha=>by have:=(h0.4.row ha).2;have:=hn g hg;omega⟩
theorem il.EY {w0:World}{o:Option Nat}(h:il w bs rs ps)(h0:il w0 bs rs ps)(k:Ch w w' o)(hn:∀q,o=some q->w0.heap.size<=q):il w' bs rs ps:=⟨h.1,fun i hi=>(h.2 i hi).EY (h0.2 i hi) k hn⟩
theorem il.nil (w:World)(bs:Nat):il w bs [] []:=⟨rfl,fun i hi=>absurd hi (Nat.not_lt_zero _)⟩
theorem il.le (h:il w bs rs ps)(k:Le w w'):il w' bs rs ps:=⟨h.1,fun i hi=>(h.2 i hi).le k⟩
theorem il.mono (h:il w bs rs ps)(k:bs'<=bs):il w bs' rs ps:=⟨h.1,fun i hi=>(h.2 i hi).mono k⟩
theorem il.iQ (h:il w bs rs ps)(k:jU w w' F)(hF:∀i,F i->i<bs):il w' bs rs ps:=⟨h.1,fun i hi=>(h.2 i hi).iQ k hF⟩
theorem il.MZ {b e s n c:Nat}{α:Type}{f:α->List Value}{A:Option Addr}{xs:List α}(h:il w bs rs ps)(k:Ch w w' (rowOf A c))(o:eU w b e f s A n c xs)(h1:66≠e)(h2:3≠e):il w' bs rs ps:=⟨h.1,fun i hi=>(h.2 i hi).MZ k o h1 h2⟩
theorem il.qy {g t:Nat}{cs:Array Value}(h:il w bs rs ps)(k:Ch w w' (some g))(o:fA w g t cs)(h1:66≠t)(h2:3≠t):il w' bs rs ps:=⟨h.1,fun i hi=>(h.2 i hi).qy k o h1 h2⟩
theorem vw {α:Type}{z x:α}{l:List α}{i:Nat}(h:i<l.length):(l++[x]).getD i z=l.getD i z:=by
  rw[List.getD_eq_getElem?_getD,List.getD_eq_getElem?_getD,List.getElem?_append_left h]
theorem vz {α:Type}{z x:α}{l:List α}:(l++[x]).getD l.length z=x:=by
  rw[List.getD_eq_getElem?_getD,List.getElem?_append_right (Nat.le_refl _),Nat.sub_self]
  rfl
theorem il.push (h:il w bs rs ps)(k:oQ w bs r p):il w bs (rs++[r]) (ps++[p]):=by
  refine⟨by simp[h.1],fun i hi=>?_⟩
  simp only[List.length_append,List.length_cons,List.length_nil]at hi
  by_cases e:i<ps.length
  · rw[vw e,vw (by rw[h.1];exact e)]
    exact h.2 i e
  · have:i=ps.length:=by omega
    subst this
    rw[vz,<-h.1,vz]
    exact k
theorem il.cast {ps':List tK}(h:il w bs rs ps)(e:ps=ps'):il w bs rs ps':=e▸h
end
end Go.Proofs.YtkaedikifgpkeaaGreatDoor

namespace Go.Proofs.YtkaedikifgpkeaaGreatDoor
open Tryz
open Go Go.Sx Go.Num Go.fO Go.oF Go.uI Go.tH
set_option maxRecDepth 20000
set_option maxHeartbeats 4000000
structure EZ (w:World)(F:Nat->Prop)(gp:Nat)(Ag:Option Addr)(ng cg:Nat)(g:List fO.Edge)(fr to x:Int)(b1 b2 b3 b4 b5 b6:Nat):Prop where
  h1:fA w b1 22 #[.slice Ag ng cg]
  h2:fA w b2 30 #[.pointer (some ⟨gp,0,none⟩)]
  h3:fA w b3 3 #[.int .i64 fr]
  h4:fA w b4 3 #[.int .i64 to]
  h5:fA w b5 3 #[.int .i64 x]
  hg:Vec w fD 9 Ag ng g
  n1:¬(F b1\/b1=b6)
  n2:¬(F b2\/b2=b6)
  n3:¬(F b3\/b3=b6)
  n4:¬(F b4\/b4=b6)
  n5:¬(F b5\/b5=b6)
  n6:¬F b6
  ngg:∀q,kT Ag=some q->0<ng->q<w.heap.size->¬(F q\/q=b6)
  R8:ng<=1000000
def nG (w:World)(bs b6:Nat)(p:Fr×(Nat->Prop)):Prop:=∃An cn Ad cd,fA w b6 37 #[.slice An (eP p.1.n).length cn,.slice Ad (eP p.1.d).length cd]/\eU w bs 143 dv 1 An (eP p.1.n).length cn (eP p.1.n)/\eU w bs 143 dv 1 Ad (eP p.1.d).length cd (eP p.1.d)/\(∀q,rowOf An cn=some q->¬p.2 q)/\(∀q,rowOf Ad cd=some q->¬p.2 q)/\rowOf An cn≠some b6/\rowOf Ad cd≠some b6
section
variable {w w':World}{bs b6:Nat}{p:Fr×(Nat->Prop)}
theorem nG.lt (h:nG w bs b6 p):b6<w.heap.size:=by
  obtain⟨_,_,_,_,b,_⟩:=h
  exact b.lt
theorem nG.le (h:nG w bs b6 p)(k:Le w w'):nG w' bs b6 p:=by
  obtain⟨An,cn,Ad,cd,b,c,d,e⟩:=h
  exact⟨An,cn,Ad,cd,b.le k,c.le k,d.le k,e⟩
theorem nG.qy {g t:Nat}{cs:Array Value}(h:nG w bs b6 p)(k:Ch w w' (some g))(o:fA w g t cs)(h1:37≠t)(h2:143≠t):nG w' bs b6 p:=by
  obtain⟨An,cn,Ad,cd,k1,k2,c,d⟩:=h
  refine⟨An,cn,Ad,cd,k1.ch k (fun he=>?_),k2.wI k o h2,c.wI k o h2,d⟩
  have he':=Option.some.inj he
  subst he'
  have e:w.heap[g]? =_:=k1
  have b:w.heap[g]? =_:=o
  rw[e]at b
  injection b with e3
  injection e3 with _ e4 _
  exact h1 e4
theorem nG.MZ {b e s n c:Nat}{α:Type}{f:α->List Value}{A:Option Addr}{xs:List α}(h:nG w bs b6 p)(k:Ch w w' (rowOf A c))(o:eU w b e f s A n c xs)(h1:37≠e)(h2:143≠e):nG w' bs b6 p:=by
  obtain⟨An,cn,Ad,cd,k1,k2,d,i⟩:=h
  exact⟨An,cn,Ad,cd,k1.ch k (fun he=>o.lV k1 (Ne.symm h1) he),k2.Da k o h2,d.Da k o h2,i⟩
end
def stepT (g : List fO.Edge) (fr to x : Int) (s : AV) (share : Int) : AV := ⟨s.out ++ [⟨share, (gz g s.m fr to share x).1, (fq (gz g s.m fr to share x).1 share x).1, (fq (gz g s.m fr to share x).1 share x).2.1⟩],
      jW s.fQ (gz g s.m fr to share x).2.1,tq s.m (gz g s.m fr to share x).1 (fq (gz g s.m fr to share x).1 share x).1 (gz g s.m fr to share x).1.length⟩
theorem Jw {g:List fO.Edge}{fr to x share:Int}{s:AV}(h:(gz g s.m fr to share x).2.2=0):oK g fr to x (some s) share=some (stepT g fr to x s share):=by
  unfold oK stepT;simp only;rw[if_pos h]
theorem M0 {g:List fO.Edge}{fr to x share:Int}{s:AV}(h:(gz g s.m fr to share x).2.2≠0):oK g fr to x (some s) share=none:=by
  unfold oK;simp only;rw[if_neg h]
theorem Ou {base bs gp ng cg cn cd b1 b2 b3 b4 b5 b6:Nat}{F:Nat->Prop}{m:MF}{o:Fr}{out:List tK}{Ag An Ad:Option Addr}{g:List fO.Edge}{fr to x:Int}(share:Int)(w:World)(hE:EZ w F gp Ag ng cg g fr to x b1 b2 b3 b4 b5 b6)(hP:iN w base gp F m)(hB0:fA w b6 37 #[.slice An (eP o.n).length cn,.slice Ad (eP o.d).length cd])(OL:eU w bs 143 dv 1 An (eP o.n).length cn (eP o.n))(hBd:eU w bs 143 dv 1 Ad (eP o.d).length cd (eP o.d))(abx:∀q,rowOf An cn=some q->¬F q)(aby:∀q,rowOf Ad cd=some q->¬F q)(abL:rowOf An cn≠some b6)(abM:rowOf Ad cd≠some b6)(hol:kP o 5000)(hok:okF o)(hbs:bs<=w.heap.size):Calls prog 34 #[.int .i64 share,.pointer (some ⟨b1,0,none⟩),.pointer (some ⟨b2,0,none⟩),.pointer (some ⟨b3,0,none⟩),.pointer (some ⟨b4,0,none⟩),.pointer (some ⟨b5,0,none⟩),.pointer (some ⟨b6,0,none⟩)] w fun r w'=>jU w w' (fun k=>F k\/k=b6)/\(((gz g m fr to share x).2.2≠0/\r= .returned (.tuple #[.agg (sM gu).toArray,.bool false]))\/((gz g m fr to share x).2.2=0/\∃r1,r= .returned (.tuple #[.agg (sM r1).toArray,.bool true])/\oQ w' w.heap.size r1 ⟨share,(gz g m fr to share x).1,(fq (gz g m fr to share x).1 share x).1,(fq (gz g m fr to share x).1 share x).2.1⟩/\iN w' base gp F (stepT g fr to x ⟨out,o,m⟩ share).m/\nG w' bs b6 ((stepT g fr to x ⟨out,o,m⟩ share).fQ,F))):=by
 have hgm:=hP.good
 have hgl:=hE.hg.1
 have R8:=hE.R8
 unfold kP at hol
 refine enter func34 rfl rfl ?_
 have L0:=jU.refl w (fun k=>F k\/k=b6)
 refine Sr (W.ef rfl rfl rfl (Ef.fI z50 fun J K ao (S:fA K J 50 #[.int .i64 0,.slice none 0 0,.slice none 0 0,.slice none 0 0]) D=>?_))
 have L:=L0.le D
 refine Wn 1 rfl (Nx (Sr (Wr (.fe (v:= .slice Ag ng cg) ni rfl (hE.h1.iQ L hE.n1) rfl) rfl (Wr (.fe (v:= .pointer (some ⟨gp,0,none⟩)) Ny rfl (hE.h2.iQ L hE.n2) rfl) rfl (Wr (.fe (v:= .int .i64 fr) gM rfl (hE.h3.iQ L hE.n3) rfl) rfl (Wr (.fe (v:= .int .i64 to) gM rfl (hE.h4.iQ L hE.n4) rfl) rfl (Wn 1 rfl ?_)))))))
 refine Wr (.fe (v:= .int .i64 x) gM rfl (hE.h5.iQ L hE.n5) rfl) rfl ?_
 have I:=(hP.le D)
 obtain⟨b1,T⟩:∃z,z=gz g m fr to share x:=⟨_,rfl⟩
 have bh:=rJ (g:=g) (fr:=fr) (to:=to) (a:=share) (x:=x) hgm
 rw[<-T]at bh
 refine W.cl Yo rfl rfl (by have k:=Jt (c:=cg) fr to share x K I (hE.hg.iQ L hE.ngg) (by omega);rw[<-T]at k;exact k) ?_
 rintro _ b7 ⟨N,O,U,V,X,Y,rfl,aq,aT,aU,b⟩
 have L3:=L.le b
 refine Wn 2 rfl (Wa (.extract (v:= .agg #[.slice U ((eP b1.2.1.n).length) V,.slice X ((eP b1.2.1.d).length) Y]) rfl rfl) rfl (Wn 1 rfl (W.ef rfl rfl rfl (Ef.fI z37 fun Z bi ar (bj:fA bi Z 37 #[.slice none 0 0,.slice none 0 0]) h=>?_))))
 have L4:=L3.le h
 refine Wn 1 rfl (W.sA gV rfl rfl bj ?_)
 intro aa au j
 have au:fA aa Z 37 #[.slice U ((eP b1.2.1.n).length) V,.slice X ((eP b1.2.1.d).length) Y]:=au
 have L5:jU w aa (fun k=>F k\/k=b6):=L4.ch j (fun i hi hlt=>by cases hi;exact absurd hlt (by have:=L3.size;have:=ar;omega))
 refine Wn 1 rfl (Nx (Sq (Sr (Wn 2 rfl (Nx ?_)))))
 by_cases c0:b1.2.2≠0
 ·refine Cy rfl (dT c0) (Sr (Wa (.gF [.int .i64 0,.slice none 0 0,.slice none 0 0,.slice none 0 0] Zt z50 rfl rfl) rfl (W.sA rE rfl rfl ((S.le (b.trans h)).cn j (by have:=S.lt;have:=b.size;omega)) ?_)))
  intro aV av bk
  have av:fA aV J 50 #[.int .i64 0,.slice none 0 0,.slice none 0 0,.slice none 0 0]:=av
  have L7:jU w aV (fun k=>F k\/k=b6):=L5.ch bk (fun i hi hlt=>by cases hi;exact absurd hlt (by have:=L0.size;have:=ao;omega))
  refine Wn 1 rfl (Nx (Rt (E.eX (E.jb rfl (iB rfl av Tj (by rfl)) rfl ?_))))
  exact⟨L7,.inl ⟨by rw[<-T];assumption,rfl⟩⟩
 refine Cn rfl (dF c0) ?_
 have bl:b1.2.2=0:=by omega
 have aw:(gz g m fr to share x).2.2=0:=by rw[<-T];exact bl
 obtain⟨_,hcd,_,_⟩:=ql hgm aw
 rw[<-T]at hcd
 have hcl:=rU hcd.cost
 refine Sn (Sr (Wn 2 rfl (Wr (.fe (v:= .int .i64 x) gM rfl (hE.h5.iQ L5 hE.n5) rfl) rfl ?_)))
 have f8:=((aq.le h).cb j (aq.rn (by omega)))
 refine W.cl Yq rfl rfl (Mq share x aa f8.vec (by omega)) ?_
 rintro _ bm ⟨ab,ac,ad,ae,rfl,ax,bn,l⟩
 refine Wn 7 rfl (Nx (Sq (Sr (Wn 1 rfl (Wr (.len underlying22 rfl) rfl (Wn 1 rfl (Nx (WC.block ?_))))))))
 have bo:=(((I.le (b.trans h)).ch j (fun q hqq hF=>by cases hqq;have:=I.lt hF;have:=b.size;have:=ar;omega)).le l)
 have bp:=(((aT.le h).cb j (aT.rn (by omega))).le l)
 have bq:=(((aU.le h).cb j (aU.rn (by omega))).le l)
 refine WC.loop (ι:=Nat) (fun k=>[(0,.int .i64 share),(2,.pointer (some ⟨b2,0,none⟩)),(6,.pointer (some ⟨b6,0,none⟩)),(8,.pointer (some ⟨J,0,none⟩)),(10,.slice N b1.1.length O),(11,.pointer (some ⟨Z,0,none⟩)),(13,.slice ab ((fq b1.1 share x).1.length) ac),(14,.slice ad ((fq b1.1 share x).2.1.length) ae),(40,.slice N b1.1.length O),(41,.int .i64 ((b1.1.length:Nat):Int)),(42,.int .i64 ((k:Nat):Int))]) (fun k e=>(k<=b1.1.length)/\jU w e (fun k=>F k\/k=b6)/\bm.heap.size<=e.heap.size/\fA e b6 37 #[.slice An ((eP o.n).length) cn,.slice Ad ((eP o.d).length) cd]/\eU e bs 143 dv 1 An ((eP o.n).length) cn (eP o.n)/\eU e bs 143 dv 1 Ad ((eP o.d).length) cd (eP o.d)/\fA e J 50 #[.int .i64 0,.slice none 0 0,.slice none 0 0,.slice none 0 0]/\eU e K.heap.size 66 fD 9 N b1.1.length O b1.1/\fA e Z 37 #[.slice U ((eP b1.2.1.n).length) V,.slice X ((eP b1.2.1.d).length) Y]/\eU e K.heap.size 143 dv 1 U ((eP b1.2.1.n).length) V (eP b1.2.1.n)/\eU e K.heap.size 143 dv 1 X ((eP b1.2.1.d).length) Y (eP b1.2.1.d)/\eU e aa.heap.size 3 iv 1 ab ((fq b1.1 share x).1.length) ac ((fq b1.1 share x).1)/\eU e aa.heap.size 3 iv 1 ad ((fq b1.1 share x).2.1.length) ae ((fq b1.1 share x).2.1)/\iN e base gp F (tq m b1.1 (fq b1.1 share x).1 k)) (fun k=>b1.1.length-k) 0 ?_ ?_ ?_
 ·exact .of rfl
 ·exact⟨Nat.zero_le _,(L5.le l),Nat.le_refl _,(((hB0.le (D.trans (b.trans h))).cn j (by have:=hB0.lt;have:=D.size;have:=b.size;omega)).le l),(((OL.le (D.trans (b.trans h))).cb j (OL.rn (by have:=D.size;have:=b.size;omega))).le l),(((hBd.le (D.trans (b.trans h))).cb j (hBd.rn (by have:=D.size;have:=b.size;omega))).le l),(((S.le (b.trans h)).cn j (by have:=S.lt;have:=b.size;omega)).le l),(f8.le l),(au.le l),bp,bq,ax,bn,bo⟩
 rintro k e ⟨hk,aj,bt,P,ay,az,ak,ah,aA,aB,aC,al,am,ai⟩
 have b8:K.heap.size<=e.heap.size:=by have:=b.size;have:=h.size;have:=j.size;have:=l.size;omega
 have b9:K.heap.size<=e.heap.size:=by have:=b.size;have:=h.size;have:=j.size;have:=l.size;omega
 have ca:K.heap.size<=e.heap.size:=by have:=b.size;have:=h.size;have:=j.size;have:=l.size;omega
 have cc:aa.heap.size<=e.heap.size:=by have:=l.size;omega
 have ce:aa.heap.size<=e.heap.size:=by have:=l.size;omega
 refine Sr (Wn 1 rfl (Nx (Sq ?_)))
 by_cases c1:((k:Nat):Int)<((b1.1.length:Nat):Int)
 ·refine Cy rfl (dT c1) (Sn (Sq (WC.block (Sr (Wn 1 rfl (Wa (.fV k underlying22 iI rfl rfl (aq.vec.isSome eQ (by omega)) rfl (by omega)) rfl (Wr (.j5 iJ rfl ah.vec eQ (gD b1.1 eO (by first|omega|(simp only[List.length_cons,List.length_nil];omega)))) rfl ?_)))))))
  refine W.ef rfl rfl rfl (Ef.fI z66 fun aE bu aF (bv:fA bu aE 66 (fD eO).toArray) u=>?_)
  have bw:=aj.le u
  refine Wn 1 rfl (W.iO rfl rfl (Ef.storeAll iI (by rfl) rfl rfl bv (by simp only[List.size_toArray,eQ.len]) (eQ.one (b1.1.getD k eO)) ?_))
  intro aW aG y
  have aG:fA aW aE 66 (fD (b1.1.getD k eO)).toArray:=aG
  have bx:jU w aW (fun k=>F k\/k=b6):=bw.ch y (fun i hi hlt=>by cases hi;exact absurd hlt (by have:=aj.size;have:=aF;omega))
  refine Nx (Sq (WC.draw [0,1,2,3,4,5,6] mixed (by kernel_rfl) fun w8 s=>?_))
  have aX:=bx.le s
  refine Gd rfl (.fe (v:= .pointer (some ⟨gp,0,none⟩)) Ny rfl (hE.h2.iQ aX hE.n2) rfl) ?_
  have aY:=(aG.le s)
  refine Gd rfl (.fB iJ (by rfl) rfl aY) ?_
  refine Gn 2 rfl (Ga rfl (.fV k underlying47 kR rfl rfl (ax.vec.isSome fT (by omega)) rfl (by omega)) ?_)
  have ap:=(((al.le u).cb y (al.rn (by omega))).le s)
  refine Gd rfl (.jB (v:= .int .i64 (((fq b1.1 share x).1).getD k 0)) gM rfl ap.vec fT (gD ((fq b1.1 share x).1) 0 (by first|omega|(simp only[List.length_cons,List.length_nil];omega))) rfl) ?_
  have bz:=(((ai.le u).ch y (fun q hqq hF=>by cases hqq;have:=ai.lt hF;have:=aF;omega)).le s)
  refine G.ef rfl rfl rfl rfl rfl (Ef.call Ym rfl rfl (EE (b1.1.getD k eO) (((fq b1.1 share x).1).getD k 0) bz) ?_)
  rintro _ cf ⟨rfl,bA,H,A⟩
  refine⟨_,rfl,?_⟩
  refine noT (by kernel_rfl) ?_
  have aZ:=(((P.le u).cn y (by have:=P.lt;omega)).le s)
  have a0:=(((ay.le u).cb y (ay.rn (by omega))).le s)
  have a1:=(((az.le u).cb y (az.rn (by omega))).le s)
  have a2:=(((ak.le u).cn y (by have:=ak.lt;omega)).le s)
  have aH:=(((ah.le u).cb y (ah.rn (by omega))).le s)
  have aI:=(((aB.le u).cb y (aB.rn (by omega))).le s)
  have aJ:=(((aC.le u).cb y (aC.rn (by omega))).le s)
  have a3:=(((aA.le u).cn y (by have:=aA.lt;omega)).le s)
  have aK:=(((am.le u).cb y (am.rn (by omega))).le s)
  have a4:=(show¬F b6 from hE.n6)
  have bB:¬F b6:=fun hF=>(H _ hF).elim a4 (fun hz=>by have:=aZ.lt;omega)
  have a5:=(show∀g,rowOf An cn=some g->¬F g from abx)
  have bC:∀g,rowOf An cn=some g->¬F g:=fun g hg hF=>(H _ hF).elim (a5 g hg) (fun hz=>by have:=(a0.row hg).2;omega)
  have a6:=(show∀g,rowOf Ad cd=some g->¬F g from aby)
  have bD:∀g,rowOf Ad cd=some g->¬F g:=fun g hg hF=>(H _ hF).elim (a6 g hg) (fun hz=>by have:=(a1.row hg).2;omega)
  have a7:=(show¬F J from(fun hF=>by have:=hP.lt hF;have:=ao;omega))
  have bE:¬F J:=fun hF=>(H _ hF).elim a7 (fun hz=>by have:=a2.lt;omega)
  have a8:=(show∀g,rowOf N O=some g->¬F g from(fun g hg hF=>by have:=I.lt hF;have:=(aH.row hg).1;omega))
  have bF:∀g,rowOf N O=some g->¬F g:=fun g hg hF=>(H _ hF).elim (a8 g hg) (fun hz=>by have:=(aH.row hg).2;omega)
  have a9:=(show∀g,rowOf U V=some g->¬F g from(fun g hg hF=>by have:=I.lt hF;have:=(aI.row hg).1;omega))
  have bG:∀g,rowOf U V=some g->¬F g:=fun g hg hF=>(H _ hF).elim (a9 g hg) (fun hz=>by have:=(aI.row hg).2;omega)
  have ba:=(show∀g,rowOf X Y=some g->¬F g from(fun g hg hF=>by have:=I.lt hF;have:=(aJ.row hg).1;omega))
  have bH:∀g,rowOf X Y=some g->¬F g:=fun g hg hF=>(H _ hF).elim (ba g hg) (fun hz=>by have:=(aJ.row hg).2;omega)
  have bb:=(show¬F Z from(fun hF=>by have:=I.lt hF;have:=b.size;have:=ar;omega))
  have bI:¬F Z:=fun hF=>(H _ hF).elim bb (fun hz=>by have:=a3.lt;omega)
  have bc:=(show∀g,rowOf ab ac=some g->¬F g from(fun g hg hF=>by have:=I.lt hF;have:=b.size;have:=h.size;have:=j.size;have:=(ap.row hg).1;omega))
  have bJ:∀g,rowOf ab ac=some g->¬F g:=fun g hg hF=>(H _ hF).elim (bc g hg) (fun hz=>by have:=(ap.row hg).2;omega)
  have bd:=(show∀g,rowOf ad ae=some g->¬F g from(fun g hg hF=>by have:=I.lt hF;have:=b.size;have:=h.size;have:=j.size;have:=(aK.row hg).1;omega))
  have bK:∀g,rowOf ad ae=some g->¬F g:=fun g hg hF=>(H _ hF).elim (bd g hg) (fun hz=>by have:=(aK.row hg).2;omega)
  refine G.nil (E.eY (WC.draw [0,1,2,3,4,5,6] mixed (by kernel_rfl) fun w9 t=>?_))
  have be:=(aX.sub A (fun i hi hlt=>(.inl hi))).le t
  refine Gd rfl (.fe (v:= .pointer (some ⟨gp,0,none⟩)) Ny rfl (hE.h2.iQ be hE.n2) rfl) (Gd rfl (.fB iJ (by rfl) rfl ((aY.iQ A (show¬F aE from(fun hF=>by have:=ai.lt hF;have:=aF;omega))).le t)) ?_)
  refine Gn 2 rfl (Ga rfl (.fV k underlying47 kR rfl rfl (ax.vec.isSome fT (by omega)) rfl (by omega)) ?_)
  have bf:=((ap.iQ A bc).le t)
  refine Gd rfl (.jB (v:= .int .i64 (((fq b1.1 share x).1).getD k 0)) gM rfl bf.vec fT (gD ((fq b1.1 share x).1) 0 (by first|omega|(simp only[List.length_cons,List.length_nil];omega))) rfl) ?_
  refine G.ef rfl rfl rfl rfl rfl (Ef.call aaU rfl rfl (Rb (b1.1.getD k eO) (((fq b1.1 share x).1).getD k 0) (bA.le t)) ?_)
  rintro _ ci ⟨rfl,bL,cj,C⟩
  refine⟨_,rfl,?_⟩
  refine noT (by kernel_rfl) ?_
  have bM:=((aH.iQ A a8).le t).iQ C (show∀g,rowOf N O=some g->¬F g from bF)
  have bN:=((aI.iQ A a9).le t).iQ C (show∀g,rowOf U V=some g->¬F g from bG)
  have bO:=((aJ.iQ A ba).le t).iQ C (show∀g,rowOf X Y=some g->¬F g from bH)
  have bP:=((a3.iQ A bb).le t).iQ C (show¬F Z from bI)
  have bQ:=bf.iQ C (show∀g,rowOf ab ac=some g->¬F g from bJ)
  have bR:=((aK.iQ A bd).le t).iQ C (show∀g,rowOf ad ae=some g->¬F g from bK)
  refine G.nil (E.gI (E.eY (WC.region (Wa (.add rfl rfl (by omega)) rfl (Wn 1 rfl (W.nil (E.again (k+1) (.of rfl) ?_ ?_)))))))
  ·exact⟨by omega,(be.sub C (fun i hi hlt=>(.inl hi))),by have:=bt;have:=u.size;have:=y.size;have:=s.size;have:=A.size;have:=t.size;have:=C.size;omega,(((aZ.iQ A a4).le t).iQ C (show¬F b6 from bB)),(((a0.iQ A a5).le t).iQ C (show∀g,rowOf An cn=some g->¬F g from bC)),(((a1.iQ A a6).le t).iQ C (show∀g,rowOf Ad cd=some g->¬F g from bD)),(((a2.iQ A a7).le t).iQ C (show¬F J from bE)),bM,bP,bN,bO,bQ,bR,bL⟩
  first|omega|(simp only[];omega)
 refine Cn rfl (dF c1) (WC.exit (E.fC (E.fC (E.gW (E.eY (Sr (Wr (.fB gQ (by rfl) rfl P) rfl ?_)))))))
 refine Wr (.fB gQ (by rfl) rfl aA) rfl ?_
 refine W.cl Wz rfl rfl (yI e ay.vec az.vec (by omega) (by omega) aB.vec aC.vec (by omega) (by omega)) ?_
 rintro _ ck ⟨bS,bT,bU,bV,rfl,aL,aM,af⟩
 have bW:=aj.le af
 refine W.sA gV rfl rfl (P.le af) ?_
 intro bg aO Q
 have aO:fA bg b6 37 #[.slice bS ((eP ((jW (fE (⟨o.n,o.d⟩:Fr)) (fE (⟨b1.2.1.n,b1.2.1.d⟩:Fr))).n)).length) bT,.slice bU ((eP ((jW (fE (⟨o.n,o.d⟩:Fr)) (fE (⟨b1.2.1.n,b1.2.1.d⟩:Fr))).d)).length) bV]:=aO
 have bX:jU w bg (fun k=>F k\/k=b6):=bW.ch Q (fun i hi _=>by cases hi;exact(.inr rfl))
 refine Nx (Sr (Wn 4 rfl (Wa (.gF [.int .i64 share,.slice N b1.1.length O,.slice ab ((fq b1.1 share x).1.length) ac,.slice ad ((fq b1.1 share x).2.1.length) ae] Zt z50 rfl rfl) rfl (W.sA rE rfl rfl ((ak.le af).cn Q (by have:=hB0.lt;omega)) ?_))))
 intro aP aQ R
 have aQ:fA aP J 50 #[.int .i64 share,.slice N b1.1.length O,.slice ab ((fq b1.1 share x).1.length) ac,.slice ad ((fq b1.1 share x).2.1.length) ae]:=aQ
 have bY:jU w aP (fun k=>F k\/k=b6):=bX.ch R (fun i hi hlt=>by cases hi;exact absurd hlt (by have:=L0.size;have:=ao;omega))
 refine Wn 1 rfl (Nx (Rt ?_))
 have bZ:=(((ai.le af).ch Q (fun q hqq hF=>by cases hqq;exact hE.n6 hF)).ch R (fun q hqq hF=>by cases hqq;have:=hP.lt hF;have:=ao;omega))
 have b0:=(aO.cn R (by have:=hB0.lt;omega))
 have aR:=((aL.cb Q (aL.rl (by have:=P.lt;omega))).cb R (aL.rl (by have:=ak.lt;omega)))
 have aS:=((aM.cb Q (aM.rl (by have:=P.lt;omega))).cb R (aM.rl (by have:=ak.lt;omega)))
 refine E.jb rfl (iB rfl aQ Tj (by rfl)) rfl ?_
 have Z6:okF b1.2.1:=by rw[T];exact(vg hgm aw).1
 have an:gz g m fr to share x=b1:=T.symm
 have hkl:k=b1.1.length:=(by omega)
 subst hkl
 have hmm:(⟨(jW (fE (⟨o.n,o.d⟩:Fr)) (fE (⟨b1.2.1.n,b1.2.1.d⟩:Fr))).n,(jW (fE (⟨o.n,o.d⟩:Fr)) (fE (⟨b1.2.1.n,b1.2.1.d⟩:Fr))).d⟩:Fr)=jW o b1.2.1:=(by rw[qM (f:=⟨o.n,o.d⟩) hok,qM (f:=⟨b1.2.1.n,b1.2.1.d⟩) Z6])
 have hmn:(jW (fE (⟨o.n,o.d⟩:Fr)) (fE (⟨b1.2.1.n,b1.2.1.d⟩:Fr)))=jW o b1.2.1:=hmm
 have hO:nG aP bs b6 (jW (fE (⟨o.n,o.d⟩:Fr)) (fE (⟨b1.2.1.n,b1.2.1.d⟩:Fr)),F):=⟨_,_,_,_,b0,((aR.mono aj.size).mono hbs),((aS.mono aj.size).mono hbs),(fun g hg hF=>by have:=ai.lt hF;have:=(aR.row hg).1;omega),(fun g hg hF=>by have:=ai.lt hF;have:=(aS.row hg).1;omega),(aR.rl (by have:=P.lt;omega)),(aS.rl (by have:=P.lt;omega))⟩
 rw[hmn]at hO
 refine⟨bY,.inr ⟨aw,⟨share,_,_,_,_,_,_,_,_,_⟩,rfl,⟨rfl,?_,?_,?_⟩,?_,?_⟩⟩
 ·rw[an];exact((((ah.le af).cb Q (ah.rl (by have:=hB0.lt;have:=D.size;omega))).cb R (ah.rl (by have:=S.lt;omega))).mono L.size)
 ·rw[an];exact((((al.le af).cb Q (al.rl (by have:=hB0.lt;have:=D.size;have:=b.size;have:=h.size;have:=j.size;omega))).cb R (al.rl (by have:=S.lt;have:=b.size;have:=h.size;have:=j.size;omega))).mono L5.size)
 ·rw[an];exact((((am.le af).cb Q (am.rl (by have:=hB0.lt;have:=D.size;have:=b.size;have:=h.size;have:=j.size;omega))).cb R (am.rl (by have:=S.lt;have:=b.size;have:=h.size;have:=j.size;omega))).mono L5.size)
 ·unfold stepT;rw[an];exact bZ
 unfold stepT;rw[an];exact hO
end Go.Proofs.YtkaedikifgpkeaaGreatDoor

namespace Go.Proofs.YtkaedikifgpkeaaGreatDoor
open Tryz
open Go Go.Sx Go.Num Go.fO Go.oF Go.uI Go.tH
set_option maxRecDepth 20000
set_option maxHeartbeats 4000000
theorem M3 {w:World}{base bs gp ng cg b1 b2 b3 b4 b5 b6:Nat}{F:Nat->Prop}{s:AV}{Ag:Option Addr}{g:List fO.Edge}{fr to x:Int}(share:Int)(hE:EZ w F gp Ag ng cg g fr to x b1 b2 b3 b4 b5 b6)(hP:iN w base gp F s.m)(hO:nG w bs b6 (s.fQ,F))(hl:kP s.fQ 5000)(hk:okF s.fQ)(hbs:bs<=w.heap.size):
    Calls prog 34 #[.int .i64 share,.pointer (some ⟨b1,0,none⟩),.pointer (some ⟨b2,0,none⟩),.pointer (some ⟨b3,0,none⟩),.pointer (some ⟨b4,0,none⟩),.pointer (some ⟨b5,0,none⟩),.pointer (some ⟨b6,0,none⟩)] w fun r w'=>jU w w' (fun k=>F k\/k=b6)/\(((gz g s.m fr to share x).2.2≠0/\r= .returned (.tuple #[.agg (sM gu).toArray,.bool false]))\/((gz g s.m fr to share x).2.2=0/\∃r1,r= .returned (.tuple #[.agg (sM r1).toArray,.bool true])/\oQ w' w.heap.size r1 ⟨share,(gz g s.m fr to share x).1,(fq (gz g s.m fr to share x).1 share x).1,(fq (gz g s.m fr to share x).1 share x).2.1⟩/\iN w' base gp F (stepT g fr to x s share).m/\nG w' bs b6 ((stepT g fr to x s share).fQ,F))):=by
  obtain⟨An,cn,Ad,cd,b,c,d,e,f,h,i⟩:=hO
  exact Ou (out:=s.out) share w hE hP b c d e f h i hl hk hbs
theorem Rz {w:World}{base bs gp ng cg b1 b2 b3 b4 b5 b6:Nat}{F:Nat->Prop}{s:AV}{Ag:Option Addr}{g:List fO.Edge}{fr to x:Int}(share:Int)(hE:EZ w F gp Ag ng cg g fr to x b1 b2 b3 b4 b5 b6)(hP:iN w base gp F s.m)(hO:nG w bs b6 (s.fQ,F))(hl:kP s.fQ 5000)(hk:okF s.fQ)(hbs:bs<=w.heap.size)(h:(gz g s.m fr to share x).2.2=0):
    Calls prog 34 #[.int .i64 share,.pointer (some ⟨b1,0,none⟩),.pointer (some ⟨b2,0,none⟩),.pointer (some ⟨b3,0,none⟩),.pointer (some ⟨b4,0,none⟩),.pointer (some ⟨b5,0,none⟩),.pointer (some ⟨b6,0,none⟩)] w fun r w'=>∃r1,r= .returned (.tuple #[.agg (sM r1).toArray,.bool true])/\oQ w' w.heap.size r1 ⟨share,(gz g s.m fr to share x).1,(fq (gz g s.m fr to share x).1 share x).1,(fq (gz g s.m fr to share x).1 share x).2.1⟩/\iN w' base gp F (stepT g fr to x s share).m/\nG w' bs b6 ((stepT g fr to x s share).fQ,F)/\jU w w' (fun k=>F k\/k=b6):=by
  refine Calls.mono (M3 share hE hP hO hl hk hbs) ?_
  rintro r w' ⟨hc,⟨k1,_⟩|⟨_,r1,k2,b,c,d⟩⟩
  · exact absurd h k1
  · exact⟨r1,k2,b,c,d,hc⟩
theorem UH {w:World}{base bs gp ng cg b1 b2 b3 b4 b5 b6:Nat}{F:Nat->Prop}{s:AV}{Ag:Option Addr}{g:List fO.Edge}{fr to x:Int}(share:Int)(hE:EZ w F gp Ag ng cg g fr to x b1 b2 b3 b4 b5 b6)(hP:iN w base gp F s.m)(hO:nG w bs b6 (s.fQ,F))(hl:kP s.fQ 5000)(hk:okF s.fQ)(hbs:bs<=w.heap.size)(h:¬(gz g s.m fr to share x).2.2=0):
    Calls prog 34 #[.int .i64 share,.pointer (some ⟨b1,0,none⟩),.pointer (some ⟨b2,0,none⟩),.pointer (some ⟨b3,0,none⟩),.pointer (some ⟨b4,0,none⟩),.pointer (some ⟨b5,0,none⟩),.pointer (some ⟨b6,0,none⟩)] w fun r w'=>r= .returned (.tuple #[.agg (sM gu).toArray,.bool false])/\jU w w' (fun k=>F k\/k=b6):=by
  refine Calls.mono (M3 share hE hP hO hl hk hbs) ?_
  rintro r w' ⟨hc,⟨_,k1⟩|⟨k1,_⟩⟩
  · exact⟨k1,hc⟩
  · exact absurd k1 h
theorem Db (a n:Int):(fw a n).length<=8:=by
  unfold fw
  split
  · exact Nat.zero_le _
  · rw[List.length_map,List.length_range];omega
def wJ:List tK->Int
  |[]=>0
  |p::ps=>p.sent.getD 0 0+wJ ps
theorem vB {ps:List tK}{k:Nat}(h:k<ps.length):wJ (ps.take (k+1))=wJ (ps.take k)+(ps.getD k jr).sent.getD 0 0:=by
  have ha:∀l:List tK,∀p,wJ (l++[p])=wJ l+p.sent.getD 0 0:=fun l p=>by
    induction l with
    |nil=>show p.sent.getD 0 0+0=0+p.sent.getD 0 0;omega
    |cons y l ih=>show y.sent.getD 0 0+wJ (l++[p])=y.sent.getD 0 0+wJ l+p.sent.getD 0 0;rw[ih];omega
  rw[List.take_add_one]
  simp only[List.getD,h,List.getElem?_eq_getElem,Option.toList,Option.getD]
  exact ha _ _
theorem Ov {ps:List tK}{k:Nat}(h:k<ps.length)(h0:(ps.getD k jr).sent.length=0):wJ (ps.take k)=wJ (ps.take (k+1)):=by
  rw[vB h,List.length_eq_zero_iff.1 h0]
  show _=_+(0:Int)
  omega
theorem Jy {g:List fO.Edge}{m:MF}{fr to a x n:Int}(h1:1<=n)(h8:n<=8)(h:(jk g m fr to a x n).2.2=1):(gz g m fr to a x).2.2=1:=by
  unfold jk at h
  split at h
  · omega
  · split at h
    · cases h
    · cases h
def RA (ps:List tK):Prop:=ps.length<=8/\∀p∈ps,∀s∈p.sent,0<=s/\s<=1125899906842624
theorem Gm {ps:List tK}(h:RA ps):∀k:Nat,0<=wJ (ps.take k)/\wJ (ps.take k)<=k*1125899906842624
  |0=>by simp[wJ]
  |k+1=>by
    have ih:=Gm h k
    rcases Nat.lt_or_ge k ps.length with q|q
    · rw[vB q]
      have hm:ps.getD k jr∈ps:=qp (z:=jr) q
      have:0<=(ps.getD k jr).sent.getD 0 0/\(ps.getD k jr).sent.getD 0 0<=1125899906842624:=by
        cases hs:(ps.getD k jr).sent with
        |nil=>simp
        |cons y l=>exact h.2 _ hm y (by rw[hs];exact List.mem_cons_self ..)
      omega
    · rw[List.take_of_length_le (by omega)]at ih ⊢
      omega
theorem Dc {base gp:Nat}{F:Nat->Prop}{m:MF}(fr to a x n:Int){A:Option Addr}{n0 c:Nat}{g:List fO.Edge}(w:World)(hP:iN w base gp F m)(hV:Vec w fD 9 A n0 g)(hn:n0<=1000000)(ha:a<=9223372036854775807):Calls prog 8 #[.slice A n0 c,.pointer (some ⟨gp,0,none⟩),.int .i64 fr,.int .i64 to,.int .i64 a,.int .i64 x,.int .i64 (n)] w fun r w'=>∃A c rs An cn Ad cd,r= .returned (.tuple #[.slice A (jk g m fr to a x n).1.length c,.agg #[.slice An (eP (jk g m fr to a x n).2.1.n).length cn,.slice Ad (eP (jk g m fr to a x n).2.1.d).length cd],.int .i64 (jk g m fr to a x n).2.2])/\eU w' w.heap.size 50 sM 4 A (jk g m fr to a x n).1.length c rs/\il w' w.heap.size rs (jk g m fr to a x n).1/\eU w' w.heap.size 143 dv 1 An (eP (jk g m fr to a x n).2.1.n).length cn (eP (jk g m fr to a x n).2.1.n)/\eU w' w.heap.size 143 dv 1 Ad (eP (jk g m fr to a x n).2.1.d).length cd (eP (jk g m fr to a x n).2.1.d)/\((jk g m fr to a x n).1=[]->A=none)/\Le w w':=by
 have hl:=hV.1
 have hgm:=hP.good
 refine enter func8 rfl rfl (Sr (W.ef rfl rfl rfl (Ef.box rfl fun Y bO c3 (ba:fA bO Y 22 #[.slice A n0 c]) bb=>?_)))
 have L1:=(Le.refl w).trans bb
 refine W.ef rfl rfl rfl (Ef.box rfl fun X bP bQ (av:fA bP X 30 #[.pointer (some ⟨gp,0,none⟩)]) aP=>(W.ef rfl rfl rfl (Ef.box rfl fun Z bR c4 (bS:fA bR Z 3 #[.int .i64 (fr)]) ad=>(W.ef rfl rfl rfl (Ef.box rfl ?_)))))
 intro aa bT c5 aQ ae
 have aQ:fA bT aa 3 #[.int .i64 (to)]:=aQ
 refine W.ef rfl rfl rfl (Ef.box rfl fun ab bU c6 (bV:fA bU ab 3 #[.int .i64 (x)]) af=>?_)
 have L5:=(((L1.trans aP).trans ad).trans ae).trans af
 refine Wn 1 rfl (W.ef rfl rfl rfl (Ef.fI z37 fun Q bc al (H:fA bc Q 37 #[.slice none 0 0,.slice none 0 0]) ah=>?_))
 have L6:=L5.trans ah
 refine Wn 1 rfl (Nx (Sq (Sr ?_)))
 have S:=(ba.le (aP.trans (ad.trans (ae.trans (af.trans ah)))))
 refine Wr (.fe (v:= .slice A n0 c) ni rfl S rfl) rfl ?_
 have f8:=(av.le (ad.trans (ae.trans (af.trans ah))))
 refine Wr (.fe (v:= .pointer (some ⟨gp,0,none⟩)) Ny rfl f8 rfl) rfl ?_
 have T:=(bS.le (ae.trans (af.trans ah)))
 refine Wr (.fe (v:= .int .i64 fr) gM rfl T rfl) rfl ?_
 have U:=(aQ.le (af.trans ah))
 refine Wr (.fe (v:= .int .i64 to) gM rfl U rfl) rfl (Wn 1 rfl ?_)
 have V:=(bV.le ah)
 refine Wr (.fe (v:= .int .i64 x) gM rfl V rfl) rfl ?_
 have aR:=(hP.le (bb.trans (aP.trans (ad.trans (ae.trans (af.trans ah))))))
 obtain⟨b0,am⟩:∃z,z=gz g m fr to a x:=⟨_,rfl⟩
 have bW:=rJ (g:=g) (fr:=fr) (to:=to) (a:=a) (x:=x) hgm
 rw[<-am]at bW
 refine W.cl Yo rfl rfl (by have k:=Jt (c:=c) fr to a x bc aR (hV.le L6) (by omega);rw[<-am]at k;exact k) ?_
 rintro _ c7 ⟨c8,c9,bX,bY,bZ,b1,rfl,da,db,dc,b⟩
 have bd:=L6.trans b
 refine Wn 2 rfl (Wa (.extract (v:= .agg #[.slice bX ((eP b0.2.1.n).length) bY,.slice bZ ((eP b0.2.1.d).length) b1]) rfl rfl) rfl (Wn 1 rfl (W.ef rfl rfl rfl (Ef.fI z37 fun b2 b3 be (b4:fA b3 b2 37 #[.slice none 0 0,.slice none 0 0]) e=>(Wn 1 rfl (W.sA gV rfl rfl b4 ?_))))))
 intro aS dd f
 have aC:=(bd.trans e).tb f bd be
 refine Wn 1 rfl (Nx (Sr (Wn 2 rfl ?_)))
 by_cases bf:n<1
 ·refine Dt bf rfl rfl (Wn 7 rfl (Nx (WC.gL rfl (Sr (Wa (.gF [.slice none 0 0,.slice none 0 0] jY z37 rfl rfl) rfl (Wn 1 rfl (W.sA gV rfl rfl ((H.le (b.trans e)).cn f (by have:=H.lt;have:=b.size;omega)) ?_)))))))
  intro b5 aT b6
  have aT:fA b5 Q 37 #[.slice none 0 0,.slice none 0 0]:=aT
  have b7:=aC.tb b6 L5 al
  refine Wn 1 rfl (Nx (Rt (E.eX (E.gU rfl rfl (iB rfl aT gQ (by rfl)) rfl ?_))))
  rw[kv (by rw[<-am];omega)]
  exact⟨none,0,[],none,0,none,0,by simp only[eT];rfl,eU.nil _ _ _ _ _ _,il.nil _ _,by simp only[eT];exact eU.nil _ _ _ _ _ _,by simp only[eT];exact eU.nil _ _ _ _ _ _,fun _=>rfl,b7⟩
 refine Df bf rfl rfl (Wn 3 rfl ?_)
 by_cases bg:8<n
 ·refine Dt bg rfl rfl (Wn 3 rfl (Nx (WC.gL rfl (Sr (Wa (.gF [.slice none 0 0,.slice none 0 0] jY z37 rfl rfl) rfl (Wn 1 rfl (W.sA gV rfl rfl ((H.le (b.trans e)).cn f (by have:=H.lt;have:=b.size;omega)) ?_)))))))
  intro b8 aU b9
  have aU:fA b8 Q 37 #[.slice none 0 0,.slice none 0 0]:=aU
  have ca:=aC.tb b9 L5 al
  refine Wn 1 rfl (Nx (Rt (E.eX (E.gU rfl rfl (iB rfl aU gQ (by rfl)) rfl ?_))))
  rw[kv (by rw[<-am];omega)]
  exact⟨none,0,[],none,0,none,0,by simp only[eT];rfl,eU.nil _ _ _ _ _ _,il.nil _ _,by simp only[eT];exact eU.nil _ _ _ _ _ _,by simp only[eT];exact eU.nil _ _ _ _ _ _,fun _=>rfl,ca⟩
 refine Df bg rfl rfl (Wn 3 rfl (Nx ?_))
 by_cases c0:b0.2.2=1
 ·refine Cy rfl (dT c0) (Sr (Wa (.gF [.slice none 0 0,.slice none 0 0] jY z37 rfl rfl) rfl (Wn 1 rfl (W.sA gV rfl rfl ((H.le (b.trans e)).cn f (by have:=H.lt;have:=b.size;omega)) ?_))))
  intro cc aV ce
  have aV:fA cc Q 37 #[.slice none 0 0,.slice none 0 0]:=aV
  have cf:=aC.tb ce L5 al
  refine Wn 1 rfl (Nx (Rt (E.eX (E.gU rfl rfl (iB rfl aV gQ (by rfl)) rfl ?_))))
  rw[kv (by rw[<-am];omega)]
  exact⟨none,0,[],none,0,none,0,by simp only[eT];rfl,eU.nil _ _ _ _ _ _,il.nil _ _,by simp only[eT];exact eU.nil _ _ _ _ _ _,by simp only[eT];exact eU.nil _ _ _ _ _ _,fun _=>rfl,cf⟩
 refine Cn rfl (dF c0) ?_
 have aW:¬(n<1\/8<n\/(gz g m fr to a x).2.2=1):=by rw[<-am];omega
 refine Sn (Sr (Wn 2 rfl (W.cl PY rfl rfl (rP a n aS (by omega)) ?_)))
 rintro _ cg ⟨aX,bh,rfl,an,bi,j⟩
 have ao:=aC.trans j
 refine Wn 1 rfl (Nx (Sq (Sr (Wn 1 rfl (Wa (.isNil underlying47 rfl) rfl (Nx ?_))))))
 by_cases c1:aX.isNone=true
 ·refine Cy rfl c1 (Sr (Wa (.gF [.slice none 0 0,.slice none 0 0] jY z37 rfl rfl) rfl (Wn 1 rfl (W.sA gV rfl rfl (((H.le (b.trans e)).cn f (by have:=H.lt;have:=b.size;omega)).le j) ?_))))
  intro ci aY cj
  have aY:fA ci Q 37 #[.slice none 0 0,.slice none 0 0]:=aY
  have ck:=ao.tb cj L5 al
  refine Wn 1 rfl (Nx (Rt (E.eX (E.gU rfl rfl (iB rfl aY gQ (by rfl)) rfl ?_))))
  rw[vk aW (.inl (of_decide_eq_true (bi.symm.trans (by assumption))))]
  exact⟨none,0,[],none,0,none,0,by simp only[eT];rfl,eU.nil _ _ _ _ _ _,il.nil _ _,by simp only[eT];exact eU.nil _ _ _ _ _ _,by simp only[eT];exact eU.nil _ _ _ _ _ _,fun _=>rfl,ck⟩
 refine Cn rfl (Bool.eq_false_iff.2 c1) ?_
 have hsn:fw a n≠[]:=fun hh=>absurd (bi.trans (dT hh)) (by assumption)
 have de:=Db a n
 refine Sn (Sr ?_)
 have ap:=(((f8.le (b.trans e)).cn f (by have:=f8.lt;have:=b.size;omega)).le j)
 refine Wr (.fe (v:= .pointer (some ⟨gp,0,none⟩)) Ny rfl ap rfl) rfl ?_
 have cm:=(((aR.le (b.trans e)).ch f (fun q hqq hF=>by cases hqq;have:=aR.lt hF;have:=b.size;have:=be;omega)).le j)
 refine W.cl aaT rfl rfl (N7 cm) ?_
 rintro _ dg ⟨aw,ac,rfl,aq,t⟩
 refine W.iO rfl rfl (Ef.store aaz rfl rfl (ap.le t) (by first|decide|(simp;done)) rfl ?_)
 intro ax ai o
 have ai:fA ax X 30 #[.pointer (some ⟨aw,0,none⟩)]:=ai
 have aZ:=(ao.trans t).tb o L1 bQ
 refine Nx (Sr (W.cl Wx rfl rfl (KA 1 1 ax (by omega) (by omega) (by omega)) ?_))
 rintro _ dh ⟨bj,bk,bl,bm,rfl,a0,a1,l⟩
 have ar:=aZ.trans l
 refine Wn 1 rfl (Wa (.extract (v:= .agg #[.slice bj ((eP ((gY 1 1).n)).length) bk,.slice bl ((eP ((gY 1 1).d)).length) bm]) rfl rfl) rfl (Wn 1 rfl (W.ef rfl rfl rfl (Ef.fI z37 fun u cp aj (cq:fA cp u 37 #[.slice none 0 0,.slice none 0 0]) L=>(W.sA gV rfl rfl cq ?_)))))
 intro R a2 N
 have a2:fA R u 37 #[.slice bj ((eP ((gY 1 1).n)).length) bk,.slice bl ((eP ((gY 1 1).d)).length) bm]:=a2
 have aE:=(ar.trans L).tb N ar aj
 refine Wn 1 rfl (Nx (Sr ?_))
 have bn:=((a0.le L).cb N (a0.rn (by omega)))
 have bo:=((a1.le L).cb N (a1.rn (by omega)))
 have hgo:¬ac u:=(fun hF=>by have:=aq.lt hF;have:=o.size;have:=l.size;have:=aj;omega)
 have cr:(⟨(gY 1 1).n,(gY 1 1).d⟩:Fr)=⟨1,1⟩:=by decide
 have aF:nG R ax.heap.size u ((⟨(gY 1 1).n,(gY 1 1).d⟩:Fr),ac):=⟨_,_,_,_,a2,bn,bo,(fun g hg hF=>by have:=aq.lt hF;have:=o.size;have:=(bn.row hg).1;omega),(fun g hg hF=>by have:=aq.lt hF;have:=o.size;have:=(bo.row hg).1;omega),(a0.rn (by omega)),(a1.rn (by omega))⟩
 rw[cr]at aF
 refine Wa (.makeFunc rfl) rfl (Wn 1 rfl (Nx (Sr (Wn 1 rfl (Nx (Sq (Sr (Wn 1 rfl (Wr (.len underlying47 rfl) rfl (Wn 1 rfl (Nx (WC.block ?_))))))))))))
 have aG:=(((aq.ch o (fun q hqq hF=>by cases hqq;have:=aq.old hF;have:=ap.lt;omega)).le (l.trans L)).ch N (fun q hqq hF=>by cases hqq;have:=aq.lt hF;have:=o.size;have:=l.size;have:=aj;omega))
 have a3:=((((((H.le (b.trans e)).cn f (by have:=H.lt;have:=b.size;omega)).le (j.trans t)).cn o (by have:=av.lt;have:=ad.size;have:=ae.size;have:=af.size;omega)).le (l.trans L)).cn N (by have:=H.lt;have:=b.size;have:=e.size;have:=f.size;have:=j.size;have:=t.size;have:=o.size;have:=l.size;omega))
 have bp:=((((((S.le (b.trans e)).cn f (by have:=S.lt;have:=b.size;omega)).le (j.trans t)).cn o (by have:=ba.lt;omega)).le (l.trans L)).cn N (by have:=S.lt;have:=b.size;have:=e.size;have:=f.size;have:=j.size;have:=t.size;have:=o.size;have:=l.size;omega))
 have bq:=((ai.le (l.trans L)).cn N (by have:=ai.lt;have:=l.size;omega))
 have bs:=((((((T.le (b.trans e)).cn f (by have:=T.lt;have:=b.size;omega)).le (j.trans t)).cn o (by have:=av.lt;omega)).le (l.trans L)).cn N (by have:=T.lt;have:=b.size;have:=e.size;have:=f.size;have:=j.size;have:=t.size;have:=o.size;have:=l.size;omega))
 have bt:=((((((U.le (b.trans e)).cn f (by have:=U.lt;have:=b.size;omega)).le (j.trans t)).cn o (by have:=av.lt;have:=ad.size;omega)).le (l.trans L)).cn N (by have:=U.lt;have:=b.size;have:=e.size;have:=f.size;have:=j.size;have:=t.size;have:=o.size;have:=l.size;omega))
 have bu:=((((((V.le (b.trans e)).cn f (by have:=V.lt;have:=b.size;omega)).le (j.trans t)).cn o (by have:=av.lt;have:=ad.size;have:=ae.size;omega)).le (l.trans L)).cn N (by have:=V.lt;have:=b.size;have:=e.size;have:=f.size;have:=j.size;have:=t.size;have:=o.size;have:=l.size;omega))
 have bv:=((((an.le t).cb o (an.rl (by have:=f8.lt;have:=b.size;have:=e.size;have:=f.size;omega))).le (l.trans L)).cb N (an.rn (by have:=t.size;have:=o.size;have:=l.size;omega)))
 refine WC.loop (ι:=Nat×AV×(Option Addr)×Nat×(List yU)) (fun⟨i,s,Ao,co,ro⟩=>[(15,.pointer (some ⟨Q,0,none⟩)),(21,.pointer (some ⟨u,0,none⟩)),(23,.func (.func 34) #[] #[.pointer (some ⟨Y,0,none⟩),.pointer (some ⟨X,0,none⟩),.pointer (some ⟨Z,0,none⟩),.pointer (some ⟨aa,0,none⟩),.pointer (some ⟨ab,0,none⟩),.pointer (some ⟨u,0,none⟩)]),(24,.slice Ao s.out.length co),(64,.slice aX ((fw a n).length) bh),(65,.int .i64 (((fw a n).length:Nat):Int)),(66,.int .i64 ((i:Nat):Int))]) (fun⟨i,s,Ao,co,ro⟩ C=>(i<=(fw a n).length)/\(((fw a n).take i).foldl (oK g fr to x) (some ⟨[],⟨1,1⟩,m⟩)=some s)/\(kP s.fQ (1+100*i))/\(okF s.fQ)/\Le w C/\R.heap.size<=C.heap.size/\fA C Q 37 #[.slice none 0 0,.slice none 0 0]/\nG C ax.heap.size u (s.fQ,ac)/\fA C Y 22 #[.slice A n0 c]/\fA C X 30 #[.pointer (some ⟨aw,0,none⟩)]/\fA C Z 3 #[.int .i64 (fr)]/\fA C aa 3 #[.int .i64 (to)]/\fA C ab 3 #[.int .i64 (x)]/\eU C R.heap.size 50 sM 4 Ao s.out.length co ro/\il C R.heap.size ro s.out/\eU C aS.heap.size 3 iv 1 aX ((fw a n).length) bh (fw a n)/\iN C cg.heap.size aw ac s.m) (fun⟨i,s,Ao,co,ro⟩=>(fw a n).length-i) (0,(⟨[],⟨1,1⟩,m⟩:AV),none,0,([])) ?_ ?_ ?_
 ·exact .of rfl
 ·exact⟨Nat.zero_le _,rfl,(show kP ⟨1,1⟩ 1 from⟨gJ (by decide),gJ (by decide)⟩),(show okF ⟨1,1⟩ by unfold okF;decide),aE,Nat.le_refl _,a3,aF,bp,bq,bs,bt,bu,(eU.nil R R.heap.size 50 sM 4 none),(il.nil R R.heap.size),bv,aG⟩
 rintro⟨i,s,Ao,co,ro⟩ C ⟨hi,hs,hlo,hok,ay,cs,az,a4,aH,aI,aJ,aK,aL,au,bw,a5,y⟩
 have bx:ax.heap.size<=C.heap.size:=by have:=l.size;have:=L.size;have:=N.size;omega
 have di:R.heap.size<=C.heap.size:=by omega
 have bz:R.heap.size<=C.heap.size:=by omega
 have dj:aS.heap.size<=C.heap.size:=by have:=j.size;have:=t.size;have:=o.size;have:=l.size;have:=L.size;have:=N.size;omega
 have hcn:s.out.length=min i (fw a n).length:=by have:=xQ hs;simpa using this
 refine Sr (Wn 1 rfl (Nx (Sq ?_)))
 by_cases c2:((i:Nat):Int)<(((fw a n).length:Nat):Int)
 ·refine Cy rfl (dT c2) (Sn (Sq (WC.block (Sr (Wa (.fV i underlying47 kR rfl rfl (an.vec.isSome fT (by omega)) rfl (by omega)) rfl (Wr (.jB (v:= .int .i64 ((fw a n).getD i 0)) gM rfl a5.vec fT (gD (fw a n) 0 (by first|omega|(simp only[List.length_cons,List.length_nil];omega))) rfl) rfl ?_))))))
  refine Wn 1 rfl (Nx (Sr (Wn 2 rfl ?_)))
  by_cases bA:(gz g s.m fr to ((fw a n).getD i 0) x).2.2=0
  ·have ct:EZ C ac aw A n0 c g fr to x Y X Z aa ab u:=⟨aH,aI,aJ,aK,aL,(hV.le ay),(fun h=>h.elim (fun hF=>(fun hF=>by have:=y.old hF;have:=S.lt;have:=b.size;have:=e.size;have:=f.size;have:=j.size;omega) hF) (fun he=>(show Y≠u from by have:=S.lt;have:=b.size;have:=e.size;have:=f.size;have:=j.size;have:=t.size;have:=o.size;have:=l.size;omega) he)),(fun h=>h.elim (fun hF=>(fun hF=>by have:=y.old hF;have:=ap.lt;omega) hF) (fun he=>(show X≠u from by have:=ai.lt;have:=l.size;omega) he)),(fun h=>h.elim (fun hF=>(fun hF=>by have:=y.old hF;have:=T.lt;have:=b.size;have:=e.size;have:=f.size;have:=j.size;omega) hF) (fun he=>(show Z≠u from by have:=T.lt;have:=b.size;have:=e.size;have:=f.size;have:=j.size;have:=t.size;have:=o.size;have:=l.size;omega) he)),(fun h=>h.elim (fun hF=>(fun hF=>by have:=y.old hF;have:=U.lt;have:=b.size;have:=e.size;have:=f.size;have:=j.size;omega) hF) (fun he=>(show aa≠u from by have:=U.lt;have:=b.size;have:=e.size;have:=f.size;have:=j.size;have:=t.size;have:=o.size;have:=l.size;omega) he)),(fun h=>h.elim (fun hF=>(fun hF=>by have:=y.old hF;have:=V.lt;have:=b.size;have:=e.size;have:=f.size;have:=j.size;omega) hF) (fun he=>(show ab≠u from by have:=V.lt;have:=b.size;have:=e.size;have:=f.size;have:=j.size;have:=t.size;have:=o.size;have:=l.size;omega) he)),(show¬ac u from hgo),(fun q h1 h2 _ he=>by have:=hV.jc eQ h2 h1;rcases he with hF|hF;(have:=y.old hF;have:=ao.size;omega);(subst hF;have:=ar.size;have:=aj;omega)),hn⟩
   refine W.ef rfl rfl rfl (Ef.xm Yp rfl rfl rfl (Rz ((fw a n).getD i 0) ct y a4 (hlo.up (by omega)) hok (by have:=bx;omega) bA) ?_)
   rintro _ dk ⟨ak,rfl,cu,bB,cv,D⟩
   refine⟨_,rfl,?_⟩
   have bC:=ay.nP D (fun i hi=>Or.elim hi (fun hi=>Nat.le_trans ao.size (y.old hi)) (fun hi=>(by subst hi;exact Nat.le_trans ar.size aj)))
   refine Wn 1 rfl (Wa (.extract (v:= .agg (sM ak).toArray) rfl rfl) rfl (Wn 1 rfl (W.ef rfl rfl rfl (Ef.fI z50 fun bD cw bE (aM:fA cw bD 50 (sM gu).toArray) I=>(W.iO rfl rfl (Ef.storeAll rE (by rfl) rfl rfl aM (by simp only[List.size_toArray,gy.len]) (gy.one ak) ?_))))))
   intro bF a6 J
   have a6:fA bF bD 50 (sM ak).toArray:=a6
   refine Wn 1 rfl (Nx (Sq (Sr (Wn 2 rfl (Nx (WC.iD rfl (Sn (WC.region (Wn 1 rfl (Wr (.fB Tj (by rfl) rfl a6) rfl ?_))))))))))
   refine W.ef rfl rfl rfl (Ef.gq (len:=1) [_] underlying34 Ti rfl (by simp[Value.cells,gy.len]) rfl (by decide) (by decide) ?_)
   intro bG bH cx aO K
   have aO:fA bH bG 50 (([ak]).map sM).flatten.toArray:=aO
   have dl:eU bH bF.heap.size 50 sM 4 (some ⟨bG,0,none⟩) 1 1 ([ak]):=aO.kL cx gy rfl rfl (by decide)
   have O:=((((au.iQ D (fun q hqq hF=>Or.elim hF (fun hF=>((fun g hg hF=>by have:=aG.lt hF;have:=(au.row hg).1;omega) q hqq hF)) (fun hF=>(by subst hF;exact(au.rl (by have:=aF.lt;omega)) hqq)))).le I).cb J (au.rn (by have:=D.size;omega))).le K)
   refine W.ef rfl rfl rfl (Ef.mP (a:=ak) underlying34 Ti underlying34 gy rfl O rfl aO (by omega) (by unfold maxLen;omega) (by have:=bz;have:=D.size;have:=I.size;have:=J.size;have:=K.size;omega) ?_)
   intro cy cz dm cA P dn
   refine Wn 1 rfl ?_
   have cB:=(((((bw.iQ D (fun i hF=>Or.elim hF (fun hF=>(by have:=aG.lt hF;omega)) (fun hF=>(by subst hF;have:=aF.lt;omega)))).le I).qy J aM (by decide) (by decide)).le K).MZ P O (by decide) (by decide))
   have cC:=((((cu.le I).qy J aM (by decide) (by decide)).le K).MZ P O (by decide) (by decide))
   have Xq:=cB.push (cC.mono (by have:=bz;omega))
   refine W.nil (E.gI (E.eY (WC.region (Wa (.add rfl rfl (by omega)) rfl (Wn 1 rfl (W.nil ?_))))))
   have cD:=(((((az.iQ D (fun hF=>Or.elim hF (fun hF=>((fun hF=>by have:=y.old hF;have:=H.lt;have:=b.size;have:=e.size;have:=f.size;have:=j.size;omega) hF)) (fun hF=>(show Q≠u from by have:=H.lt;have:=b.size;have:=e.size;have:=f.size;have:=j.size;have:=t.size;have:=o.size;have:=l.size;omega) hF))).le I).cn J (by have:=az.lt;have:=D.size;omega)).le K).ch P (O.rl (by have:=a3.lt;omega)))
   have cE:=((((cv.le I).qy J aM (by decide) (by decide)).le K).MZ P O (by decide) (by decide))
   have cF:=(((((aH.iQ D (fun hF=>Or.elim hF (fun hF=>((fun hF=>by have:=y.old hF;have:=S.lt;have:=b.size;have:=e.size;have:=f.size;have:=j.size;omega) hF)) (fun hF=>(show Y≠u from by have:=S.lt;have:=b.size;have:=e.size;have:=f.size;have:=j.size;have:=t.size;have:=o.size;have:=l.size;omega) hF))).le I).cn J (by have:=aH.lt;have:=D.size;omega)).le K).ch P (O.rl (by have:=bp.lt;omega)))
   have cG:=(((((aI.iQ D (fun hF=>Or.elim hF (fun hF=>((fun hF=>by have:=y.old hF;have:=ap.lt;omega) hF)) (fun hF=>(show X≠u from by have:=ai.lt;have:=l.size;omega) hF))).le I).cn J (by have:=aI.lt;have:=D.size;omega)).le K).ch P (O.rl (by have:=bq.lt;omega)))
   have cH:=(((((aJ.iQ D (fun hF=>Or.elim hF (fun hF=>((fun hF=>by have:=y.old hF;have:=T.lt;have:=b.size;have:=e.size;have:=f.size;have:=j.size;omega) hF)) (fun hF=>(show Z≠u from by have:=T.lt;have:=b.size;have:=e.size;have:=f.size;have:=j.size;have:=t.size;have:=o.size;have:=l.size;omega) hF))).le I).cn J (by have:=aJ.lt;have:=D.size;omega)).le K).ch P (O.rl (by have:=bs.lt;omega)))
   have cI:=(((((aK.iQ D (fun hF=>Or.elim hF (fun hF=>((fun hF=>by have:=y.old hF;have:=U.lt;have:=b.size;have:=e.size;have:=f.size;have:=j.size;omega) hF)) (fun hF=>(show aa≠u from by have:=U.lt;have:=b.size;have:=e.size;have:=f.size;have:=j.size;have:=t.size;have:=o.size;have:=l.size;omega) hF))).le I).cn J (by have:=aK.lt;have:=D.size;omega)).le K).ch P (O.rl (by have:=bt.lt;omega)))
   have cJ:=(((((aL.iQ D (fun hF=>Or.elim hF (fun hF=>((fun hF=>by have:=y.old hF;have:=V.lt;have:=b.size;have:=e.size;have:=f.size;have:=j.size;omega) hF)) (fun hF=>(show ab≠u from by have:=V.lt;have:=b.size;have:=e.size;have:=f.size;have:=j.size;have:=t.size;have:=o.size;have:=l.size;omega) hF))).le I).cn J (by have:=aL.lt;have:=D.size;omega)).le K).ch P (O.rl (by have:=bu.lt;omega)))
   have cK:=(((((a5.iQ D (fun q hqq hF=>Or.elim hF (fun hF=>((fun g hg hF=>by have:=y.old hF;have:=(an.row hg).2;omega) q hqq hF)) (fun hF=>(by subst hF;exact(an.rn (by have:=t.size;have:=o.size;have:=l.size;omega)) hqq)))).le I).cb J (a5.rn (by have:=D.size;omega))).le K).ch P (Apart.symm (fun q h1 h2=>by have:=(bv.row h1).2;have:=(O.row h2).1;omega)))
   have cL:=((((bB.le I).ch J (fun q hqq hF=>by cases hqq;have:=bB.lt hF;have:=bE;omega)).le K).ch P (fun q hqq hF=>by have:=(O.row hqq).1;have:=aG.lt hF;omega))
   refine E.again (i+1,(stepT g fr to x s ((fw a n).getD i 0)),cy,cz,(ro++[ak])) (.cons rfl (.cons rfl (.cons rfl (.cons' rfl (kJ (by simp[stepT])) (.of rfl))))) ?_ ?_
   ·exact⟨by omega,(by rw[xP (by omega) hs];exact Jw (by assumption)),((hlo.mul ((rJ (g:=g) (fr:=fr) (to:=to) (a:=((fw a n).getD i 0)) (x:=x) y.good).2)).up (by omega)),Aj hok (vg y.good (by assumption)).1,((((bC.trans I).tb J bC bE).trans K).gG P (fun q hq=>Nat.le_trans aE.size (O.row hq).1)),by have:=cs;have:=D.size;have:=I.size;have:=J.size;have:=K.size;have:=P.size;omega,cD,cE,cF,cG,cH,cI,cJ,(cA.cast (by simp[stepT]) rfl),Xq,cK,cL⟩
   first|omega|(simp only[];omega)
  have cM:EZ C ac aw A n0 c g fr to x Y X Z aa ab u:=⟨aH,aI,aJ,aK,aL,(hV.le ay),(fun h=>h.elim (fun hF=>(fun hF=>by have:=y.old hF;have:=S.lt;have:=b.size;have:=e.size;have:=f.size;have:=j.size;omega) hF) (fun he=>(show Y≠u from by have:=S.lt;have:=b.size;have:=e.size;have:=f.size;have:=j.size;have:=t.size;have:=o.size;have:=l.size;omega) he)),(fun h=>h.elim (fun hF=>(fun hF=>by have:=y.old hF;have:=ap.lt;omega) hF) (fun he=>(show X≠u from by have:=ai.lt;have:=l.size;omega) he)),(fun h=>h.elim (fun hF=>(fun hF=>by have:=y.old hF;have:=T.lt;have:=b.size;have:=e.size;have:=f.size;have:=j.size;omega) hF) (fun he=>(show Z≠u from by have:=T.lt;have:=b.size;have:=e.size;have:=f.size;have:=j.size;have:=t.size;have:=o.size;have:=l.size;omega) he)),(fun h=>h.elim (fun hF=>(fun hF=>by have:=y.old hF;have:=U.lt;have:=b.size;have:=e.size;have:=f.size;have:=j.size;omega) hF) (fun he=>(show aa≠u from by have:=U.lt;have:=b.size;have:=e.size;have:=f.size;have:=j.size;have:=t.size;have:=o.size;have:=l.size;omega) he)),(fun h=>h.elim (fun hF=>(fun hF=>by have:=y.old hF;have:=V.lt;have:=b.size;have:=e.size;have:=f.size;have:=j.size;omega) hF) (fun he=>(show ab≠u from by have:=V.lt;have:=b.size;have:=e.size;have:=f.size;have:=j.size;have:=t.size;have:=o.size;have:=l.size;omega) he)),(show¬ac u from hgo),(fun q h1 h2 _ he=>by have:=hV.jc eQ h2 h1;rcases he with hF|hF;(have:=y.old hF;have:=ao.size;omega);(subst hF;have:=ar.size;have:=aj;omega)),hn⟩
  refine W.ef rfl rfl rfl (Ef.xm Yp rfl rfl rfl (UH ((fw a n).getD i 0) cM y a4 (hlo.up (by omega)) hok (by have:=bx;omega) bA) ?_)
  rintro _ dp ⟨rfl,a7⟩
  refine⟨_,rfl,?_⟩
  have bI:=ay.nP a7 (fun i hi=>Or.elim hi (fun hi=>Nat.le_trans ao.size (y.old hi)) (fun hi=>(by subst hi;exact Nat.le_trans ar.size aj)))
  refine Wn 1 rfl (Wa (.extract (v:= .agg (sM gu).toArray) rfl rfl) rfl (Wn 1 rfl (W.ef rfl rfl rfl (Ef.fI z50 fun bJ cN cO (cP:fA cN bJ 50 (sM gu).toArray) bK=>(W.iO rfl rfl (Ef.storeAll rE (by rfl) rfl rfl cP (by simp only[List.size_toArray,gy.len]) (gy.one gu) ?_))))))
  intro cQ bL bM
  have bL:fA cQ bJ 50 (sM gu).toArray:=bL
  refine Wn 1 rfl (Nx (Sq (Sr (Wn 2 rfl (Nx (WC.gL rfl (Sr (Wa (.gF [.slice none 0 0,.slice none 0 0] jY z37 rfl rfl) rfl (Wn 1 rfl (W.sA gV rfl rfl (((az.iQ a7 (fun hF=>Or.elim hF (fun hF=>((fun hF=>by have:=y.old hF;have:=H.lt;have:=b.size;have:=e.size;have:=f.size;have:=j.size;omega) hF)) (fun hF=>(show Q≠u from by have:=H.lt;have:=b.size;have:=e.size;have:=f.size;have:=j.size;have:=t.size;have:=o.size;have:=l.size;omega) hF))).le bK).cn bM (by have:=az.lt;have:=a7.size;omega)) ?_))))))))))
  intro cR a8 cS
  have a8:fA cR Q 37 #[.slice none 0 0,.slice none 0 0]:=a8
  have cT:=((bI.trans bK).tb bM bI cO).tb cS L5 al
  refine Wn 1 rfl (Nx (Rt (E.eX (E.gT (E.eX (E.eX (E.gT (E.eX (E.gU rfl rfl (iB rfl a8 gQ (by rfl)) rfl ?_)))))))))
  rw[vk aW (.inr (I9 (k:=i+1) (by rw[xP (by omega) hs];exact M0 (by assumption))))]
  exact⟨none,0,[],none,0,none,0,by simp only[eT];rfl,eU.nil _ _ _ _ _ _,il.nil _ _,by simp only[eT];exact eU.nil _ _ _ _ _ _,by simp only[eT];exact eU.nil _ _ _ _ _ _,fun _=>rfl,cT⟩
 refine Cn rfl (dF c2) (WC.exit (E.fC (E.fC (E.gW (E.eY (Sq (WC.draw [0,1,2,3,4] mixed (by kernel_rfl) fun dq aA=>(Gn 1 rfl ?_))))))))
 have cU:=(a4.le aA)
 obtain⟨Anz,cnz,Adz,cdz,hbz,hnz,hdz,_⟩:=cU
 refine Gd rfl (.fB gQ (by rfl) rfl hbz) ?_
 refine Gn 1 rfl ?_
 have bN:=(az.le aA)
 refine G.iO rfl rfl rfl rfl (Ef.storeAll gV (by rfl) rfl rfl bN (by rfl) (by simp[Value.oneCell']) ?_)
 intro cV a9 aB
 refine noT (by kernel_rfl) ?_
 have a9:fA cV Q 37 #[.slice Anz ((eP s.fQ.n).length) cnz,.slice Adz ((eP s.fQ.d).length) cdz]:=a9
 refine Gn 1 rfl (G.nil (E.eY (Rt ?_)))
 have cW:=((bw.le aA).qy aB bN (by decide) (by decide))
 have cX:=((au.le aA).cb aB (au.rl (by have:=a3.lt;omega)))
 have cY:=(hnz.cb aB (hnz.rl (by have:=H.lt;have:=b.size;have:=e.size;have:=f.size;have:=j.size;have:=t.size;have:=o.size;omega)))
 have cZ:=(hdz.cb aB (hdz.rl (by have:=H.lt;have:=b.size;have:=e.size;have:=f.size;have:=j.size;have:=t.size;have:=o.size;omega)))
 refine E.gU rfl rfl (iB rfl a9 gQ (by rfl)) rfl ?_
 have hil:i=(fw a n).length:=(by omega)
 have htl:(fw a n).take i=fw a n:=(by rw[hil,List.take_length])
 rw[htl]at hs
 have hcnt:=xQ hs
 rw[EL aW hsn hs]
 exact⟨_,_,_,_,_,_,_,rfl,(cX.mono aE.size),(cW.mono aE.size),(cY.mono aZ.size),(cZ.mono aZ.size),(fun h=>by have h':s.out=[]:=h;rw[h']at hcnt;have:=List.length_pos_iff.2 hsn;simp at hcnt;omega),((ay.trans aA).tb aB L5 al)⟩

theorem rQ {base gp:Nat}{F:Nat->Prop}{m:MF}(fr to a x n:Int){A:Option Addr}{n0 c:Nat}{g:List fO.Edge}(w:World)(hP:iN w base gp F m)(hV:Vec w fD 9 A n0 g)(hn:n0<=1000000)(ha:a<=9223372036854775807):Calls prog 10 #[.slice A n0 c,.pointer (some ⟨gp,0,none⟩),.int .i64 fr,.int .i64 to,.int .i64 a,.int .i64 x,.int .i64 (n)] w fun r w'=>∃A c rs An cn Ad cd,r= .returned (.tuple #[.slice A (gK g m fr to a x n).1.length c,.agg #[.slice An (eP (gK g m fr to a x n).2.1.n).length cn,.slice Ad (eP (gK g m fr to a x n).2.1.d).length cd],.int .i64 (gK g m fr to a x n).2.2])/\eU w' w.heap.size 50 sM 4 A (gK g m fr to a x n).1.length c rs/\il w' w.heap.size rs (gK g m fr to a x n).1/\eU w' w.heap.size 143 dv 1 An (eP (gK g m fr to a x n).2.1.n).length cn (eP (gK g m fr to a x n).2.1.n)/\eU w' w.heap.size 143 dv 1 Ad (eP (gK g m fr to a x n).2.1.d).length cd (eP (gK g m fr to a x n).2.1.d)/\((gK g m fr to a x n).1=[]->A=none)/\Le w w':=by
 have hl:=hV.1
 have hgm:=hP.good
 refine enter func10 rfl rfl ?_
 have V:=Le.refl w
 refine Sr (Wn 1 rfl (W.ef rfl rfl rfl (Ef.fI z37 fun K aV ah (X:fA aV K 37 #[.slice none 0 0,.slice none 0 0]) ai=>?_)))
 have Y:=V.trans ai
 refine Wn 1 rfl (Nx (Sq (Sr (Wn 2 rfl ?_))))
 by_cases aE:n<1
 ·refine Dt aE rfl rfl (Wn 3 rfl (Nx (WC.gL rfl (Sr (Wa (.gF [.slice none 0 0,.slice none 0 0] jY z37 rfl rfl) rfl (Wn 1 rfl (W.sA gV rfl rfl X ?_)))))))
  intro aW an aX
  have an:fA aW K 37 #[.slice none 0 0,.slice none 0 0]:=an
  have L2:=Y.tb aX V ah
  refine Wn 1 rfl (Nx (Rt (E.eX (E.gU rfl rfl (iB rfl an gQ (by rfl)) rfl ?_))))
  have hsg:gK g m fr to a x n=([],⟨0,0⟩,1):=(by unfold gK;rw[if_pos (by omega)])
  rw[hsg]
  exact⟨none,0,[],none,0,none,0,by simp only[eT];rfl,eU.nil _ _ _ _ _ _,il.nil _ _,by simp only[eT];exact eU.nil _ _ _ _ _ _,by simp only[eT];exact eU.nil _ _ _ _ _ _,fun _=>rfl,L2⟩
 refine Df aE rfl rfl (Wn 3 rfl (Nx ?_))
 by_cases c0:8<n
 ·refine Cy rfl (dT c0) (Sr (Wa (.gF [.slice none 0 0,.slice none 0 0] jY z37 rfl rfl) rfl (Wn 1 rfl (W.sA gV rfl rfl X ?_))))
  intro aY ao aZ
  have ao:fA aY K 37 #[.slice none 0 0,.slice none 0 0]:=ao
  have L3:=Y.tb aZ V ah
  refine Wn 1 rfl (Nx (Rt (E.eX (E.gU rfl rfl (iB rfl ao gQ (by rfl)) rfl ?_))))
  have hsg:gK g m fr to a x n=([],⟨0,0⟩,1):=(by unfold gK;rw[if_pos (by omega)])
  rw[hsg]
  exact⟨none,0,[],none,0,none,0,by simp only[eT];rfl,eU.nil _ _ _ _ _ _,il.nil _ _,by simp only[eT];exact eU.nil _ _ _ _ _ _,by simp only[eT];exact eU.nil _ _ _ _ _ _,fun _=>rfl,L3⟩
 refine Cn rfl (dF c0) (Sn (Sr (Wn 1 rfl (Nx (Sr (W.ef rfl rfl rfl (Ef.fI z37 fun N t aj (a0:fA t N 37 #[.slice none 0 0,.slice none 0 0]) ap=>?_)))))))
 have Z:=Y.trans ap
 refine Nx (Sr ?_)
 have a1:fA t N 37 #[.slice none (eP 0).length 0,.slice none (eP 0).length 0]:=by rw[eT];exact a0
 have aF:eU t t.heap.size 143 dv 1 none (eP 0).length 0 (eP 0):=by rw[eT];exact eU.nil _ _ _ _ _ _
 refine Wn 1 rfl (Nx (Sq (Sr (Wn 2 rfl (Nx (WC.block ?_))))))
 have f5:=(hP.le (ai.trans ap))
 have f6:=(X.le ap)
 refine WC.loop (ι:=Nat×(List tK×Fr×Int)×(Option Addr)×Nat×(List yU)×(Option Addr)×Nat×(Option Addr)×Nat) (fun⟨i,b,Ab,cb,rb,Ax,cx,Ay,cy⟩=>[(0,.slice A n0 c),(1,.pointer (some ⟨gp,0,none⟩)),(2,.int .i64 fr),(3,.int .i64 to),(4,.int .i64 a),(5,.int .i64 x),(15,.pointer (some ⟨K,0,none⟩)),(17,.slice Ab b.1.length cb),(18,.pointer (some ⟨N,0,none⟩)),(19,.int .i64 b.2.2),(31,.int .i64 n),(32,.int .i64 ((i:Nat):Int))]) (fun⟨i,b,Ab,cb,rb,Ax,cx,Ay,cy⟩ u=>(i<=n.toNat)/\(b=(List.range i).foldl (nW g m fr to a x) ([],⟨0,0⟩,19))/\(b.1=[]->Ab=none)/\(0<i->(gz g m fr to a x).2.2≠1)/\((eP b.2.1.n).length<=900/\(eP b.2.1.d).length<=900)/\Le w u/\t.heap.size<=u.heap.size/\iN u base gp F m/\fA u K 37 #[.slice none 0 0,.slice none 0 0]/\eU u t.heap.size 50 sM 4 Ab b.1.length cb rb/\il u t.heap.size rb b.1/\fA u N 37 #[.slice Ax ((eP b.2.1.n).length) cx,.slice Ay ((eP b.2.1.d).length) cy]/\eU u t.heap.size 143 dv 1 Ax ((eP b.2.1.n).length) cx (eP b.2.1.n)/\eU u t.heap.size 143 dv 1 Ay ((eP b.2.1.d).length) cy (eP b.2.1.d)) (fun⟨i,b,Ab,cb,rb,Ax,cx,Ay,cy⟩=>n.toNat-i) (0,(([],⟨0,0⟩,19):List tK×Fr×Int),none,0,([]),none,0,none,0) ?_ ?_ ?_
 ·exact .of rfl
 ·exact⟨Nat.zero_le _,rfl,fun _=>rfl,fun h=>absurd h (Nat.not_lt_zero _),by simp only[eT];exact⟨Nat.zero_le _,Nat.zero_le _⟩,Z,Nat.le_refl _,f5,f6,(eU.nil t t.heap.size 50 sM 4 none),(il.nil t t.heap.size),a1,aF,aF⟩
 rintro⟨i,b,Ab,cb,rb,Ax,cx,Ay,cy⟩ u ⟨hi,hb,hbe,a2,hlb,aq,ak,H,C,al,ar,y,O,P⟩
 have bD:t.heap.size<=u.heap.size:=by omega
 have bE:t.heap.size<=u.heap.size:=by omega
 have bF:t.heap.size<=u.heap.size:=by omega
 have bG:t.heap.size<=u.heap.size:=by omega
 refine Sr (Wn 1 rfl (Nx (Sq ?_)))
 by_cases c1:((i:Nat):Int)<n
 ·refine Cy rfl (dT c1) (Sn (Sq (WC.block (Sr (Wn 2 rfl (Nx (Sr (Wn 7 rfl (Wa (.add rfl rfl (by omega)) rfl ?_)))))))))
  obtain⟨l,D⟩:∃z,z=(jk g m fr to a x (((i:Nat):Int)+1)):=⟨_,rfl⟩
  have am:=uy (g:=g) (m:=m) (fr:=fr) (to:=to) (a:=a) (x:=x) (n:=(((i:Nat):Int)+1)) hgm
  rw[<-D]at am;unfold kP at am
  refine W.cl go8 rfl rfl (by have k:=Dc (c:=c) fr to a x (((i:Nat):Int)+1) u H (hV.le aq) (by omega) (by omega);rw[<-D]at k;exact k) ?_
  rintro _ bH ⟨aG,aH,aI,Q,R,S,T,rfl,U,au,aa,ab,aJ,e⟩
  have L7:=aq.trans e
  have bI:=au.1
  refine Wn 2 rfl (Wa (.extract (v:= .agg #[.slice Q ((eP l.2.1.n).length) R,.slice S ((eP l.2.1.d).length) T]) rfl rfl) rfl (Wn 1 rfl (W.ef rfl rfl rfl (Ef.fI z37 fun aK a3 ac (ad:fA a3 aK 37 #[.slice none 0 0,.slice none 0 0]) f=>(Wn 1 rfl (W.sA gV rfl rfl ad ?_))))))
  intro aL ae j
  have ae:fA aL aK 37 #[.slice Q ((eP l.2.1.n).length) R,.slice S ((eP l.2.1.d).length) T]:=ae
  have L9:=(L7.trans f).tb j L7 ac
  refine Wn 1 rfl (Nx (WC.block (Sr ?_)))
  have av:=((al.le (e.trans f)).cb j (al.rn (by have:=e.size;omega)))
  have hbn:Ab.isNone=true->b.1=[]:=fun h=>Decidable.byContradiction fun hh=>by have:=av.vec.isSome gy (List.length_pos_iff.2 hh);revert h this;cases Ab<;>simp
  refine Wn 3 rfl (Nx ?_)
  by_cases c2:l.2.2=1
  ·refine Cy rfl (dT c2) (Sr (Wa (.gF [.slice none 0 0,.slice none 0 0] jY z37 rfl rfl) rfl (Wn 2 rfl (W.sA gV rfl rfl ((C.le (e.trans f)).cn j (by have:=C.lt;have:=e.size;omega)) ?_))))
   intro a4 aw a5
   have aw:fA a4 K 37 #[.slice none 0 0,.slice none 0 0]:=aw
   have a6:=L9.tb a5 V ah
   refine Wn 1 rfl (Nx (Rt (E.gT (E.gT (E.eX (E.eX (E.gT (E.eX (E.gU rfl rfl (iB rfl aw gQ (by rfl)) rfl ?_)))))))))
   have hte:l.2.2=1:=(by assumption)
   have hsg:gK g m fr to a x n=([],⟨0,0⟩,1):=(by unfold gK;rw[if_pos (.inr (.inr (Jy (n:=(i:Int)+1) (by omega) (by omega) (by rw[<-D];exact hte))))])
   rw[hte,hsg]
   exact⟨none,0,[],none,0,none,0,by simp only[eT];rfl,eU.nil _ _ _ _ _ _,il.nil _ _,by simp only[eT];exact eU.nil _ _ _ _ _ _,by simp only[eT];exact eU.nil _ _ _ _ _ _,fun _=>rfl,a6⟩
  refine Cn rfl (dF c2) (Sr (Wn 2 rfl ?_))
  by_cases aM:l.2.2=0
  ·refine Dt aM rfl rfl (Wn 1 rfl (Wg (Any.rd (.isNil underlying34 rfl) _) rfl ?_))
   by_cases aO:Ab.isNone=true
   ·refine Wg (Any.rd (.dec (.move rfl) aO) _) rfl (Wn 4 rfl (Wg (Any.rd (.mM rfl rfl rfl) _) rfl (Wn 2 rfl (Nx (WC.gL rfl (WC.draw [0,1,2,3,4] mixed (by kernel_rfl) fun a7 o=>(Gn 1 rfl ?_)))))))
    refine Gd rfl (.fB gQ (by rfl) rfl (ae.le o)) ?_
    refine Gn 1 rfl ?_
    have aP:=(((y.le (e.trans f)).cn j (by have:=y.lt;have:=e.size;omega)).le o)
    refine G.iO rfl rfl rfl rfl (Ef.storeAll gV (by rfl) rfl rfl aP (by rfl) (by simp[Value.oneCell']) ?_)
    intro a8 ax I
    refine noT (by kernel_rfl) ?_
    have ax:fA a8 N 37 #[.slice Q ((eP l.2.1.n).length) R,.slice S ((eP l.2.1.d).length) T]:=ax
    have a9:=(L9.trans o).tb I Y aj
    refine Gn 1 rfl (G.nil (E.gI (E.gI (E.eY (WC.region (Wa (.add rfl rfl (by omega)) rfl (Wn 1 rfl (W.nil ?_))))))))
    have ba:=((((H.le (e.trans f)).ch j (fun q hqq hF=>by cases hqq;have:=H.lt hF;have:=e.size;have:=ac;omega)).le o).ch I (fun q hqq hF=>by cases hqq;have:=hP.lt hF;have:=ai.size;have:=aj;omega))
    have bb:=((((C.le (e.trans f)).cn j (by have:=C.lt;have:=e.size;omega)).le o).cn I (by have:=X.lt;omega))
    have bc:=((((U.le f).cb j (U.rn (by omega))).le o).cb I (U.rl (by have:=y.lt;omega)))
    have bd:=((((au.le f).qy j ad (by decide) (by decide)).le o).qy I aP (by decide) (by decide))
    have be:=((((aa.le f).cb j (aa.rn (by omega))).le o).cb I (aa.rl (by have:=y.lt;omega)))
    have bf:=((((ab.le f).cb j (ab.rn (by omega))).le o).cb I (ab.rl (by have:=y.lt;omega)))
    refine E.again (i+1,l,aG,aH,aI,Q,R,S,T) (.cons rfl (.cons rfl (.cons rfl (.cons rfl (.cons rfl (.cons rfl (.cons rfl (.cons rfl (.cons rfl (.cons' rfl (int_eq (Eq.symm (by assumption:l.2.2=0))) (.of rfl))))))))))) ?_ ?_
    ·exact⟨by omega,(by rw[List.range_succ,List.foldl_append,<-hb];show _=nW g m fr to a x b i;unfold nW;rw[<-D];exact(if_pos ⟨by assumption,by first|exact .inl (hbn (by assumption))|exact .inr (by assumption)⟩).symm),aJ,fun _ hh=>absurd (by rw[D,kv (.inr (.inr hh))]) (by assumption:¬l.2.2=1),am.1,a9,by have:=ak;have:=e.size;have:=f.size;have:=j.size;have:=o.size;have:=I.size;omega,ba,bb,(bc.mono (by omega)),(bd.mono (by omega)),ax,(be.mono (by omega)),(bf.mono (by omega))⟩
    first|omega|(simp only[];omega)
   refine Wg (Any.rd (.dec (.move rfl) (Bool.eq_false_iff.2 aO)) _) rfl (Wg (.fB gQ (by rfl) rfl ae) rfl ?_)
   have ay:=((y.le (e.trans f)).cn j (by have:=y.lt;have:=e.size;omega))
   refine Wg (.fB gQ (by rfl) rfl ay) rfl ?_
   have az:=((aa.le f).cb j (aa.rn (by omega)))
   have aA:=((ab.le f).cb j (ab.rn (by omega)))
   have aQ:=((O.le (e.trans f)).cb j (O.rn (by have:=e.size;omega)))
   have aR:=((P.le (e.trans f)).cb j (P.rn (by have:=e.size;omega)))
   refine W.mW rfl rfl rfl rfl rfl rfl (Ef.call WB rfl rfl (F9 aL az.vec aA.vec (by omega) (by omega) aQ.vec aR.vec (by omega) (by omega)) ?_)
   rintro _ bJ ⟨rfl,s⟩
   refine⟨_,rfl,?_⟩
   have aS:=L9.trans s
   refine Wn 1 rfl (Wg (Any.rd (.mO rfl rfl rfl) _) rfl (Wn 2 rfl (Nx ?_)))
   by_cases c3:0<(kQ (fE (⟨l.2.1.n,l.2.1.d⟩:Fr)) (fE (⟨b.2.1.n,b.2.1.d⟩:Fr)))
   ·refine Cy rfl (dT c3) (WC.draw [0,1,2,3,4] mixed (by kernel_rfl) fun a7 o=>(Gn 1 rfl (Gd rfl (.fB gQ (by rfl) rfl (ae.le (s.trans o))) ?_)))
    refine Gn 1 rfl ?_
    have aT:=(ay.le (s.trans o))
    refine G.iO rfl rfl rfl rfl (Ef.storeAll gV (by rfl) rfl rfl aT (by rfl) (by simp[Value.oneCell']) ?_)
    intro bg aB J
    refine noT (by kernel_rfl) ?_
    have aB:fA bg N 37 #[.slice Q ((eP l.2.1.n).length) R,.slice S ((eP l.2.1.d).length) T]:=aB
    have bh:=(aS.trans o).tb J Y aj
    refine Gn 1 rfl (G.nil (E.gI (E.gI (E.eY (WC.region (Wa (.add rfl rfl (by omega)) rfl (Wn 1 rfl (W.nil ?_))))))))
    have bi:=((((H.le (e.trans f)).ch j (fun q hqq hF=>by cases hqq;have:=H.lt hF;have:=e.size;have:=ac;omega)).le (s.trans o)).ch J (fun q hqq hF=>by cases hqq;have:=hP.lt hF;have:=ai.size;have:=aj;omega))
    have bj:=((((C.le (e.trans f)).cn j (by have:=C.lt;have:=e.size;omega)).le (s.trans o)).cn J (by have:=X.lt;omega))
    have bk:=((((U.le f).cb j (U.rn (by omega))).le (s.trans o)).cb J (U.rl (by have:=y.lt;omega)))
    have bl:=((((au.le f).qy j ad (by decide) (by decide)).le (s.trans o)).qy J aT (by decide) (by decide))
    have bm:=((az.le (s.trans o)).cb J (az.rl (by have:=y.lt;omega)))
    have bn:=((aA.le (s.trans o)).cb J (aA.rl (by have:=y.lt;omega)))
    refine E.again (i+1,l,aG,aH,aI,Q,R,S,T) (.cons rfl (.cons rfl (.cons rfl (.cons rfl (.cons rfl (.cons rfl (.cons rfl (.cons rfl (.cons rfl (.cons' rfl (int_eq (Eq.symm (by assumption:l.2.2=0))) (.of rfl))))))))))) ?_ ?_
    ·exact⟨by omega,(by rw[List.range_succ,List.foldl_append,<-hb];show _=nW g m fr to a x b i;unfold nW;rw[<-D];exact(if_pos ⟨by assumption,by first|exact .inl (hbn (by assumption))|exact .inr (by assumption)⟩).symm),aJ,fun _ hh=>absurd (by rw[D,kv (.inr (.inr hh))]) (by assumption:¬l.2.2=1),am.1,bh,by have:=ak;have:=e.size;have:=f.size;have:=j.size;have:=s.size;have:=o.size;have:=J.size;omega,bi,bj,(bk.mono (by omega)),(bl.mono (by omega)),aB,(bm.mono (by omega)),(bn.mono (by omega))⟩
    first|omega|(simp only[];omega)
   refine Cn rfl (dF c3) (WC.skip (E.gI (E.gI (E.eY (WC.region (Wa (.add rfl rfl (by omega)) rfl (Wn 1 rfl (W.nil ?_))))))))
   have bo:=(((H.le (e.trans f)).ch j (fun q hqq hF=>by cases hqq;have:=H.lt hF;have:=e.size;have:=ac;omega)).le s)
   have bp:=(((C.le (e.trans f)).cn j (by have:=C.lt;have:=e.size;omega)).le s)
   have bq:=(((ar.le (e.trans f)).qy j ad (by decide) (by decide)).le s)
   have bs:=(ay.le s)
   have bt:=(aQ.le s)
   have bu:=(aR.le s)
   refine E.again (i+1,b,Ab,cb,rb,Ax,cx,Ay,cy) (.of rfl) ?_ ?_
   ·exact⟨by omega,(by rw[List.range_succ,List.foldl_append,<-hb];show _=nW g m fr to a x b i;unfold nW;rw[<-D];exact(if_neg (fun hh=>by first|exact absurd hh.1 (by assumption)|exact hh.2.elim (fun h=>absurd (by rw[hbe h];rfl) (by assumption:¬Ab.isNone=true)) (fun h=>absurd h (by assumption)))).symm),hbe,fun _ hh=>absurd (by rw[D,kv (.inr (.inr hh))]) (by assumption:¬l.2.2=1),hlb,aS,by have:=ak;have:=e.size;have:=f.size;have:=j.size;have:=s.size;omega,bo,bp,(av.le s),bq,bs,bt,bu⟩
   first|omega|(simp only[];omega)
  refine Df aM rfl rfl (Wn 3 rfl (W.fZ rfl rfl rfl rfl rfl (W.fZ rfl rfl rfl rfl rfl (W.fZ rfl rfl rfl rfl rfl (W.fZ rfl rfl rfl rfl rfl (Wn 3 rfl (Nx (WC.iD rfl (WC.skip (E.gI (E.gI (E.eY (WC.region ?_)))))))))))))
  refine Wa (.add rfl rfl (by omega)) rfl (Wn 1 rfl (W.nil ?_))
  have bv:=((H.le (e.trans f)).ch j (fun q hqq hF=>by cases hqq;have:=H.lt hF;have:=e.size;have:=ac;omega))
  have bw:=((C.le (e.trans f)).cn j (by have:=C.lt;have:=e.size;omega))
  have bx:=((ar.le (e.trans f)).qy j ad (by decide) (by decide))
  have bz:=((y.le (e.trans f)).cn j (by have:=y.lt;have:=e.size;omega))
  have bA:=((O.le (e.trans f)).cb j (O.rn (by have:=e.size;omega)))
  have bB:=((P.le (e.trans f)).cb j (P.rn (by have:=e.size;omega)))
  refine E.again (i+1,b,Ab,cb,rb,Ax,cx,Ay,cy) (.of rfl) ?_ ?_
  ·exact⟨by omega,(by rw[List.range_succ,List.foldl_append,<-hb];show _=nW g m fr to a x b i;unfold nW;rw[<-D];exact(if_neg (fun hh=>by first|exact absurd hh.1 (by assumption)|exact hh.2.elim (fun h=>absurd (by rw[hbe h];rfl) (by assumption:¬Ab.isNone=true)) (fun h=>absurd h (by assumption)))).symm),hbe,fun _ hh=>absurd (by rw[D,kv (.inr (.inr hh))]) (by assumption:¬l.2.2=1),hlb,L9,by have:=ak;have:=e.size;have:=f.size;have:=j.size;omega,bv,bw,av,bx,bz,bA,bB⟩
  first|omega|(simp only[];omega)
 refine Cn rfl (dF c1) (WC.exit (E.fC (E.fC (E.gW (E.eY (Sq (WC.draw [0,1,2,3,4,5] mixed (by kernel_rfl) fun bK L=>(Gn 1 rfl (Gd rfl (.fB gQ (by rfl) rfl (y.le L)) ?_)))))))))
 refine Gn 2 rfl ?_
 have aU:=(C.le L)
 refine G.iO rfl rfl rfl rfl (Ef.storeAll gV (by rfl) rfl rfl aU (by rfl) (by simp[Value.oneCell']) ?_)
 intro bC aC af
 refine noT (by kernel_rfl) ?_
 have aC:fA bC K 37 #[.slice Ax ((eP b.2.1.n).length) cx,.slice Ay ((eP b.2.1.d).length) cy]:=aC
 refine Gn 1 rfl (G.nil (E.eY (Rt (E.gU rfl rfl (iB rfl aC gQ (by rfl)) rfl ?_))))
 have hil:i=n.toNat:=(by omega)
 have hsg:gK g m fr to a x n=b:=(by rw[hb,hil];unfold gK;rw[if_neg (fun hh=>by have:=a2 (by omega);omega)])
 rw[hsg]
 exact⟨_,_,_,_,_,_,_,rfl,(((al.le L).cb af (al.rl (by have:=f6.lt;omega))).mono Z.size),(((ar.le L).qy af aU (by decide) (by decide)).mono Z.size),(((O.le L).cb af (O.rl (by have:=f6.lt;omega))).mono Z.size),(((P.le L).cb af (P.rl (by have:=f6.lt;omega))).mono Z.size),hbe,((aq.trans L).tb af V ah)⟩

theorem KU {A:Option Addr}{n c bs:Nat}{rs:List yU}{ps:List tK}(w:World)(hV:Vec w sM 4 A n rs)(hp:il w bs rs ps)(hn:n<=1000000)(hok:RA ps):Calls prog 24 #[.slice A n c] w fun r w'=>r= .returned (.int .i64 (wJ ps))/\Le w w':=by
 have hl:=hV.1
 have hpl:=hp.1
 refine enter func24 rfl rfl (Sr (Wn 1 rfl (Nx (Sr (Wn 1 rfl (Nx (Sq (Sr (Wn 1 rfl (Wr (.len underlying34 rfl) rfl (Wn 1 rfl (Nx (WC.block (WC.loop (ι:=Nat) (fun k=>[(3,.int .i64 (wJ (ps.take k))),(6,.slice A n c),(7,.int .i64 ((n:Nat):Int)),(8,.int .i64 ((k:Nat):Int))]) (fun k e=>(k<=n)/\Le w e/\w.heap.size<=e.heap.size) (fun k=>n-k) 0 ?_ ?_ ?_))))))))))))))
 ·exact .of rfl
 ·exact⟨Nat.zero_le _,(Le.refl w),Nat.le_refl _⟩
 rintro k e ⟨hk,b,l⟩
 refine Sr (Wn 1 rfl (Nx (Sq ?_)))
 by_cases m:((k:Nat):Int)<((n:Nat):Int)
 ·refine Cy rfl (dT m) (Sn (Sq (WC.block (Sr (Wa (.fV k underlying34 rE rfl rfl (hV.isSome gy (by omega)) rfl (by omega)) rfl (Wr (.j5 Tj rfl (hV.le b) gy (gD rs gu (by omega))) rfl (W.ef rfl rfl rfl (Ef.fI z50 ?_))))))))
  intro o t u f h
  have f:fA t o 50 (sM gu).toArray:=f
  refine W.iO rfl rfl (Ef.storeAll rE (by rfl) rfl rfl f (by simp only[List.size_toArray,gy.len]) (gy.one (rs.getD k gu)) ?_)
  intro x d i
  have d:fA x o 50 (sM (rs.getD k gu)).toArray:=d
  have j:=(b.trans h).tb i b u
  refine Nx (Sr ?_)
  have pk:=(hp.le j).2 k (by omega)
  have pka:=pk.vX;have pkw:=pk.way.1;have pks:=pk.sent.1;have pkt:=pk.till.1
  refine Wa (.eZ Ki rfl) rfl (Wr (.fe (v:= .slice ((rs.getD k gu).sA) ((rs.getD k gu).sN) ((rs.getD k gu).sC)) NA rfl d rfl) rfl (Wr (.len underlying47 rfl) rfl (Wn 1 rfl (Nx ?_))))
  by_cases s:0<(((rs.getD k gu).sN:Nat):Int)
  ·refine Cy rfl (dT s) (WC.region (Wn 1 rfl (Wa (.eZ Ki rfl) rfl (Wr (.fe (v:= .slice ((rs.getD k gu).sA) ((rs.getD k gu).sN) ((rs.getD k gu).sC)) NA rfl d rfl) rfl (Wa (.fV 0 underlying47 kR rfl rfl (pk.sent.vec.isSome fT (by omega)) rfl (by omega)) rfl (Wr (.jB (v:= .int .i64 (((ps.getD k jr).sent).getD 0 0)) gM rfl pk.sent.vec fT (gD ((ps.getD k jr).sent) 0 (by first|omega|(simp only[List.length_cons,List.length_nil];omega))) rfl) rfl ?_))))))
   have tk:=Gm hok k;have z:=hok.1
   have y:=Gm hok (k+1)
   rw[vB (by omega)]at y
   refine Wa (.add rfl rfl (by omega)) rfl (Wn 1 rfl (W.nil (E.gI (E.eY (WC.region (Wa (.add rfl rfl (by omega)) rfl (Wn 1 rfl (W.nil (E.again (k+1) (.cons' rfl (int_eq (vB (by omega)).symm) (.of rfl)) ?_ ?_)))))))))
   ·exact⟨by omega,j,by have:=l;have:=h.size;have:=i.size;omega⟩
   first|omega|(simp only[];omega)
  refine Cn rfl (dF s) (WC.skip (E.gI (E.eY (WC.region (Wa (.add rfl rfl (by omega)) rfl (Wn 1 rfl (W.nil (E.again (k+1) (.cons' rfl (int_eq (Ov (by omega) (by omega))) (.of rfl)) ?_ ?_))))))))
  ·exact⟨by omega,j,by have:=l;have:=h.size;have:=i.size;omega⟩
  first|omega|(simp only[];omega)
 refine Cn rfl (dF m) (WC.exit (E.fC (E.fC (E.gW (E.eY (Sr (Wn 2 rfl (Nx (Rt (E.fu rfl rfl ?_))))))))))
 have hke:k=ps.length:=(by omega)
 rw[hke,List.take_length]
 exact⟨rfl,b⟩
end Go.Proofs.YtkaedikifgpkeaaGreatDoor

namespace Go.Proofs.YtkaedikifgpkeaaGreatDoor
open Tryz
open Go Go.Sx Go.wK Go.Num Go.wM Go.fO Go.tH
set_option maxRecDepth 20000
set_option maxHeartbeats 1000000
structure R9 where
  pA:Option Addr
  pN:Nat
  pC:Nat
  bA:Option Addr
  bN:Nat
  bC:Nat
def iE:R9:=⟨none,0,0,none,0,0⟩
def oM (r:R9):List Value:=[.slice r.pA r.pN r.pC,.slice r.bA r.bN r.bC]
theorem iq:lg oM 2:=⟨fun _=>rfl,fun x v hv=>by simp[oM]at hv;rcases hv with rfl|rfl<;>rfl,by decide⟩
structure kz (w:World)(bs:Nat)(r:R9)(p:O6):Prop where
  pts:eU w bs 94 rT 1 r.pA r.pN r.pC p.pts
  bl:eU w bs 25 rT 1 r.bA r.bN r.bC p.bl
def iG (w:World)(bs:Nat)(rs:List R9)(ps:List O6):Prop:=rs.length=ps.length/\∀i,i<ps.length->kz w bs (rs.getD i iE) (ps.getD i q9)
section
variable {w w':World}{bs bs':Nat}{r:R9}{p:O6}{rs:List R9}{ps:List O6}{F:Nat->Prop}
theorem kz.le (h:kz w bs r p)(k:Le w w'):kz w' bs r p:=⟨h.1.le k,h.2.le k⟩
theorem kz.mono (h:kz w bs r p)(k:bs'<=bs):kz w bs' r p:=⟨h.1.mono k,h.2.mono k⟩
theorem kz.iQ (h:kz w bs r p)(k:jU w w' F)(hF:∀i,F i->i<bs):kz w' bs r p:=
  ⟨h.1.iQ k fun g hg hf=>by have:=(h.1.row hg).1;have:=hF g hf;omega,h.2.iQ k fun g hg hf=>by have:=(h.2.row hg).1;have:=hF g hf;omega⟩
theorem kz.MZ {b e s n c:Nat}{α:Type}{f:α->List Value}{A:Option Addr}{xs:List α}(h:kz w bs r p)(k:Ch w w' (rowOf A c))(o:eU w b e f s A n c xs)(h1:94≠e)(h2:25≠e):kz w' bs r p:=⟨h.1.Da k o h1,h.2.Da k o h2⟩
theorem kz.qy {g t:Nat}{cs:Array Value}(h:kz w bs r p)(k:Ch w w' (some g))(o:fA w g t cs)(h1:94≠t)(h2:25≠t):kz w' bs r p:=⟨h.1.wI k o h1,h.2.wI k o h2⟩
theorem kz.EY {w0:World}{o:Option Nat}(h:kz w bs r p)(h0:kz w0 bs r p)(k:Ch w w' o)(hn:∀q,o=some q->w0.heap.size<=q):kz w' bs r p:=
  ⟨h.1.ch k fun g hg ha=>by have:=(h0.1.row ha).2;have:=hn g hg;omega,h.2.ch k fun g hg ha=>by have:=(h0.2.row ha).2;have:=hn g hg;omega⟩
theorem iG.nil (w:World)(bs:Nat):iG w bs [] []:=⟨rfl,fun i hi=>absurd hi (Nat.not_lt_zero _)⟩
theorem iG.le (h:iG w bs rs ps)(k:Le w w'):iG w' bs rs ps:=⟨h.1,fun i hi=>(h.2 i hi).le k⟩
theorem iG.mono (h:iG w bs rs ps)(k:bs'<=bs):iG w bs' rs ps:=⟨h.1,fun i hi=>(h.2 i hi).mono k⟩
theorem iG.iQ (h:iG w bs rs ps)(k:jU w w' F)(hF:∀i,F i->i<bs):iG w' bs rs ps:=⟨h.1,fun i hi=>(h.2 i hi).iQ k hF⟩
theorem iG.MZ {b e s n c:Nat}{α:Type}{f:α->List Value}{A:Option Addr}{xs:List α}(h:iG w bs rs ps)(k:Ch w w' (rowOf A c))(o:eU w b e f s A n c xs)(h1:94≠e)(h2:25≠e):iG w' bs rs ps:=⟨h.1,fun i hi=>(h.2 i hi).MZ k o h1 h2⟩
theorem iG.qy {g t:Nat}{cs:Array Value}(h:iG w bs rs ps)(k:Ch w w' (some g))(o:fA w g t cs)(h1:94≠t)(h2:25≠t):iG w' bs rs ps:=⟨h.1,fun i hi=>(h.2 i hi).qy k o h1 h2⟩
theorem iG.EY {w0:World}{o:Option Nat}(h:iG w bs rs ps)(h0:iG w0 bs rs ps)(k:Ch w w' o)(hn:∀q,o=some q->w0.heap.size<=q):iG w' bs rs ps:=⟨h.1,fun i hi=>(h.2 i hi).EY (h0.2 i hi) k hn⟩
theorem iG.push (h:iG w bs rs ps)(k:kz w bs r p):iG w bs (rs++[r]) (ps++[p]):=by
  refine⟨by simp[h.1],fun i hi=>?_⟩
  simp only[List.length_append,List.length_cons,List.length_nil]at hi
  by_cases e:i<ps.length
  · rw[vw e,vw (by rw[h.1];exact e)]
    exact h.2 i e
  · have:i=ps.length:=by omega
    subst this
    rw[vz,<-h.1,vz]
    exact k
def o9 (t n:Nat):Bool:=decide (base t≠1/\1<=n/\n<=8)
theorem oN {t n:Nat}:o9 t n=true↔qR t n:=decide_eq_true_iff
def uB (t:Nat)(sd:List Byte)(n:Nat):O6:=if o9 t n=true then mI t sd n else q9
theorem vC {t n:Nat}{sd:List Byte}(h:o9 t n=true):uB t sd n=mI t sd n:=if_pos h
theorem VT (rs:List yU)(i:Nat):(rs.map (·.wN)).getD i 0=(rs.getD i gu).wN:=by
  rw[List.getD_eq_getElem?_getD,List.getD_eq_getElem?_getD,List.getElem?_map]
  cases rs[i]? <;>rfl
theorem iG.cast {ps':List O6}(h:iG w bs rs ps)(e:ps=ps'):iG w bs rs ps':=e▸h
end
theorem KV (name:ByteArray)(hnm:byteCells name=wS.map jM){A:Option Addr}{c:Nat}{xs:List Byte}(i:Nat)(w:World)(hS:Sb w A 8 xs):Calls prog 100 #[.string name,.slice A 8 c,.int .i64 (i:Int)] w fun e w'=>e= .returned (.int .u64 ((nM (tag wS [xs,[BitVec.ofNat 8 i]]):Nat):Int))/\Le w w':=by
 refine enter func100 rfl rfl ?_
 have f:=Le.refl w
 refine Sr (Wn 1 rfl (Nx (Sr (Wn 3 rfl (Wr (.toU8 i (lY underlying3) underlying5 rfl rfl) rfl (W.ef rfl rfl rfl (Ef.jm underlying97 vF rfl rfl fun y z C h j=>?_)))))))
 have k:=f.trans j
 refine W.ef rfl rfl rfl (Ef.jT [_,_] underlying151 Ke rfl QF rfl (by decide) (by decide) fun D l F m b=>?_)
 have d:=k.trans b
 refine W.cl WG rfl rfl (Kj _ wS l (ps:=[xs,[BitVec.ofNat 8 i]]) hnm (m.sl (s:=1) (n:=2) rfl) (.cons (hS.le d) (.cons (fA.sb (xs:=[BitVec.ofNat 8 i]) (h.le b) rfl) (.nil _))) (by rw[xG,hS.len];show 24+4+8+1<=_;decide)) ?_
 rintro _ o ⟨rfl,t⟩
 have u:=d.trans t
 refine W.cl Vy rfl rfl (Ms _ (nY _ _) o) ?_
 rintro _ H ⟨rfl,v⟩
 have x:=u.trans v
 refine Wn 1 rfl (Nx (Rt (E.jQ rfl rfl ?_)))
 exact⟨rfl,x⟩

theorem RB (p:Nat)(hp:p<18446744073709551616)(seed:List Byte)(n:Nat)(h:¬(right p=true/\p≠1/\1<=n/\n<=8))(w:World):Calls prog 49 #[.int .u64 ((p:Nat):Int),.agg (seed.map jM).toArray,.int .i64 ((n:Nat):Int)] w fun r w'=>r= .returned (.tuple #[.agg #[.slice none 0 0,.slice none 0 0],.bool false])/\Le w w':=by
 refine enter func49 rfl rfl (Sr (W.ef rfl rfl rfl (Ef.iM rfl fun K L N O x=>?_)))
 have b:=(Le.refl w).trans x
 refine W.ef rfl rfl rfl (Ef.fI z59 fun c o e (f:fA o c 59 (oM iE).toArray) y=>(Wn 1 rfl (Nx (Sq (Sr (Wn 1 rfl (W.cl LZ rfl rfl (yD p (by omega) o) ?_)))))))
 rintro _ P ⟨rfl,d⟩
 have i:=(b.trans y).trans d
 refine Wn 1 rfl ?_
 by_cases s:(right p)=true
 ·refine Wa (.dec (.move rfl) (congrArg not s)) rfl (Wn 3 rfl ?_)
  by_cases t:((p:Nat):Int)=1
  ·refine Dt t rfl rfl (Wn 7 rfl (Nx (WC.gL rfl (Sr (Wa (.gF (oM iE) TC z59 rfl rfl) rfl (W.iO rfl rfl (Ef.storeAll FL (by rfl) rfl rfl (f.le d) (by simp only[List.size_toArray,iq.len]) (iq.one iE) ?_)))))))
   intro z j A
   have j:fA z c 59 (oM iE).toArray:=j
   refine Wn 1 rfl (Nx (Rt (E.eX (E.jb rfl (iB rfl j Kb (by rfl)) rfl ?_))))
   exact⟨rfl,(i.tb A b e)⟩
  refine Df t rfl rfl (Wn 3 rfl ?_)
  by_cases u:((n:Nat):Int)<1
  ·refine Dt u rfl rfl (Wn 3 rfl (Nx (WC.gL rfl (Sr (Wa (.gF (oM iE) TC z59 rfl rfl) rfl (W.iO rfl rfl (Ef.storeAll FL (by rfl) rfl rfl (f.le d) (by simp only[List.size_toArray,iq.len]) (iq.one iE) ?_)))))))
   intro C k D
   have k:fA C c 59 (oM iE).toArray:=k
   refine Wn 1 rfl (Nx (Rt (E.eX (E.jb rfl (iB rfl k Kb (by rfl)) rfl ?_))))
   exact⟨rfl,(i.tb D b e)⟩
  refine Df u rfl rfl (Wn 3 rfl (Nx ?_))
  by_cases v:8<((n:Nat):Int)
  ·refine Cy rfl (dT v) (Sr (Wa (.gF (oM iE) TC z59 rfl rfl) rfl (W.iO rfl rfl (Ef.storeAll FL (by rfl) rfl rfl (f.le d) (by simp only[List.size_toArray,iq.len]) (iq.one iE) ?_))))
   intro F l H
   have l:fA F c 59 (oM iE).toArray:=l
   refine Wn 1 rfl (Nx (Rt (E.eX (E.jb rfl (iB rfl l Kb (by rfl)) rfl ?_))))
   exact⟨rfl,(i.tb H b e)⟩
  refine Cn rfl (dF v) ?_
  exact absurd ⟨by assumption,by omega,by omega,by omega⟩ h
 refine Wa (.dec (.move rfl) (congrArg not (Bool.eq_false_iff.2 s))) rfl (Wn 11 rfl (Nx (WC.gL rfl (Sr (Wa (.gF (oM iE) TC z59 rfl rfl) rfl (W.iO rfl rfl (Ef.storeAll FL (by rfl) rfl rfl (f.le d) (by simp only[List.size_toArray,iq.len]) (iq.one iE) ?_)))))))
 intro I m J
 have m:fA I c 59 (oM iE).toArray:=m
 refine Wn 1 rfl (Nx (Rt (E.eX (E.jb rfl (iB rfl m Kb (by rfl)) rfl ?_))))
 exact⟨rfl,(i.tb J b e)⟩

theorem RD (s:Nat)(n:Int)(w:World):Calls prog 48 #[.int .u64 ((s:Nat):Int),.int .i64 (n)] w fun r w'=>∃A c,r= .returned (.slice A (jg s n).length c)/\eU w' w.heap.size 25 rT 1 A (jg s n).length c (jg s n)/\Le w w':=by
 refine enter func48 rfl rfl ?_
 have j:=Le.refl w
 refine Sr (Wn 1 rfl (Nx (Sq (Sr (Wn 2 rfl ?_)))))
 by_cases J:n<1
 ·refine Dt J rfl rfl (Wn 3 rfl (Nx (WC.gL rfl (Sr (Wn 1 rfl (Nx (Rt (E.eX (E.fu rfl rfl ?_)))))))))
  rw[lN (by omega)]
  exact⟨none,0,rfl,eU.nil _ _ _ _ _ _,j⟩
 refine Df J rfl rfl (Wn 3 rfl (Nx ?_))
 by_cases K:8<n
 ·refine Cy rfl (dT K) (Sr (Wn 1 rfl (Nx (Rt (E.eX (E.fu rfl rfl ?_))))))
  rw[lN (by omega)]
  exact⟨none,0,rfl,eU.nil _ _ _ _ _ _,j⟩
 refine Cn rfl (dF K) (Sn (Sr (W.ef rfl rfl rfl (Ef.fI aaJ fun d L ac o ad=>?_))))
 have o:fA L d 144 ((List.replicate 8 0#8).map jM).toArray:=o.cast rfl
 refine Nx (Sq (Sr (Wn 1 rfl (W.ef rfl rfl rfl (Ef.gq (len:=1) [_] underlying57 wB rfl (by simp[Value.cells]) rfl (by decide) (by decide) ?_)))))
 intro N t ae u O
 have u:fA t N 25 (([s]).map rT).flatten.toArray:=u
 have af:eU t L.heap.size 25 rT 1 (some ⟨N,0,none⟩) 1 1 ([s]):=u.kL ae iH rfl rfl (by decide)
 refine W.cl YE rfl rfl (Mv t (Vec.sl (g1:=pv) af.vec) (by omega)) ?_
 rintro _ ah ⟨rfl,P⟩
 refine Wn 2 rfl (Nx (WC.block (WC.loop (ι:=Nat×(List Byte)) (fun⟨k,bs⟩=>[(0,.int .u64 ((s:Nat):Int)),(1,.int .i64 n),(5,.pointer (some ⟨d,0,none⟩)),(6,.int .i64 ((k:Nat):Int)),(7,.int .u64 ((oD ([s]):Nat):Int))]) (fun⟨k,bs⟩ e=>(k<=8)/\(bs=ny (oD [s]) k++List.replicate (8-k) 0#8)/\Le w e/\ah.heap.size<=e.heap.size/\fA e d 144 (bs.map jM).toArray) (fun⟨k,bs⟩=>8-k) (0,(List.replicate 8 0#8)) ?_ ?_ ?_)))
 ·exact .of rfl
 ·exact⟨by omega,rfl,(((j.trans ad).trans O).trans P),Nat.le_refl _,(o.le (O.trans P))⟩
 rintro⟨k,bs⟩ e ⟨hk,hbs,f,ai,v⟩
 have hbl:(ny (oD [s]) k).length=k:=by simp[ny,iA];omega
 have aE:bs.length=8:=by rw[hbs,List.length_append,hbl,List.length_replicate];omega
 refine Sq (Sr (Wn 2 rfl (Nx ?_)))
 by_cases Q:((k:Nat):Int)<8
 ·refine Cy rfl (dT Q) (Sn (Sq (WC.block (WC.region (Wn 3 rfl (Wa (.mul rfl rfl (by omega)) rfl (Wa (.sub rfl rfl (by omega)) rfl (Wa (.Nq (oD [s]) (56-8*k) rfl rfl rfl (by omega) (by show 56-8*k<=64;omega)) rfl ?_))))))))
  refine Wr (.toU8 ((oD [s])>>>(56-8*k)) (lY underlying24) underlying5 rfl rfl) rfl (Wa (.ja k underlying144 xE rfl rfl rfl (by omega)) rfl (W.iO rfl rfl (Ef.store xE rfl rfl v (by simp only[List.size_toArray,List.length_map,List.length_set];omega) rfl ?_)))
  intro aj x R
  have x:fA aj d 144 ((bs.set k (BitVec.ofNat 8 ((oD [s])>>>(56-8*k)))).map jM).toArray:=Wm x
  refine W.nil (E.gI (E.eY (WC.region (Wn 1 rfl (Wa (.add rfl rfl (by omega)) rfl (Wn 1 rfl (W.nil (E.again (k+1,(bs.set k (BitVec.ofNat 8 ((oD [s])>>>(56-8*k))))) (.of rfl) ?_ ?_))))))))
  ·exact⟨by omega,(by rw[hbs,O8 _ _ _ 8 k hbl (by omega),pV _ _ (by omega)]),(f.tb R j ac),by have:=ai;have:=R.size;omega,x⟩
  first|omega|(simp only[];omega)
 refine Cn rfl (dF Q) (WC.exit (E.fC (E.fC (E.gW (E.eY (Sr ?_))))))
 have ak:k=8:=by omega
 have hfl:bs=wL (jO 0 s):=by subst ak;rw[hbs];simp[ny,iA];rfl
 have al:fA e d 144 ((wL (jO 0 s)).map jM).toArray:=by rw[<-hfl];exact v
 refine Wn 1 rfl (W.ef rfl rfl rfl (Ef.Wj ((n).toNat) rT underlying57 wB rfl rfl rfl (by omega) (by omega) (by unfold maxLen;omega) ?_))
 intro am an aF ao y
 refine Wn 1 rfl (Nx (Sq (Sr (Wn 1 rfl (Wa (.sub rfl rfl (by omega)) rfl (Wn 1 rfl (Nx (WC.block (WC.loop (ι:=Nat×(Option Addr)×Nat) (fun⟨k2,Ao,co⟩=>[(0,.int .u64 ((s:Nat):Int)),(5,.pointer (some ⟨d,0,none⟩)),(8,.slice Ao k2 co),(34,.int .i64 (n-1)),(35,.int .i64 ((k2:Nat):Int))]) (fun⟨k2,Ao,co⟩ b=>(k2<=n.toNat-1)/\Le w b/\an.heap.size<=b.heap.size/\fA b d 144 ((wL (jO 0 s)).map jM).toArray/\eU b e.heap.size 25 rT 1 Ao k2 co (mi s k2)) (fun⟨k2,Ao,co⟩=>n.toNat-1-k2) (0,(some ⟨am,0,none⟩),((n).toNat)) ?_ ?_ ?_)))))))))
 ·exact .of rfl
 ·exact⟨Nat.zero_le _,(f.trans y),Nat.le_refl _,(al.le y),ao⟩
 rintro⟨k2,Ao,co⟩ b ⟨aG,S,ap,T,z⟩
 have U:e.heap.size<=b.heap.size:=by have:=y.size;omega
 refine Sr (Wn 1 rfl (Nx (Sq ?_)))
 by_cases V:((k2:Nat):Int)<(n-1)
 ·refine Cy rfl (dT V) (Sn (Sq (WC.block (Sr (Wn 2 rfl (Nx (WC.region (Wn 1 rfl (Wa (.BB underlying144 xE rfl) rfl (Wn 1 rfl (W.cl Vg rfl rfl (KV _ rfl k2 b (T.sb (iA _))) ?_)))))))))))
  rintro _ aq ⟨rfl,h⟩
  refine W.ef rfl rfl rfl (Ef.gq (len:=1) [_] underlying57 wB rfl (by simp[Value.cells]) rfl (by decide) (by decide) ?_)
  intro X Y ar l i
  have l:fA Y X 25 (([D8 (jO 0 s) k2]).map rT).flatten.toArray:=l
  have aH:eU Y aq.heap.size 25 rT 1 (some ⟨X,0,none⟩) 1 1 ([D8 (jO 0 s) k2]):=l.kL ar iH rfl rfl (by decide)
  have C:=(z.le (h.trans i))
  refine W.ef rfl rfl rfl (Ef.mP (a:=(D8 (jO 0 s) k2)) underlying57 wB underlying57 iH rfl C rfl l (by omega) (by unfold maxLen;omega) (by have:=U;have:=h.size;have:=i.size;omega) ?_)
  intro au av aI aw D aJ
  refine Wn 1 rfl (W.nil (E.gI (E.eY (WC.region (Wa (.add rfl rfl (by omega)) rfl (Wn 1 rfl (W.nil ?_)))))))
  have ax:=((T.le (h.trans i)).ch D (C.rl (by have:=v.lt;omega)))
  refine E.again (k2+1,au,av) (.of rfl) ?_ ?_
  ·exact⟨by omega,(((S.trans h).trans i).gG D (fun q hq=>Nat.le_trans f.size (C.row hq).1)),by have:=ap;have:=h.size;have:=i.size;have:=D.size;omega,ax,(aw.cast rfl (Bh _ _).symm)⟩
  first|omega|(simp only[];omega)
 refine Cn rfl (dF V) (WC.exit (E.fC (E.fC (E.gW (E.eY (Sr (Wn 3 rfl (W.cl YE rfl rfl (Mv b (Vec.sl (g1:=pv) z.vec) (by omega)) ?_))))))))
 rintro _ ay ⟨rfl,F⟩
 refine W.cl YF rfl rfl (TZ s (oD (mi s k2)) ay) ?_
 rintro _ az ⟨rfl,H⟩
 refine W.ef rfl rfl rfl (Ef.gq (len:=1) [_] underlying57 wB rfl (by simp[Value.cells]) rfl (by decide) (by decide) ?_)
 intro Z aa aA m I
 have m:fA aa Z 25 (([jO s (wO (oD (mi s k2)))]).map rT).flatten.toArray:=m
 have aK:eU aa az.heap.size 25 rT 1 (some ⟨Z,0,none⟩) 1 1 ([jO s (wO (oD (mi s k2)))]):=m.kL aA iH rfl rfl (by decide)
 have ab:=(z.le (F.trans (H.trans I)))
 refine W.ef rfl rfl rfl (Ef.mP (a:=(jO s (wO (oD (mi s k2))))) underlying57 wB underlying57 iH rfl ab rfl m (by omega) (by unfold maxLen;omega) (by have:=U;have:=F.size;have:=H.size;have:=I.size;omega) ?_)
 intro aL aM aO aB aC aP
 refine Wn 1 rfl (Nx (Rt (E.fu rfl rfl ?_)))
 have hkn:k2=n.toNat-1:=(by omega)
 have hpl:=rV (s:=s) (n:=n) (by omega) (by omega)
 have hpe:jg s n=mi s k2++[jO s (wO (oD (mi s k2)))]:=(by rw[hkn];exact if_neg (by omega))
 rw[hpe,List.length_append,yl]
 exact⟨_,_,rfl,(aB.mono f.size),((((S.trans F).trans H).trans I).gG aC (fun q hq=>Nat.le_trans f.size (ab.row hq).1))⟩

theorem RF (seed:List Byte)(hse:seed.length=32)(t n:Nat)(w:World):Calls prog 49 #[.int .u64 ((base t:Nat):Int),.agg (seed.map jM).toArray,.int .i64 ((n:Nat):Int)] w fun e w'=>∃r:R9,e= .returned (.tuple #[.agg (oM r).toArray,.bool (o9 t n)])/\kz w' w.heap.size r (uB t seed n)/\Le w w':=by
  by_cases h:qR t n
  · rw[vC (oN.2 h),oN.2 h]
    obtain⟨c,b,d⟩:=h
    refine(T9 (base t) (uE _) (vU _) c seed hse n b d w).mono fun e w' h=>?_
    obtain⟨gp,Ab,cb,rfl,hgp,bp,ob,hl⟩:=h
    exact⟨⟨some ⟨gp,0,none⟩,n,n,Ab,n-1,cb⟩,rfl,⟨bp.kL hgp iH (pM (g1:=pv) _).symm (D9 _ _ b).1 (show n<=maxLen by unfold maxLen;omega),Own.kL (g1:=pv) ob⟩,hl⟩
  · have hb:o9 t n=false:=decide_eq_false h
    rw[show uB t seed n=q9 from if_neg (by rw[hb];decide),hb]
    exact(RB (base t) (uE _) seed n (fun k=>h k.2) w).mono fun e w' h=>⟨iE,h.1,⟨eU.nil _ _ _ _ _ _,eU.nil _ _ _ _ _ _⟩,h.2⟩

theorem Jz (s:Nat){seed:List Byte}(hse:seed.length=32){A:Option Addr}{n c:Nat}{rs:List yU}(w:World)(hV:Vec w sM 4 A n rs)(hn:n<=1000000):Calls prog 17 #[.slice A n c,.int .u64 ((s:Nat):Int),.agg (seed.map jM).toArray] w fun r w'=>∃A' c' qs,r= .returned (.slice A' (lQ s seed (rs.map (·.wN))).length c')/\eU w' w.heap.size 59 oM 2 A' (lQ s seed (rs.map (·.wN))).length c' qs/\iG w' w.heap.size qs (lQ s seed (rs.map (·.wN)))/\Le w w':=by
 have hl:=hV.1
 have hnl:(rs.map (·.wN)).length=n:=by rw[List.length_map];exact hl
 refine enter func17 rfl rfl (Sr (W.ef rfl rfl rfl (Ef.iM rfl fun L O aW (au:fA O L 27 (seed.map jM).toArray) av=>(Wn 1 rfl (Nx (Sr (Wn 1 rfl (Nx (Sq (Sr (Wn 2 rfl (Wr (.len underlying34 rfl) rfl ?_))))))))))))
 obtain⟨ts,xX⟩:∃z,z=(jg s ((n:Nat):Int)):=⟨_,rfl⟩
 refine W.cl aaY rfl rfl (by have k:=RD s ((n:Nat):Int) O;rw[<-xX]at k;exact k) ?_
 rintro _ x ⟨af,ah,rfl,T,U⟩
 have P:=((Le.refl w).trans av).trans U
 have aX:=ym s ((n:Nat):Int);have aY:=Nf s ((n:Nat):Int)
 have htn:ts.length<=n:=by rw[xX];exact vJ s n
 have hpa:∀i,tQ s seed (rs.map (·.wN)) i=mI (ts.getD i 0) (Ls seed i) (rs.getD i gu).wN:=fun i=>by unfold tQ;rw[hnl,<-xX,VT]
 have KW:mJ s (rs.map (·.wN))↔∀i,i<ts.length->qR (ts.getD i 0) (rs.getD i gu).wN:=by unfold mJ;simp only[hnl,<-xX,VT]
 refine Wr (.len underlying57 rfl) rfl (Wn 1 rfl (Nx (WC.block ?_)))
 have f3:=(au.le U)
 refine WC.loop (ι:=Nat×(Option Addr)×Nat×(List R9)) (fun⟨i,Ao,co,qo⟩=>[(0,.slice A n c),(5,.pointer (some ⟨L,0,none⟩)),(7,.slice Ao i co),(15,.slice af ts.length ah),(16,.int .i64 ((ts.length:Nat):Int)),(17,.int .i64 ((i:Nat):Int))]) (fun⟨i,Ao,co,qo⟩ t=>(i<=ts.length)/\(∀j,j<i->qR (ts.getD j 0) (rs.getD j gu).wN)/\Le w t/\x.heap.size<=t.heap.size/\fA t L 27 (seed.map jM).toArray/\eU t x.heap.size 59 oM 2 Ao i co qo/\iG t x.heap.size qo (tT s seed (rs.map (·.wN)) i)/\eU t O.heap.size 25 rT 1 af ts.length ah ts) (fun⟨i,Ao,co,qo⟩=>ts.length-i) (0,none,0,([])) ?_ ?_ ?_
 ·exact .of rfl
 ·exact⟨Nat.zero_le _,fun j hj=>absurd hj (Nat.not_lt_zero _),P,Nat.le_refl _,f3,(eU.nil x x.heap.size 59 oM 2 none),(iG.nil x x.heap.size),T⟩
 rintro⟨i,Ao,co,qo⟩ t ⟨hi,hall,ai,aw,V,X,aj,Y⟩
 have aZ:x.heap.size<=t.heap.size:=by omega
 have ak:x.heap.size<=t.heap.size:=by omega
 have a0:O.heap.size<=t.heap.size:=by have:=U.size;omega
 refine Sr (Wn 1 rfl (Nx (Sq ?_)))
 by_cases c0:((i:Nat):Int)<((ts.length:Nat):Int)
 ·refine Cy rfl (dT c0) (Sn (Sq (WC.block (Sr (Wn 1 rfl (Wa (.fV i underlying57 H9 rfl rfl (T.vec.isSome iH (by omega)) rfl (by omega)) rfl (Wr (.jB (v:= .int .u64 (((ts.getD i 0):Nat):Int)) Ia rfl Y.vec iH (gD ts 0 (by omega)) rfl) rfl (Wn 2 rfl (Nx (Sq (WC.Hz [0,2,3,4,8,9,10,11,12,13] [1,5,6,7,14,15,16,17,18] [19,20] (fun i=>bif Nat.beq i 6 then[5]else bif Nat.beq i 7 then[6]else bif Nat.beq i 14 then[1,7]else bif Nat.beq i 15 then[14]else bif Nat.beq i 16 then[15]else bif Nat.beq i 17 then[15]else[]) mixed (by kernel_rfl) ?_)))))))))))
  intro I l
  have Z:=ai.trans l
  refine Gn 1 rfl (Ga rfl (.BB underlying27 xE rfl) (Gn 1 rfl (Gd rfl (.toU8 i (lY underlying3) underlying5 rfl rfl) (Gn 2 rfl (Ga rfl (.fV i underlying34 rE rfl rfl (hV.isSome gy (by omega)) rfl (by omega)) ?_)))))
  refine Ga rfl (.gH sj (hV.isSome gy (by omega)) rfl) (Gd rfl (.ik (j:=i) (o:=1) (v:= .slice ((rs.getD i gu).wA) ((rs.getD i gu).wN) ((rs.getD i gu).wC)) ni rfl (hV.le Z) gy (gD rs gu (by omega)) rfl) (Gd rfl (.len underlying22 rfl) (G.nil ?_)))
  refine E.Hy ⟨by rfl,fun iU=>(bif Nat.beq iU 1 then(fun v w'=>v= .int .u64 ((base (ts.getD i 0):Nat):Int))else(bif Nat.beq iU 5 then(fun v w'=>∃d,v= .slice (some ⟨d,0,none⟩) 1 1/\eU w' I.heap.size 5 mD 1 (some ⟨d,0,none⟩) 1 1 ([BitVec.ofNat 8 i]))else(bif Nat.beq iU 6 then(fun v w'=>∃d C,v= .slice (some ⟨C,0,none⟩) 2 2/\eU w' I.heap.size 5 mD 1 (some ⟨d,0,none⟩) 1 1 ([BitVec.ofNat 8 i])/\fA w' C 97 #[.slice (some ⟨L,0,none⟩) 32 32,.slice (some ⟨d,0,none⟩) 1 1])else(bif Nat.beq iU 7 then(fun v w'=>v= .agg ((tag lM [seed,[BitVec.ofNat 8 i]]).map jM).toArray)else(bif Nat.beq iU 14 then(fun v w'=>∃b,v= .tuple #[.agg (oM b).toArray,.bool (o9 (ts.getD i 0) (rs.getD i gu).wN)]/\kz w' I.heap.size b (uB (ts.getD i 0) (tag lM [seed,[BitVec.ofNat 8 i]]) (rs.getD i gu).wN))else(bif Nat.beq iU 15 then(fun v w'=>∃b,v= .tuple #[.agg (oM b).toArray,.bool (o9 (ts.getD i 0) (rs.getD i gu).wN)]/\kz w' I.heap.size b (uB (ts.getD i 0) (tag lM [seed,[BitVec.ofNat 8 i]]) (rs.getD i gu).wN))else(bif Nat.beq iU 16 then(fun v w'=>∃b,v= .agg (oM b).toArray/\kz w' I.heap.size b (uB (ts.getD i 0) (tag lM [seed,[BitVec.ofNat 8 i]]) (rs.getD i gu).wN))else(bif Nat.beq iU 17 then(fun v w'=>v= .bool (o9 (ts.getD i 0) (rs.getD i gu).wN))else(bif Nat.beq iU 18 then(fun v w'=>∃u,v= .pointer (some ⟨u,0,none⟩)/\fA w' u 59 (oM iE).toArray)else(fun _ _=>True)))))))))),?_,?_,?_⟩
  ·intro iU hi v f y hv hle
   simp only[List.mem_cons,List.not_mem_nil,or_false]at hi
   rcases hi with rfl|rfl|rfl|rfl|rfl|rfl|rfl|rfl|rfl
   ·exact hv
   ·obtain⟨d,hvv,D⟩:=hv;exact⟨d,hvv,D.le hle⟩
   ·obtain⟨d,C,hvv,D,Q⟩:=hv;exact⟨d,C,hvv,D.le hle,Q.le hle⟩
   ·exact hv
   ·obtain⟨b,hvv,m⟩:=hv;exact⟨b,hvv,m.le hle⟩
   ·obtain⟨b,hvv,m⟩:=hv;exact⟨b,hvv,m.le hle⟩
   ·obtain⟨b,hvv,m⟩:=hv;exact⟨b,hvv,m.le hle⟩
   ·exact hv
   obtain⟨u,hvv,N⟩:=hv;exact⟨u,hvv,N.le hle⟩
  ·intro iU hi
   simp only[List.mem_cons,List.not_mem_nil,or_false]at hi
   rcases hi with rfl|rfl|rfl|rfl|rfl|rfl|rfl|rfl|rfl
   ·refine .inl ⟨rfl,Step.JN rfl rfl ?_⟩
    intro f hle
    refine Ef.call Yv rfl rfl (Mr (ts.getD i 0) f) ?_
    rintro _ y ⟨rfl,e⟩
    refine⟨_,rfl,?_⟩
    exact⟨e,rfl,fun k hk=>hk.elim⟩
   ·refine .inl ⟨rfl,Step.JN rfl rfl ?_⟩
    intro f hle
    refine Ef.gq (len:=1) [_] underlying97 vF rfl (by simp[Value.cells,jM]) rfl (by decide) (by decide) ?_
    intro d y hg aa e
    have aa:fA y d 5 (([BitVec.ofNat 8 i]).map mD).flatten.toArray:=aa
    have al:eU y f.heap.size 5 mD 1 (some ⟨d,0,none⟩) 1 1 ([BitVec.ofNat 8 i]):=aa.kL hg pO rfl rfl (by decide)
    exact⟨e,⟨_,rfl,(al.mono hle.size)⟩,fun k hk=>al.row hk⟩
   ·refine .inl ⟨rfl,Step.Ta (j:=5) rfl rfl rfl ?_⟩
    intro v5 f hle ax
    obtain⟨d,rfl,D⟩:=ax
    refine Ef.jT [_,_] underlying151 Ke rfl (by intro v hv;simp at hv;rcases hv with rfl|rfl<;>rfl) rfl (by decide) (by decide) ?_
    intro C y hg R e
    have R:fA y C 97 #[.slice (some ⟨L,0,none⟩) 32 32,.slice (some ⟨d,0,none⟩) 1 1]:=R
    exact⟨e,⟨_,_,rfl,(D.le e),R⟩,fun k hk=>(mg hk)▸⟨hg,R.lt⟩⟩
   ·refine .inl ⟨rfl,Step.Ta (j:=6) rfl rfl rfl ?_⟩
    intro v6 f hle ay
    obtain⟨d,C,rfl,D,Q⟩:=ay
    refine Ef.call WG rfl rfl (Kj _ lM f (ps:=[seed,[BitVec.ofNat 8 i]]) rfl (Q.sl (s:=1) (n:=2) rfl) (.cons ((V.le (l.trans hle)).sb hse) (.cons (xz D.vec) (.nil _))) (by rw[xG,hse];show 24+5+32+1<=_;decide)) ?_
    rintro _ y ⟨rfl,e⟩
    refine⟨_,rfl,?_⟩
    exact⟨e,rfl,fun k hk=>hk.elim⟩
   ·refine .inl ⟨rfl,Step.of2 (j:=1) (k:=7) rfl rfl rfl rfl ?_⟩
    intro v1 v7 f hle ab ac
    have ab:v1= .int .u64 ((base (ts.getD i 0):Nat):Int):=ab
    subst ab
    have ac:v7= .agg ((tag lM [seed,[BitVec.ofNat 8 i]]).map jM).toArray:=ac
    subst ac
    refine Ef.call aaZ rfl rfl (RF (tag lM [seed,[BitVec.ofNat 8 i]]) (nY _ _) (ts.getD i 0) (rs.getD i gu).wN f) ?_
    rintro _ y ⟨b,rfl,az,e⟩
    refine⟨_,rfl,?_⟩
    exact⟨e,⟨_,rfl,(az.mono hle.size)⟩,fun k hk=>hk.elim⟩
   ·refine vN.Ei (j:=14) rfl rfl rfl rfl fun a1 f hle aA=>?_
    obtain⟨b,rfl,m⟩:=aA
    exact⟨.tuple #[.agg (oM b).toArray,.bool (o9 (ts.getD i 0) (rs.getD i gu).wN)],.move rfl,⟨_,rfl,m⟩,fun k hk=>hk.elim⟩
   ·refine vN.Ei (j:=15) rfl rfl rfl rfl fun aB f hle ad=>?_
    obtain⟨b,rfl,m⟩:=ad
    exact⟨.agg (oM b).toArray,.extract (v:= .agg (oM b).toArray) rfl rfl,⟨_,rfl,m⟩,fun k hk=>hk.elim⟩
   ·refine vN.Ei (j:=15) rfl rfl rfl rfl fun aB f hle ad=>?_
    obtain⟨b,rfl,m⟩:=ad
    exact⟨.bool (o9 (ts.getD i 0) (rs.getD i gu).wN),.extract (v:= .bool (o9 (ts.getD i 0) (rs.getD i gu).wN)) rfl rfl,rfl,fun k hk=>hk.elim⟩
   refine .inl ⟨rfl,Step.JN rfl rfl ?_⟩
   intro f hle
   refine Ef.fI z59 fun u y hg am e=>?_
   exact⟨e,⟨_,rfl,am⟩,fun k hk=>(show u=k from hk)▸⟨hg,am.lt⟩⟩
  intro OM W_5 h_5 sO UI abG
  have aC:OM 1= .int .u64 ((base (ts.getD i 0):Nat):Int):=sO 1 (by decide)
  obtain⟨d,aE,a2⟩:=sO 5 (by decide)
  obtain⟨d,C,aF,D,Q⟩:=sO 6 (by decide)
  have aG:OM 7= .agg ((tag lM [seed,[BitVec.ofNat 8 i]]).map jM).toArray:=sO 7 (by decide)
  obtain⟨b,aH,aI⟩:=sO 14 (by decide)
  obtain⟨b,aJ,aI⟩:=sO 15 (by decide)
  obtain⟨b,aK,m⟩:=sO 16 (by decide)
  have aL:OM 17= .bool (o9 (ts.getD i 0) (rs.getD i gu).wN):=sO 17 (by decide)
  obtain⟨u,an,N⟩:=sO 18 (by decide)
  have aM:I.heap.size<=u:=(UI 18 (by decide) u (by rw[an];rfl)).1
  show G _ _ _ _ _ ((24,OM 1)::(28,OM 5)::(29,OM 6)::(30,OM 7)::(37,OM 14)::(22,OM 15)::(38,OM 16)::(39,OM 17)::(10,OM 18)::_) _
  rw[aC,aE,aF,aG,aH,aJ,aK,aL,an]
  refine G.iO rfl rfl rfl rfl (Ef.storeAll FL (by rfl) rfl rfl N (by simp only[List.size_toArray,iq.len]) (iq.one b) ?_)
  intro ao ae F
  refine noT (by kernel_rfl) ?_
  have ae:fA ao u 59 (oM b).toArray:=ae
  have ap:=(Z.trans h_5).tb F Z aM
  refine Gn 1 rfl (G.nil (E.eY (Sq (Sr (Wn 2 rfl (Nx ?_))))))
  by_cases c1:(o9 (ts.getD i 0) (rs.getD i gu).wN)=true
  ·refine Cn rfl (congrArg not c1) (Sn (WC.region (Wn 1 rfl (Wr (.fB Kb (by rfl) rfl ae) rfl ?_))))
   refine W.ef rfl rfl rfl (Ef.gq (len:=1) [_] underlying51 Tk rfl (by simp[Value.cells,iq.len]) rfl (by decide) (by decide) ?_)
   intro aq ar aO S H
   have S:fA ar aq 59 (([b]).map oM).flatten.toArray:=S
   have a3:eU ar ao.heap.size 59 oM 2 (some ⟨aq,0,none⟩) 1 1 ([b]):=S.kL aO iq rfl rfl (by decide)
   have J:=(((X.le (l.trans h_5)).cb F (X.rn (by have:=l.size;omega))).le H)
   refine W.ef rfl rfl rfl (Ef.mP (a:=b) underlying51 Tk underlying51 iq rfl J rfl S (by omega) (by unfold maxLen;omega) (by have:=ak;have:=l.size;have:=h_5.size;have:=F.size;have:=H.size;omega) ?_)
   intro aP aQ a4 aR K a5
   refine Wn 1 rfl ?_
   have aS:=((((aj.le (l.trans h_5)).qy F N (by decide) (by decide)).le H).MZ K J (by decide) (by decide))
   have aT:=(((m.qy F N (by decide) (by decide)).le H).MZ K J (by decide) (by decide))
   have Xq:=aS.push (aT.mono (by have:=ak;have:=l.size;omega))
   refine W.nil (E.gI (E.eY (WC.region (Wa (.add rfl rfl (by omega)) rfl (Wn 1 rfl (W.nil ?_))))))
   have aU:=((((V.le (l.trans h_5)).cn F (by have:=V.lt;have:=l.size;omega)).le H).ch K (J.rl (by have:=f3.lt;omega)))
   have aV:=((((Y.le (l.trans h_5)).cb F (Y.rn (by have:=l.size;omega))).le H).ch K (Apart.symm (fun q h1 e=>by have:=(T.row h1).2;have:=(J.row e).1;omega)))
   refine E.again (i+1,aP,aQ,(qo++[b])) (.of rfl) ?_ ?_
   ·exact⟨by omega,fun j hj=>(Nat.lt_succ_iff_lt_or_eq.1 hj).elim (hall j) (fun hh=>by subst hh;exact oN.1 (by assumption)),((ap.trans H).gG K (fun q hq=>Nat.le_trans P.size (J.row hq).1)),by have:=aw;have:=l.size;have:=h_5.size;have:=F.size;have:=H.size;have:=K.size;omega,aU,aR,(Xq.cast (by rw[Bi,hpa,vC (by assumption)];rfl)),aV⟩
   first|omega|(simp only[];omega)
  refine Cy rfl (congrArg not (Bool.eq_false_iff.2 c1)) (Sr (Wn 1 rfl (Nx (Rt (E.eX (E.gT (E.eX (E.eX (E.gT (E.eX (E.fu rfl rfl ?_)))))))))))
  rw[yn (fun h=>absurd (oN.2 (KW.1 h i (by omega))) (by assumption))]
  exact⟨none,0,[],rfl,eU.nil _ _ _ _ _ _,iG.nil _ _,ap⟩
 refine Cn rfl (dF c0) (WC.exit (E.fC (E.fC (E.gW (E.eY (Sr (Wn 2 rfl (Nx (Rt (E.fu rfl rfl ?_))))))))))
 have hie:(jg s (((rs.map (·.wN)).length:Nat):Int)).length=i:=(by rw[hnl,<-xX];omega)
 rw[og (KW.2 (fun j hj=>hall j (by omega))),hie,uG]
 exact⟨_,_,_,rfl,(X.mono P.size),(aj.mono P.size),ai⟩
end Go.Proofs.YtkaedikifgpkeaaGreatDoor

namespace Go.Proofs.YtkaedikifgpkeaaGreatDoor
open Tryz
open Go Go.Sx Go.wK Go.Num Go.wM Go.fO Go.tH
set_option maxRecDepth 20000
set_option maxHeartbeats 1000000
theorem Gp {s n:Nat}:(jg s ((n:Nat):Int)).length=n\/(jg s ((n:Nat):Int)).length=0:=by
  by_cases hz:(n:Int)<1\/8<(n:Int)
  · rw[lN hz];exact .inr rfl
  · rw[rV (by omega) (by omega)];exact .inl (by omega)
theorem RG (a b:Nat):lJ a b<18446744073709551616:=Nat.lt_trans (Nat.mod_lt _ (by decide)) (by decide:M<18446744073709551616)
theorem Ow {p:Nat}(hp:p<18446744073709551616):∀l:List Nat,l.foldl (fun p b=>lJ p (base b)) p<18446744073709551616:=fun l=>by
  rcases List.eq_nil_or_concat l with h|⟨l',x,h⟩
  · subst h;exact hp
  · rw[h,List.concat_eq_append,List.foldl_append];exact RG _ _
theorem De (a b:Nat)(w:World):Calls prog 107 #[.int .u64 ((a:Nat):Int),.int .u64 ((b:Nat):Int)] w fun r w'=>r= .returned (.int .u64 ((jO a b:Nat):Int))/\Le w w':=by
 have hq:q=2305843009213688669:=rfl
 have ha:=Nat.mod_lt a (show 0<q by decide)
 have hb:=Nat.mod_lt b (show 0<q by decide)
 refine enter func107 rfl rfl (Sr (Wn 1 rfl (Nx (Sr (Wn 1 rfl (W.cl Qe rfl rfl (Kt a w) ?_))))))
 rintro _ c ⟨rfl,d⟩
 refine Wn 1 rfl (W.cl Qe rfl rfl (Kt b c) ?_)
 rintro _ f ⟨rfl,e⟩
 refine Wa (.addN (a%q) (b%q) ((a%q)+(b%q)) rfl rfl rfl rfl (by omega)) rfl (Wa (.om ((a%q)+(b%q)) 2305843009213688669 (jO a b) rfl rfl rfl rfl (by omega) (by unfold jO;rw[<-hq,<-Nat.add_mod])) rfl ?_)
 refine Wn 1 rfl (Nx (Rt (E.fu rfl rfl ?_)))
 exact⟨rfl,(((Le.refl w).trans d).trans e)⟩

theorem RH (a:Nat)(w:World):Calls prog 167 #[.int .u64 ((a:Nat):Int)] w fun r w'=>r= .returned (.int .u64 ((wO a:Nat):Int))/\Le w w':=by
 have hq:q=2305843009213688669:=rfl
 have ha:=Nat.mod_lt a (show 0<q by decide)
 refine enter func167 rfl rfl (Sr (Wn 1 rfl (Nx (Sr (Wn 1 rfl (W.cl Qe rfl rfl (Kt a w) ?_))))))
 rintro _ c ⟨rfl,b⟩
 refine Wa (.xq 2305843009213688669 (a%q) (q-a%q) rfl rfl rfl rfl (by omega) (by omega)) rfl (Wa (.om (q-a%q) 2305843009213688669 ((q-a%q)%q) rfl rfl rfl rfl (by decide) rfl) rfl (Wn 1 rfl (Nx (Rt (E.fu rfl rfl ?_)))))
 exact⟨rfl,((Le.refl w).trans b)⟩

theorem RI (a b:Nat)(w:World):Calls prog 109 #[.int .u64 ((a:Nat):Int),.int .u64 ((b:Nat):Int)] w fun r w'=>r= .returned (.int .u64 ((jO a (wO b):Nat):Int))/\Le w w':=by
 refine enter func109 rfl rfl (Sr (Wn 1 rfl (Nx (Sr (Wn 2 rfl (W.cl Y6 rfl rfl (RH b w) ?_))))))
 rintro _ c ⟨rfl,d⟩
 refine W.cl P9 rfl rfl (De a (wO b) c) ?_
 rintro _ f ⟨rfl,e⟩
 refine Wn 1 rfl (Nx (Rt (E.fu rfl rfl ?_)))
 exact⟨rfl,(((Le.refl w).trans d).trans e)⟩

theorem RJ (a b:Nat)(ha:a<18446744073709551616)(hb:b<18446744073709551616)(w:World):Calls prog 169 #[.int .u64 ((a:Nat):Int),.int .u64 ((b:Nat):Int)] w fun r w'=>r= .returned (.int .u64 ((lJ a b:Nat):Int))/\Le w w':=by
 refine enter func169 rfl rfl (Sr (Wn 1 rfl (Nx (Sr (Wn 1 rfl (W.cl Qf rfl rfl (yE a (by assumption) w) ?_))))))
 rintro _ c ⟨rfl,d⟩
 refine Wn 1 rfl (W.cl Qf rfl rfl (yE b (by assumption) c) ?_)
 rintro _ e ⟨rfl,f⟩
 refine W.cl Mf rfl rfl (uR (taken a) (taken b) (FZ _) (Nat.lt_trans (FZ _) (by decide)) e) ?_
 rintro _ i ⟨rfl,h⟩
 refine Wn 1 rfl (Nx (Rt (E.fu rfl rfl ?_)))
 exact⟨rfl,((((Le.refl w).trans d).trans f).trans h)⟩

theorem JA {A:Option Addr}{n c:Nat}{xs:List Nat}(w:World)(hV:Vec w rT 1 A n xs)(hn:n<=1000000):Calls prog 110 #[.slice A n c] w fun r w'=>r= .returned (.int .u64 ((oD xs:Nat):Int))/\Le w w':=by
 have hl:=hV.1
 refine enter func110 rfl rfl (Sr (Wn 1 rfl (Nx (Sr (Wn 1 rfl (Nx (Sq (Sr (Wn 1 rfl (Nx (WC.block (WC.loop (ι:=Nat) (fun k=>[(0,.slice A n c),(3,.int .u64 (((oD (xs.take k)):Nat):Int)),(4,.int .i64 ((k:Nat):Int))]) (fun k b=>(k<=n)/\Le w b/\w.heap.size<=b.heap.size) (fun k=>n-k) 0 ?_ ?_ ?_))))))))))))
 ·exact .cons rfl (.cons' rfl rfl (.cons rfl (.nil _)))
 ·exact⟨Nat.zero_le _,(Le.refl w),Nat.le_refl _⟩
 rintro k b ⟨hk,d,h⟩
 refine Sq (Sr (Wn 2 rfl (Wr (.len underlying57 rfl) rfl (Wn 1 rfl (Nx ?_)))))
 by_cases e:((k:Nat):Int)<((n:Nat):Int)
 ·refine Cy rfl (dT e) (Sn (Sq (WC.block (WC.region (Wn 3 rfl (Wa (.fV k underlying57 H9 rfl rfl (hV.isSome iH (by omega)) rfl (by omega)) rfl (Wr (.jB (v:= .int .u64 (((xs.getD k 0):Nat):Int)) Ia rfl (hV.le d) iH (gD xs 0 (by omega)) rfl) rfl (W.cl P9 rfl rfl (De (oD (xs.take k)) (xs.getD k 0) b) ?_))))))))
  rintro _ i ⟨rfl,f⟩
  refine Wn 1 rfl (W.nil (E.gI (E.eY (WC.region (Wn 1 rfl (Wa (.add rfl rfl (by omega)) rfl (Wn 1 rfl (W.nil (E.again (k+1) (.cons rfl (.cons' rfl (int_eq (congrArg Nat.cast (Ng (t:=0) (by omega)).symm)) (.cons rfl (.nil _)))) ?_ ?_)))))))))
  ·exact⟨by omega,(d.trans f),by have:=h;have:=f.size;omega⟩
  first|omega|(simp only[];omega)
 refine Cn rfl (dF e) (WC.exit (E.fC (E.fC (E.gW (E.eY (Sr (Wn 2 rfl (Nx (Rt (E.fu rfl rfl ?_))))))))))
 exact⟨by rw[List.take_of_length_le (by omega)],d⟩

theorem KX (p:Nat)(hp:p<18446744073709551616)(hr:right p=true){A:Option Addr}{n c:Nat}{xs:List Nat}(w:World)(hV:Vec w rT 1 A n xs)(hn:n<8):Calls prog 112 #[.int .u64 ((p:Nat):Int),.slice A n c] w fun r w'=>∃A' c',r= .returned (.slice A' (n+1) c')/\eU w' w.heap.size 94 rT 1 A' (n+1) c' (j4 p xs)/\Le w w':=by
 have hl:=hV.1
 have hfl:=pg p xs
 refine enter func112 rfl rfl (Sr (Wn 1 rfl (Nx (Sr (Wn 1 rfl (W.cl Ma rfl rfl (by have q:=sD p hp w;rw[hr]at q;exact q) ?_))))))
 rintro _ d ⟨rfl,t⟩
 have l:=(Le.refl w).trans t
 refine Wn 1 rfl (Nx (Sq (Sr (Wn 4 rfl (Wg (.len underlying57 rfl) rfl (Wg (Any.rd (.dec (.gtr rfl rfl) (dF (by omega))) _) rfl (Wn 1 rfl (Nx (WC.iD rfl (Sn (Sr (Wn 1 rfl (Nx (Sq (Sr (Wn 1 rfl (Nx (WC.block (WC.loop (ι:=Nat×(Option Addr)×Nat) (fun⟨i,Ao,co⟩=>[(0,.int .u64 ((p:Nat):Int)),(1,.slice A n c),(6,.slice Ao i co),(7,.int .i64 ((i:Nat):Int))]) (fun⟨i,Ao,co⟩ f=>(i<=n+1)/\Le w f/\d.heap.size<=f.heap.size/\eU f d.heap.size 94 rT 1 Ao i co ((j4 p xs).take i)) (fun⟨i,Ao,co⟩=>n+1-i) (0,none,0) ?_ ?_ ?_)))))))))))))))))))
 ·exact .of rfl
 ·exact⟨Nat.zero_le _,l,Nat.le_refl _,(eU.nil d d.heap.size 94 rT 1 none)⟩
 rintro⟨i,Ao,co⟩ f ⟨hi,u,K,x⟩
 have L:d.heap.size<=f.heap.size:=by omega
 refine Sq (Sr (Wn 2 rfl (Wr (.len underlying57 rfl) rfl (Wn 1 rfl (Nx ?_)))))
 by_cases y:((i:Nat):Int)<=((n:Nat):Int)
 ·refine Cy rfl (dT y) (Sn (Sq (WC.block (Sr (Wn 2 rfl (Nx (Sq (Sr (Wn 2 rfl (Nx (WC.block (WC.loop (ι:=Nat) (fun k=>[(0,.int .u64 ((p:Nat):Int)),(1,.slice A n c),(6,.slice Ao i co),(7,.int .i64 ((i:Nat):Int)),(8,.int .u64 (((((xs.take k).drop i).foldl (fun p b=>lJ p (base b)) p):Nat):Int)),(9,.int .i64 ((k:Nat):Int))]) (fun k e=>(i<=k)/\(k<=n)/\Le w e/\f.heap.size<=e.heap.size/\eU e d.heap.size 94 rT 1 Ao i co ((j4 p xs).take i)) (fun k=>n-k) i ?_ ?_ ?_))))))))))))
  ·exact .cons rfl (.cons rfl (.cons rfl (.cons rfl (.cons' rfl (int_eq (congrArg Nat.cast (by rw[List.drop_of_length_le (by rw[List.length_take];omega)];rfl))) (.cons rfl (.nil _))))))
  ·exact⟨Nat.le_refl _,by omega,u,Nat.le_refl _,x⟩
  rintro k e ⟨T,U,m,z,C⟩
  have N:d.heap.size<=e.heap.size:=Nat.le_trans L (by omega)
  refine Sq (Sr (Wn 2 rfl (Wr (.len underlying57 rfl) rfl (Wn 1 rfl (Nx ?_)))))
  by_cases D:((k:Nat):Int)<((n:Nat):Int)
  ·refine Cy rfl (dT D) (Sn (Sq (WC.block (WC.region (Wn 3 rfl (Wa (.fV k underlying57 H9 rfl rfl (hV.isSome iH (by omega)) rfl (by omega)) rfl (Wr (.jB (v:= .int .u64 (((xs.getD k 0):Nat):Int)) Ia rfl (hV.le m) iH (gD xs 0 (by omega)) rfl) rfl (W.cl Yw rfl rfl (IG (xs.getD k 0) e) ?_))))))))
   rintro _ O ⟨rfl,o⟩
   refine W.cl Y7 rfl rfl (RJ (((xs.take k).drop i).foldl (fun p b=>lJ p (base b)) p) (base (xs.getD k 0)) (Ow hp _) (uE _) O) ?_
   rintro _ V ⟨rfl,s⟩
   refine Wn 1 rfl (W.nil (E.gI (E.eY (WC.region (Wn 1 rfl (Wa (.add rfl rfl (by omega)) rfl (Wn 1 rfl (W.nil (E.again (k+1) (.cons rfl (.cons rfl (.cons rfl (.cons rfl (.cons' rfl (int_eq (congrArg Nat.cast (JX (by omega) (by omega)).symm)) (.cons rfl (.nil _))))))) ?_ ?_)))))))))
   ·exact⟨by omega,by omega,((m.trans o).trans s),by have:=z;have:=o.size;have:=s.size;omega,(C.le (o.trans s))⟩
   first|omega|(simp only[];omega)
  refine Cn rfl (dF D) (WC.exit (E.fC (E.fC (E.gW (E.eY (WC.region (Wn 2 rfl (W.ef rfl rfl rfl (Ef.gq (len:=1) [_] underlying56 PQ rfl (by simp[Value.cells]) rfl (by decide) (by decide) ?_)))))))))
  intro F H P h j
  have h:fA H F 94 (([(((xs.take k).drop i).foldl (fun p b=>lJ p (base b)) p)]).map rT).flatten.toArray:=h
  have X:eU H e.heap.size 94 rT 1 (some ⟨F,0,none⟩) 1 1 ([(((xs.take k).drop i).foldl (fun p b=>lJ p (base b)) p)]):=h.kL P iH rfl rfl (by decide)
  have I:=(C.le j)
  refine W.ef rfl rfl rfl (Ef.mP (a:=(((xs.take k).drop i).foldl (fun p b=>lJ p (base b)) p)) underlying56 PQ underlying56 iH rfl I rfl h (by omega) (by unfold maxLen;omega) (by have:=N;have:=j.size;omega) ?_)
  intro Q R Y S J Z
  refine Wn 1 rfl (W.nil (E.gI (E.eY (WC.region (Wn 1 rfl (Wa (.add rfl rfl (by omega)) rfl (Wn 1 rfl (W.nil (E.again (i+1,Q,R) (.of rfl) ?_ ?_)))))))))
  ·exact⟨by omega,((m.trans j).gG J (fun q hq=>Nat.le_trans l.size (I.row hq).1)),by have:=K;have:=j.size;have:=J.size;have:=z;have:=t.size;omega,(S.cast rfl (by rw[Nh (by omega),Bl p xs i (by omega),show k=n by omega,List.take_of_length_le (show xs.length<=n by omega)]))⟩
  first|omega|(simp only[];omega)
 refine Cn rfl (dF y) (WC.exit (E.fC (E.fC (E.gW (E.eY (Sr (Wn 2 rfl (Nx (Rt (E.fu rfl rfl ?_))))))))))
 have hin:i=n+1:=(by omega)
 subst hin
 exact⟨_,_,rfl,(x.mono l.size).cast rfl (List.take_of_length_le (by omega)),u⟩

theorem KY (p:Nat)(hp:p<18446744073709551616){seed:List Byte}(hse:seed.length=32)(n:Nat)(h:¬(right p=true/\p≠1/\1<=n/\n<=8))(w:World)(hnn:n<=9223372036854775807):Calls prog 53 #[.int .u64 ((p:Nat):Int),.agg (seed.map jM).toArray,.int .i64 ((n:Nat):Int)] w fun r w'=>r= .returned (.tuple #[.agg #[.slice none 0 0,.slice none 0 0],.bool false])/\Le w w':=by
 refine enter func53 rfl rfl (Sr (W.ef rfl rfl rfl (Ef.iM rfl fun K L N O x=>?_)))
 have b:=(Le.refl w).trans x
 refine W.ef rfl rfl rfl (Ef.fI z60 fun c o e (f:fA o c 60 (oM iE).toArray) y=>(Wn 1 rfl (Nx (Sr (Wn 1 rfl (W.cl Ma rfl rfl (sD p hp o) ?_))))))
 rintro _ P ⟨rfl,d⟩
 have i:=(b.trans y).trans d
 refine Wn 1 rfl (Nx (Sq (Sr (Wn 2 rfl ?_))))
 by_cases s:(right p)=true
 ·refine Wa (.dec (.move rfl) (congrArg not s)) rfl (Wn 3 rfl ?_)
  by_cases t:((p:Nat):Int)=1
  ·refine Dt t rfl rfl (Wn 7 rfl (Nx (WC.gL rfl (Sr (Wa (.gF (oM iE) TD z60 rfl rfl) rfl (W.iO rfl rfl (Ef.storeAll FM (by rfl) rfl rfl (f.le d) (by simp only[List.size_toArray,iq.len]) (iq.one iE) ?_)))))))
   intro z j A
   have j:fA z c 60 (oM iE).toArray:=j
   refine Wn 1 rfl (Nx (Rt (E.eX (E.jb rfl (iB rfl j Kc (by rfl)) rfl ?_))))
   exact⟨rfl,(i.tb A b e)⟩
  refine Df t rfl rfl (Wn 3 rfl ?_)
  by_cases u:((n:Nat):Int)<1
  ·refine Dt u rfl rfl (Wn 3 rfl (Nx (WC.gL rfl (Sr (Wa (.gF (oM iE) TD z60 rfl rfl) rfl (W.iO rfl rfl (Ef.storeAll FM (by rfl) rfl rfl (f.le d) (by simp only[List.size_toArray,iq.len]) (iq.one iE) ?_)))))))
   intro C k D
   have k:fA C c 60 (oM iE).toArray:=k
   refine Wn 1 rfl (Nx (Rt (E.eX (E.jb rfl (iB rfl k Kc (by rfl)) rfl ?_))))
   exact⟨rfl,(i.tb D b e)⟩
  refine Df u rfl rfl (Wn 3 rfl (Nx ?_))
  by_cases v:8<((n:Nat):Int)
  ·refine Cy rfl (dT v) (Sr (Wa (.gF (oM iE) TD z60 rfl rfl) rfl (W.iO rfl rfl (Ef.storeAll FM (by rfl) rfl rfl (f.le d) (by simp only[List.size_toArray,iq.len]) (iq.one iE) ?_))))
   intro F l H
   have l:fA F c 60 (oM iE).toArray:=l
   refine Wn 1 rfl (Nx (Rt (E.eX (E.jb rfl (iB rfl l Kc (by rfl)) rfl ?_))))
   exact⟨rfl,(i.tb H b e)⟩
  refine Cn rfl (dF v) ?_
  exact absurd ⟨by assumption,by omega,by omega,by omega⟩ h
 refine Wa (.dec (.move rfl) (congrArg not (Bool.eq_false_iff.2 s))) rfl (Wn 11 rfl (Nx (WC.gL rfl (Sr (Wa (.gF (oM iE) TD z60 rfl rfl) rfl (W.iO rfl rfl (Ef.storeAll FM (by rfl) rfl rfl (f.le d) (by simp only[List.size_toArray,iq.len]) (iq.one iE) ?_)))))))
 intro I m J
 have m:fA I c 60 (oM iE).toArray:=m
 refine Wn 1 rfl (Nx (Rt (E.eX (E.jb rfl (iB rfl m Kc (by rfl)) rfl ?_))))
 exact⟨rfl,(i.tb J b e)⟩

theorem Ox (p:Nat)(hp:p<18446744073709551616)(hr:right p=true)(hp1:p≠1){seed:List Byte}(hse:seed.length=32)(n:Nat)(h1:1<=n)(h8:n<=8)(w:World):Calls prog 53 #[.int .u64 ((p:Nat):Int),.agg (seed.map jM).toArray,.int .i64 ((n:Nat):Int)] w fun r w'=>∃Ap cp Ab cb,r= .returned (.tuple #[.agg #[.slice Ap n cp,.slice Ab (n-1) cb],.bool true])/\eU w' w.heap.size 94 rT 1 Ap n cp (j4 p (lF seed (n-1)))/\eU w' w.heap.size 25 rT 1 Ab (n-1) cb (lF seed (n-1))/\Le w w':=by
 refine enter func53 rfl rfl (Sr (W.ef rfl rfl rfl (Ef.iM rfl fun y ao aK (aa:fA ao y 27 (seed.map jM).toArray) ap=>?_)))
 have L1:=(Le.refl w).trans ap
 refine W.ef rfl rfl rfl (Ef.fI z60 fun z ab aq (I:fA ab z 60 (oM iE).toArray) J=>(Wn 1 rfl (Nx (Sr (Wn 1 rfl (W.cl Ma rfl rfl (by have q:=sD p hp ab;rw[hr]at q;exact q) ?_))))))
 rintro _ aL ⟨rfl,j⟩
 have K:=(L1.trans J).trans j
 refine Wn 1 rfl (Nx (Sq (Sr (Wn 4 rfl (Wg (Any.rd (.dec (.eql rfl rfl) (dF (by omega))) _) rfl (Wn 3 rfl (Wg (Any.rd (.dec (.lss rfl rfl) (dF (by omega))) _) rfl (Wn 3 rfl (Wg (Any.rd (.dec (.gtr rfl rfl) (dF (by omega))) _) rfl ?_)))))))))
 refine Wn 1 rfl (Nx (WC.iD rfl (Sn (Sr (W.ef rfl rfl rfl (Ef.fI z60 fun m l ac (A:fA l m 60 (oM iE).toArray) L=>?_))))))
 have N:=K.trans L
 refine Nx (Sq (Sr (Wn 1 rfl (Nx (WC.block ?_)))))
 have f5:=(aa.le (J.trans (j.trans L)))
 have O:=(I.le (j.trans L))
 refine WC.loop (ι:=Nat×(Option Addr)×Nat) (fun⟨k,Ab,cb⟩=>[(0,.int .u64 ((p:Nat):Int)),(2,.int .i64 ((n:Nat):Int)),(4,.pointer (some ⟨y,0,none⟩)),(6,.pointer (some ⟨z,0,none⟩)),(9,.pointer (some ⟨m,0,none⟩)),(10,.int .i64 ((k:Nat):Int))]) (fun⟨k,Ab,cb⟩ b=>(k<=n-1)/\Le w b/\l.heap.size<=b.heap.size/\fA b y 27 (seed.map jM).toArray/\fA b z 60 (oM iE).toArray/\fA b m 60 #[.slice none 0 0,.slice Ab k cb]/\eU b l.heap.size 25 rT 1 Ab k cb (lF seed k)) (fun⟨k,Ab,cb⟩=>n-1-k) (0,none,0) ?_ ?_ ?_
 ·exact .of rfl
 ·exact⟨Nat.zero_le _,N,Nat.le_refl _,f5,O,A,(eU.nil l l.heap.size 25 rT 1 none)⟩
 rintro⟨k,Ab,cb⟩ b ⟨hk,P,ar,au,Q,C,o⟩
 have av:l.heap.size<=b.heap.size:=by omega
 refine Sq (Sr (Wn 2 rfl (Wa (.sub rfl rfl (by omega)) rfl (Wn 1 rfl (Nx ?_)))))
 by_cases c1:((k:Nat):Int)<(((n:Nat):Int)-1)
 ·refine Cy rfl (dT c1) (Sn (Sq (WC.block (WC.draw [0,1,2,3,4,5,6,7,8,9,10,11,12] mixed (by kernel_rfl) fun w8 i=>(Ga rfl (.eZ FO rfl) ?_)))))
  have f8:=(C.le i)
  refine Gd rfl (.fe (v:= .slice Ab k cb) ND rfl f8 rfl) (Ga rfl (.BB underlying27 xE rfl) (Gn 1 rfl (Gd rfl (.toU8 k (lY underlying3) underlying5 rfl rfl) (G.ef rfl rfl rfl rfl rfl (Ef.gq (len:=1) [_] underlying97 vF rfl (by simp[Value.cells,jM]) rfl (by decide) (by decide) ?_)))))
  intro R ad aw S d
  refine⟨fun _=>d,?_⟩
  have S:fA ad R 5 (([BitVec.ofNat 8 k]).map mD).flatten.toArray:=S
  have ax:eU ad w8.heap.size 5 mD 1 (some ⟨R,0,none⟩) 1 1 ([BitVec.ofNat 8 k]):=S.kL aw pO rfl rfl (by decide)
  refine G.ef rfl rfl rfl rfl rfl (Ef.jT [_,_] underlying151 Ke rfl (by intro v hv;simp at hv;rcases hv with rfl|rfl<;>rfl) rfl (by decide) (by decide) ?_)
  intro ay ae aM T c
  refine⟨fun _=>c,?_⟩
  have T:fA ae ay 97 #[.slice (some ⟨y,0,none⟩) 32 32,.slice (some ⟨R,0,none⟩) 1 1]:=T
  have af:=(au.le (i.trans (d.trans c)))
  refine G.ef rfl rfl rfl rfl rfl (Ef.call WH rfl rfl (FW _ pX ae (ps:=[seed,[BitVec.ofNat 8 k]]) rfl (T.sl (s:=1) (n:=2) rfl) (.cons (af.sb hse) (.cons (xz (ax.le c).vec) (.nil _))) (by simp[kE,iA, *];decide)) ?_)
  rintro _ az ⟨rfl,e⟩
  refine⟨_,rfl,?_⟩
  refine⟨fun _=>e,?_⟩
  refine G.ef rfl rfl rfl rfl rfl (Ef.call Vh rfl rfl (II (tag pX [seed,[BitVec.ofNat 8 k]]) (nY _ _) az) ?_)
  rintro _ aA ⟨rfl,f⟩
  refine⟨_,rfl,?_⟩
  refine⟨fun _=>f,?_⟩
  refine G.ef rfl rfl rfl rfl rfl (Ef.gq (len:=1) [_] underlying57 wB rfl (by simp[Value.cells]) rfl (by decide) (by decide) ?_)
  intro ah ai aB D h
  refine⟨fun _=>h,?_⟩
  have D:fA ai ah 25 (([nM (tag pX [seed,[BitVec.ofNat 8 k]])]).map rT).flatten.toArray:=D
  have aO:eU ai aA.heap.size 25 rT 1 (some ⟨ah,0,none⟩) 1 1 ([nM (tag pX [seed,[BitVec.ofNat 8 k]])]):=D.kL aB iH rfl rfl (by decide)
  have t:=(o.le (i.trans (d.trans (c.trans (e.trans (f.trans h))))))
  refine G.ef rfl rfl rfl rfl rfl (Ef.mP (a:=(nM (tag pX [seed,[BitVec.ofNat 8 k]]))) underlying57 wB underlying57 iH rfl t rfl D (by omega) (by unfold maxLen;omega) (by have:=av;have:=i.size;have:=d.size;have:=c.size;have:=e.size;have:=f.size;have:=h.size;omega) ?_)
  intro aj ak aP al u aQ
  refine noT (by kernel_rfl) (Ga rfl (.eZ FO rfl) ?_)
  have aC:=((f8.le (d.trans (c.trans (e.trans (f.trans h))))).ch u (t.rl (by have:=A.lt;omega)))
  refine G.iO rfl rfl rfl rfl (Ef.store NC rfl rfl aC (by first|decide|(simp;done)) rfl ?_)
  intro aE U x
  refine noT (by kernel_rfl) ?_
  have U:fA aE m 60 #[.slice none 0 0,.slice aj (k+1) ak]:=U
  refine G.nil (E.gI (E.eY (WC.region (Wn 1 rfl (Wa (.add rfl rfl (by omega)) rfl (Wn 1 rfl (W.nil ?_)))))))
  have aF:=(((af.le (e.trans (f.trans h))).ch u (t.rl (by have:=f5.lt;omega))).cn x (by have:=aa.lt;have:=J.size;have:=j.size;omega))
  have aG:=(((Q.le (i.trans (d.trans (c.trans (e.trans (f.trans h)))))).ch u (t.rl (by have:=O.lt;omega))).cn x (by have:=I.lt;have:=j.size;omega))
  have aH:=(al.cb x (al.rl (by have:=A.lt;omega)))
  refine E.again (k+1,aj,ak) (.of rfl) ?_ ?_
  ·exact⟨by omega,((((((((P.trans i).trans d).trans c).trans e).trans f).trans h).gG u (fun q hq=>Nat.le_trans N.size (t.row hq).1)).tb x K ac),by have:=ar;have:=i.size;have:=d.size;have:=c.size;have:=e.size;have:=f.size;have:=h.size;have:=u.size;have:=x.size;omega,aF,aG,U,(aH.cast rfl (wP _ _).symm)⟩
  first|omega|(simp only[];omega)
 refine Cn rfl (dF c1) (WC.exit (E.fC (E.fC (E.gW (E.eY (Sr (Wn 1 rfl (Wa (.eZ FO rfl) rfl (Wr (.fe (v:= .slice Ab k cb) ND rfl C rfl) rfl (W.cl YL rfl rfl (KX p hp hr b o.vec (by omega)) ?_))))))))))
 rintro _ aR ⟨am,an,rfl,V,F⟩
 refine Wa (.eZ Qm rfl) rfl (W.iO rfl rfl (Ef.store NB rfl rfl (C.le F) (by first|decide|(simp;done)) rfl ?_))
 intro aI X H
 have X:fA aI m 60 #[.slice am (k+1) an,.slice Ab k cb]:=X
 refine Nx (Sr (Wr (.fB Kc (by rfl) rfl X) rfl ?_))
 refine W.sA FM rfl rfl ((Q.le F).cn H (by have:=I.lt;have:=j.size;omega)) ?_
 intro aJ Y Z
 have Y:fA aJ z 60 #[.slice am (k+1) an,.slice Ab k cb]:=Y
 refine Wn 1 rfl (Nx (Rt (E.jb rfl (iB rfl Y Kc (by rfl)) rfl ?_)))
 have hkn:n=k+1:=(by omega)
 subst hkn
 exact⟨_,_,_,_,rfl,(((V.cb H (V.rl (by have:=C.lt;omega))).cb Z (V.rl (by have:=Q.lt;omega))).mono P.size),((((o.le F).cb H (o.rl (by have:=A.lt;omega))).cb Z (o.rl (by have:=O.lt;omega))).mono N.size),(((P.trans F).tb H K ac).tb Z L1 aq)⟩

theorem JB (s:Nat)(n:Int)(w:World):Calls prog 52 #[.int .u64 ((s:Nat):Int),.int .i64 (n)] w fun r w'=>∃A c,r= .returned (.slice A (jg s n).length c)/\eU w' w.heap.size 25 rT 1 A (jg s n).length c (jg s n)/\Le w w':=by
 have aK:=iA (jO s 0)
 have e0:jO 0 s=jO s 0:=by rw[Lg,Lg,Nat.add_comm]
 refine enter func52 rfl rfl ?_
 have y:=Le.refl w
 refine Sr (Wn 1 rfl (Nx (Sq (Sr (Wn 2 rfl ?_)))))
 by_cases O:n<1
 ·refine Dt O rfl rfl (Wn 3 rfl (Nx (WC.gL rfl (Sr (Wn 1 rfl (Nx (Rt (E.eX (E.fu rfl rfl ?_)))))))))
  rw[lN (by omega)]
  exact⟨none,0,rfl,eU.nil _ _ _ _ _ _,y⟩
 refine Df O rfl rfl (Wn 3 rfl (Nx ?_))
 by_cases P:8<n
 ·refine Cy rfl (dT P) (Sr (Wn 1 rfl (Nx (Rt (E.eX (E.fu rfl rfl ?_))))))
  rw[lN (by omega)]
  exact⟨none,0,rfl,eU.nil _ _ _ _ _ _,y⟩
 refine Cn rfl (dF P) (Sn (Sr (Wn 1 rfl (W.cl P9 rfl rfl (De s 0 w) ?_))))
 rintro _ e ⟨rfl,ai⟩
 have Q:=y.trans ai
 refine Wn 1 rfl (Nx (Sr (Wn 1 rfl (Nx (Sq (Sr (Wn 1 rfl (Nx (WC.block (WC.loop (ι:=Nat×(Option Addr)×Nat) (fun⟨k,Aa,ca⟩=>[(0,.int .u64 ((s:Nat):Int)),(1,.int .i64 n),(5,.int .u64 ((jO s 0:Nat):Int)),(6,.slice Aa k ca),(7,.int .i64 ((k:Nat):Int))]) (fun⟨k,Aa,ca⟩ b=>(k<=8)/\Le w b/\e.heap.size<=b.heap.size/\eU b e.heap.size 5 mD 1 Aa k ca (ny (jO s 0) k)) (fun⟨k,Aa,ca⟩=>8-k) (0,none,0) ?_ ?_ ?_))))))))))
 ·exact .of rfl
 ·exact⟨by omega,Q,Nat.le_refl _,(eU.nil e e.heap.size 5 mD 1 none)⟩
 rintro⟨k,Aa,ca⟩ b ⟨hk,h,aj,z⟩
 have R:e.heap.size<=b.heap.size:=by omega
 refine Sq (Sr (Wn 2 rfl (Nx ?_)))
 by_cases S:((k:Nat):Int)<8
 ·refine Cy rfl (dT S) (Sn (Sq (WC.block (WC.region (Wn 3 rfl (Wa (.mul rfl rfl (by omega)) rfl (Wa (.sub rfl rfl (by omega)) rfl (Wr (.yh (lY underlying3) underlying154 rfl (IntWalk.u64_in _ (by omega))) rfl (Wa (.Nq (jO s 0) (56-8*k) rfl rfl rfl (by omega) (by show 56-8*k<=64;omega)) rfl ?_)))))))))
  refine Wr (.toU8 ((jO s 0)>>>(56-8*k)) (lY underlying24) underlying5 rfl rfl) rfl (W.ef rfl rfl rfl (Ef.gq (len:=1) [_] underlying97 vF rfl (by simp[Value.cells,jM]) rfl (by decide) (by decide) ?_))
  intro T U ak o t
  have o:fA U T 5 (([BitVec.ofNat 8 ((jO s 0)>>>(56-8*k))]).map mD).flatten.toArray:=o
  have aL:eU U b.heap.size 5 mD 1 (some ⟨T,0,none⟩) 1 1 ([BitVec.ofNat 8 ((jO s 0)>>>(56-8*k))]):=o.kL ak pO rfl rfl (by decide)
  have V:=(z.le t)
  refine W.ef rfl rfl rfl (Ef.mP (a:=(BitVec.ofNat 8 ((jO s 0)>>>(56-8*k)))) underlying97 vF underlying97 pO rfl V rfl o (by omega) (by unfold maxLen;omega) (by have:=R;have:=t.size;omega) ?_)
  intro al am aM an X aO
  refine Wn 1 rfl (W.nil (E.gI (E.eY (WC.region (Wn 1 rfl (Wa (.add rfl rfl (by omega)) rfl (Wn 1 rfl (W.nil (E.again (k+1,al,am) (.of rfl) ?_ ?_)))))))))
  ·exact⟨by omega,((h.trans t).gG X (fun q hq=>Nat.le_trans Q.size (V.row hq).1)),by have:=aj;have:=t.size;have:=X.size;omega,(an.cast rfl (pV _ _ (by omega)).symm)⟩
  first|omega|(simp only[];omega)
 refine Cn rfl (dF S) (WC.exit (E.fC (E.fC (E.gW (E.eY (Sr (Wn 1 rfl (Nx (Sq (Sr (Wn 1 rfl (Nx (WC.block (WC.loop (ι:=Nat×(Option Addr)×Nat) (fun⟨k2,Ao,co⟩=>[(0,.int .u64 ((s:Nat):Int)),(1,.int .i64 n),(6,.slice Aa k ca),(8,.slice Ao k2 co),(9,.int .i64 ((k2:Nat):Int))]) (fun⟨k2,Ao,co⟩ d=>(k2<=n.toNat-1)/\Le w d/\b.heap.size<=d.heap.size/\eU d e.heap.size 5 mD 1 Aa k ca (ny (jO s 0) k)/\eU d b.heap.size 25 rT 1 Ao k2 co (mi s k2)) (fun⟨k2,Ao,co⟩=>n.toNat-1-k2) (0,none,0) ?_ ?_ ?_))))))))))))))
 ·exact .of rfl
 ·exact⟨Nat.zero_le _,h,Nat.le_refl _,z,(eU.nil b b.heap.size 25 rT 1 none)⟩
 rintro⟨k2,Ao,co⟩ d ⟨aP,Y,ao,ap,C⟩
 have aQ:e.heap.size<=d.heap.size:=Nat.le_trans R (by omega)
 have Z:b.heap.size<=d.heap.size:=by omega
 have aq:k=8:=by omega
 have ar:(ny (jO s 0) k).length=8:=by rw[aq];rfl
 refine Sq (Sr (Wn 2 rfl (Wa (.sub rfl rfl (by omega)) rfl (Wn 1 rfl (Nx ?_)))))
 by_cases c2:((k2:Nat):Int)<(n-1)
 ·refine Cy rfl (dT c2) (Sn (Sq (WC.block (WC.region (Wn 3 rfl (Wr (.toU8 k2 (lY underlying3) underlying5 rfl rfl) rfl (W.ef rfl rfl rfl (Ef.gq (len:=1) [_] underlying97 vF rfl (by simp[Value.cells,jM]) rfl (by decide) (by decide) ?_))))))))
  intro D aa au F i
  have F:fA aa D 5 (([BitVec.ofNat 8 k2]).map mD).flatten.toArray:=F
  have av:eU aa d.heap.size 5 mD 1 (some ⟨D,0,none⟩) 1 1 ([BitVec.ofNat 8 k2]):=F.kL au pO rfl rfl (by decide)
  refine W.ef rfl rfl rfl (Ef.jT [_,_] underlying151 Ke rfl (by intro v hv;simp at hv;rcases hv with rfl|rfl<;>rfl) rfl (by decide) (by decide) ?_)
  intro aw ab aR H f
  have H:fA ab aw 97 #[.slice Aa k ca,.slice (some ⟨D,0,none⟩) 1 1]:=H
  have f7:=(ap.le (i.trans f))
  refine W.cl WH rfl rfl (FW _ wS ab (ps:=[(ny (jO s 0) k),[BitVec.ofNat 8 k2]]) rfl (H.sl (s:=1) (n:=2) rfl) (.cons (xz f7.vec) (.cons (xz (av.le f).vec) (.nil _))) (by rw[xG,ar];show 24+4+8+1<=_;decide)) ?_
  rintro _ ax ⟨rfl,j⟩
  refine W.cl Vh rfl rfl (II (tag wS [(ny (jO s 0) k),[BitVec.ofNat 8 k2]]) (nY _ _) ax) ?_
  rintro _ ay ⟨rfl,l⟩
  refine W.ef rfl rfl rfl (Ef.gq (len:=1) [_] underlying57 wB rfl (by simp[Value.cells]) rfl (by decide) (by decide) ?_)
  intro ac ad az u m
  have u:fA ad ac 25 (([nM (tag wS [(ny (jO s 0) k),[BitVec.ofNat 8 k2]])]).map rT).flatten.toArray:=u
  have aS:eU ad ay.heap.size 25 rT 1 (some ⟨ac,0,none⟩) 1 1 ([nM (tag wS [(ny (jO s 0) k),[BitVec.ofNat 8 k2]])]):=u.kL az iH rfl rfl (by decide)
  have I:=(C.le (i.trans (f.trans (j.trans (l.trans m)))))
  refine W.ef rfl rfl rfl (Ef.mP (a:=(nM (tag wS [(ny (jO s 0) k),[BitVec.ofNat 8 k2]]))) underlying57 wB underlying57 iH rfl I rfl u (by omega) (by unfold maxLen;omega) (by have:=Z;have:=i.size;have:=f.size;have:=j.size;have:=l.size;have:=m.size;omega) ?_)
  intro aA aB aT aC J aU
  refine Wn 1 rfl (W.nil (E.gI (E.eY (WC.region (Wn 1 rfl (Wa (.add rfl rfl (by omega)) rfl (Wn 1 rfl (W.nil ?_))))))))
  have aE:=((f7.le (j.trans (l.trans m))).ch J (Apart.symm (fun q h1 h2=>by have:=(z.row h1).2;have:=(I.row h2).1;omega)))
  refine E.again (k2+1,aA,aB) (.of rfl) ?_ ?_
  ·exact⟨by omega,((((((Y.trans i).trans f).trans j).trans l).trans m).gG J (fun q hq=>Nat.le_trans h.size (I.row hq).1)),by have:=ao;have:=i.size;have:=f.size;have:=j.size;have:=l.size;have:=m.size;have:=J.size;omega,aE,(aC.cast rfl (by rw[Bh];unfold D8;rw[e0,show ny (jO s 0) k=wL (jO s 0)from List.take_of_length_le (by omega)]))⟩
  first|omega|(simp only[];omega)
 refine Cn rfl (dF c2) (WC.exit (E.fC (E.fC (E.gW (E.eY (Sr (Wn 3 rfl (W.cl YK rfl rfl (JA d C.vec (by omega)) ?_))))))))
 rintro _ aF ⟨rfl,K⟩
 refine W.cl YJ rfl rfl (RI s (oD (mi s k2)) aF) ?_
 rintro _ aG ⟨rfl,L⟩
 refine W.ef rfl rfl rfl (Ef.gq (len:=1) [_] underlying57 wB rfl (by simp[Value.cells]) rfl (by decide) (by decide) ?_)
 intro ae af aH x N
 have x:fA af ae 25 (([jO s (wO (oD (mi s k2)))]).map rT).flatten.toArray:=x
 have aV:eU af aG.heap.size 25 rT 1 (some ⟨ae,0,none⟩) 1 1 ([jO s (wO (oD (mi s k2)))]):=x.kL aH iH rfl rfl (by decide)
 have ah:=(C.le (K.trans (L.trans N)))
 refine W.ef rfl rfl rfl (Ef.mP (a:=(jO s (wO (oD (mi s k2))))) underlying57 wB underlying57 iH rfl ah rfl x (by omega) (by unfold maxLen;omega) (by have:=Z;have:=K.size;have:=L.size;have:=N.size;omega) ?_)
 intro aW aX aY aI aJ aZ
 refine Wn 1 rfl (Nx (Rt (E.fu rfl rfl ?_)))
 have hkn:k2=n.toNat-1:=(by omega)
 have hpe:jg s n=mi s k2++[jO s (wO (oD (mi s k2)))]:=(by rw[hkn];exact if_neg (by omega))
 rw[hpe,List.length_append,yl]
 exact⟨_,_,rfl,(aI.mono h.size),((((Y.trans K).trans L).trans N).gG aJ (fun q hq=>Nat.le_trans h.size (ah.row hq).1))⟩

theorem KZ (seed:List Byte)(hse:seed.length=32)(t n:Nat)(hnn:n<=9223372036854775807)(w:World):Calls prog 53 #[.int .u64 ((base t:Nat):Int),.agg (seed.map jM).toArray,.int .i64 ((n:Nat):Int)] w fun e w'=>∃r:R9,e= .returned (.tuple #[.agg (oM r).toArray,.bool (o9 t n)])/\kz w' w.heap.size r (uB t seed n)/\Le w w':=by
  by_cases h:qR t n
  · rw[vC (oN.2 h),oN.2 h]
    obtain⟨b,c,d⟩:=h
    refine(Ox (base t) (uE _) (vU _) b hse n c d w).mono fun e w' h=>?_
    obtain⟨Ap,cp,Ab,cb,rfl,op,ob,hl⟩:=h
    exact⟨⟨Ap,n,cp,Ab,n-1,cb⟩,rfl,⟨op,ob⟩,hl⟩
  · have hb:o9 t n=false:=decide_eq_false h
    rw[show uB t seed n=q9 from if_neg (by rw[hb];decide),hb]
    exact(KY (base t) (uE _) hse n (fun k=>h k.2) w hnn).mono fun e w' h=>⟨iE,h.1,⟨eU.nil _ _ _ _ _ _,eU.nil _ _ _ _ _ _⟩,h.2⟩

theorem JC (s:Nat){seed:List Byte}(hse:seed.length=32){A:Option Addr}{n c:Nat}{es:List Int}(w:World)(hV:Vec w iv 1 A n es)(hn:n<=1000000)(he:∀e∈es,0<=e/\e<=1000000):Calls prog 18 #[.slice A n c,.int .u64 ((s:Nat):Int),.agg (seed.map jM).toArray] w fun r w'=>∃A' c' qs,r= .returned (.slice A' (lQ s seed (es.map Int.toNat)).length c')/\eU w' w.heap.size 60 oM 2 A' (lQ s seed (es.map Int.toNat)).length c' qs/\iG w' w.heap.size qs (lQ s seed (es.map Int.toNat))/\Le w w':=by
 have hl:=hV.1
 have hnl:(es.map Int.toNat).length=n:=by rw[List.length_map];exact hl
 have hb:∀i,i<n->0<=es.getD i 0/\es.getD i 0<=1000000:=fun i hi=>he _ (by rw[show es.getD i 0=es[i]'(by omega) by simp[List.getD,show i<es.length by omega]];exact List.getElem_mem _)
 have h0:=fun i hi=>(hb i hi).1
 refine enter func18 rfl rfl (Sr (W.ef rfl rfl rfl (Ef.iM rfl fun N P aZ (av:fA P N 27 (seed.map jM).toArray) aw=>(Wn 1 rfl (Nx (Sr (Wn 2 rfl (Wr (.len underlying47 rfl) rfl ?_))))))))
 obtain⟨ts,xX⟩:∃z,z=(jg s ((n:Nat):Int)):=⟨_,rfl⟩
 refine W.cl aa0 rfl rfl (by have k:=JB s ((n:Nat):Int) P;rw[<-xX]at k;exact k) ?_
 rintro _ x ⟨af,ah,rfl,T,U⟩
 have I:=((Le.refl w).trans aw).trans U
 have a0:=ym s ((n:Nat):Int)
 have htn:ts.length<=n:=by rw[xX];exact vJ s n
 have htz:ts.length=n\/ts.length=0:=by rw[xX];exact Gp
 have ens:∀i,(es.map Int.toNat).getD i 0=(es.getD i 0).toNat:=fun i=>by rw[List.getD_eq_getElem?_getD,List.getD_eq_getElem?_getD,List.getElem?_map];cases es[i]? <;>rfl
 have hpa:∀i,tQ s seed (es.map Int.toNat) i=mI (ts.getD i 0) (Ls seed i) (es.getD i 0).toNat:=fun i=>by unfold tQ;rw[hnl,<-xX,ens]
 have KW:mJ s (es.map Int.toNat)↔∀i,i<ts.length->qR (ts.getD i 0) (es.getD i 0).toNat:=by unfold mJ;simp only[hnl,<-xX,ens]
 refine Wn 1 rfl (Nx (Sq (Sr (Wn 1 rfl (Wr (.len underlying47 rfl) rfl (Wn 1 rfl ?_))))))
 by_cases ai:((n:Nat):Int)<1
 ·refine Dt ai rfl rfl (Wn 6 rfl (Nx (WC.gL rfl (Sr (Wn 1 rfl (Nx (Rt (E.eX (E.fu rfl rfl ?_)))))))))
  rw[og (KW.2 (fun j hj=>by omega)),show(jg s (((es.map Int.toNat).length:Nat):Int)).length=0 by rw[hnl,<-xX];omega]
  exact⟨none,0,[],rfl,eU.nil _ _ _ _ _ _,iG.nil _ _,I⟩
 refine Df ai rfl rfl (Wn 1 rfl (Wg (.len underlying57 rfl) rfl (Wn 1 rfl (Wg (.len underlying47 rfl) rfl (Wn 2 rfl (Nx ?_))))))
 by_cases c0:((ts.length:Nat):Int)≠((n:Nat):Int)
 ·refine Cy rfl (dT c0) (Sr (Wn 1 rfl (Nx (Rt (E.eX (E.fu rfl rfl ?_))))))
  rw[og (KW.2 (fun j hj=>by omega)),show(jg s (((es.map Int.toNat).length:Nat):Int)).length=0 by rw[hnl,<-xX];omega]
  exact⟨none,0,[],rfl,eU.nil _ _ _ _ _ _,iG.nil _ _,I⟩
 refine Cn rfl (dF c0) (Sn (Sr (Wn 1 rfl (Nx (Sq (Sr (Wn 1 rfl (Nx (WC.block ?_)))))))))
 have f3:=(av.le U)
 refine WC.loop (ι:=Nat×(Option Addr)×Nat×(List R9)) (fun⟨i,Ao,co,qo⟩=>[(0,.slice A n c),(5,.pointer (some ⟨N,0,none⟩)),(7,.slice af ts.length ah),(8,.slice Ao i co),(9,.int .i64 ((i:Nat):Int))]) (fun⟨i,Ao,co,qo⟩ t=>(i<=n)/\(∀j,j<i->qR (ts.getD j 0) (es.getD j 0).toNat)/\Le w t/\x.heap.size<=t.heap.size/\fA t N 27 (seed.map jM).toArray/\eU t P.heap.size 25 rT 1 af ts.length ah ts/\eU t x.heap.size 60 oM 2 Ao i co qo/\iG t x.heap.size qo (tT s seed (es.map Int.toNat) i)) (fun⟨i,Ao,co,qo⟩=>n-i) (0,none,0,([])) ?_ ?_ ?_
 ·exact .of rfl
 ·exact⟨Nat.zero_le _,fun j hj=>absurd hj (Nat.not_lt_zero _),I,Nat.le_refl _,f3,T,(eU.nil x x.heap.size 60 oM 2 none),(iG.nil x x.heap.size)⟩
 rintro⟨i,Ao,co,qo⟩ t ⟨hi,hall,aj,ax,V,ay,X,ak⟩
 have a1:P.heap.size<=t.heap.size:=by have:=U.size;omega
 have a2:x.heap.size<=t.heap.size:=by omega
 have al:x.heap.size<=t.heap.size:=by omega
 refine Sq (Sr (Wn 2 rfl (Wr (.len underlying47 rfl) rfl (Wn 1 rfl (Nx ?_)))))
 by_cases c1:((i:Nat):Int)<((n:Nat):Int)
 ·refine Cy rfl (dT c1) (Sn (Sq (WC.block (Sq (WC.Hz [0,1,2,3,5,6,7,11,12,13,14] [4,8,9,10,15,16,17,18,19] [20,21] (fun i=>bif Nat.beq i 9 then[8]else bif Nat.beq i 10 then[9]else bif Nat.beq i 15 then[4,10]else bif Nat.beq i 16 then[15]else bif Nat.beq i 17 then[16]else bif Nat.beq i 18 then[16]else[]) mixed (by kernel_rfl) fun J o=>?_)))))
  have Y:=aj.trans o
  refine Gn 2 rfl (Ga rfl (.fV i underlying57 H9 rfl rfl (T.vec.isSome iH (by omega)) rfl (by omega)) ?_)
  have Z:=(ay.le o)
  refine Gd rfl (.jB (v:= .int .u64 (((ts.getD i 0):Nat):Int)) Ia rfl Z.vec iH (gD ts 0 (by omega)) rfl) (Ga rfl (.BB underlying27 xE rfl) (Gn 1 rfl (Gd rfl (.toU8 i (lY underlying3) underlying5 rfl rfl) (Gn 2 rfl (Ga rfl (.fV i underlying47 kR rfl rfl (hV.isSome fT (by omega)) rfl (by omega)) ?_)))))
  refine Gd rfl (.jB (v:= .int .i64 (es.getD i 0)) gM rfl (hV.le Y) fT (gD es 0 (by omega)) rfl) (G.nil ?_)
  refine E.Hy ⟨by rfl,fun iU=>(bif Nat.beq iU 4 then(fun v w'=>v= .int .u64 ((base (ts.getD i 0):Nat):Int))else(bif Nat.beq iU 8 then(fun v w'=>∃d,v= .slice (some ⟨d,0,none⟩) 1 1/\eU w' J.heap.size 5 mD 1 (some ⟨d,0,none⟩) 1 1 ([BitVec.ofNat 8 i]))else(bif Nat.beq iU 9 then(fun v w'=>∃d C,v= .slice (some ⟨C,0,none⟩) 2 2/\eU w' J.heap.size 5 mD 1 (some ⟨d,0,none⟩) 1 1 ([BitVec.ofNat 8 i])/\fA w' C 97 #[.slice (some ⟨N,0,none⟩) 32 32,.slice (some ⟨d,0,none⟩) 1 1])else(bif Nat.beq iU 10 then(fun v w'=>v= .agg ((tag lM [seed,[BitVec.ofNat 8 i]]).map jM).toArray)else(bif Nat.beq iU 15 then(fun v w'=>∃b,v= .tuple #[.agg (oM b).toArray,.bool (o9 (ts.getD i 0) (es.getD i 0).toNat)]/\kz w' J.heap.size b (uB (ts.getD i 0) (tag lM [seed,[BitVec.ofNat 8 i]]) (es.getD i 0).toNat))else(bif Nat.beq iU 16 then(fun v w'=>∃b,v= .tuple #[.agg (oM b).toArray,.bool (o9 (ts.getD i 0) (es.getD i 0).toNat)]/\kz w' J.heap.size b (uB (ts.getD i 0) (tag lM [seed,[BitVec.ofNat 8 i]]) (es.getD i 0).toNat))else(bif Nat.beq iU 17 then(fun v w'=>∃b,v= .agg (oM b).toArray/\kz w' J.heap.size b (uB (ts.getD i 0) (tag lM [seed,[BitVec.ofNat 8 i]]) (es.getD i 0).toNat))else(bif Nat.beq iU 18 then(fun v w'=>v= .bool (o9 (ts.getD i 0) (es.getD i 0).toNat))else(bif Nat.beq iU 19 then(fun v w'=>∃u,v= .pointer (some ⟨u,0,none⟩)/\fA w' u 60 (oM iE).toArray)else(fun _ _=>True)))))))))),?_,?_,?_⟩
  ·intro iU hi v l y hv hle
   simp only[List.mem_cons,List.not_mem_nil,or_false]at hi
   rcases hi with rfl|rfl|rfl|rfl|rfl|rfl|rfl|rfl|rfl
   ·exact hv
   ·obtain⟨d,hvv,D⟩:=hv;exact⟨d,hvv,D.le hle⟩
   ·obtain⟨d,C,hvv,D,Q⟩:=hv;exact⟨d,C,hvv,D.le hle,Q.le hle⟩
   ·exact hv
   ·obtain⟨b,hvv,m⟩:=hv;exact⟨b,hvv,m.le hle⟩
   ·obtain⟨b,hvv,m⟩:=hv;exact⟨b,hvv,m.le hle⟩
   ·obtain⟨b,hvv,m⟩:=hv;exact⟨b,hvv,m.le hle⟩
   ·exact hv
   obtain⟨u,hvv,O⟩:=hv;exact⟨u,hvv,O.le hle⟩
  ·intro iU hi
   simp only[List.mem_cons,List.not_mem_nil,or_false]at hi
   rcases hi with rfl|rfl|rfl|rfl|rfl|rfl|rfl|rfl|rfl
   ·refine .inl ⟨rfl,Step.JN rfl rfl ?_⟩
    intro l hle
    refine Ef.call Yw rfl rfl (IG (ts.getD i 0) l) ?_
    rintro _ y ⟨rfl,f⟩
    refine⟨_,rfl,?_⟩
    exact⟨f,rfl,fun k hk=>hk.elim⟩
   ·refine .inl ⟨rfl,Step.JN rfl rfl ?_⟩
    intro l hle
    refine Ef.gq (len:=1) [_] underlying97 vF rfl (by simp[Value.cells,jM]) rfl (by decide) (by decide) ?_
    intro d y hg aa f
    have aa:fA y d 5 (([BitVec.ofNat 8 i]).map mD).flatten.toArray:=aa
    have am:eU y l.heap.size 5 mD 1 (some ⟨d,0,none⟩) 1 1 ([BitVec.ofNat 8 i]):=aa.kL hg pO rfl rfl (by decide)
    exact⟨f,⟨_,rfl,(am.mono hle.size)⟩,fun k hk=>am.row hk⟩
   ·refine .inl ⟨rfl,Step.Ta (j:=8) rfl rfl rfl ?_⟩
    intro v8 l hle az
    obtain⟨d,rfl,D⟩:=az
    refine Ef.jT [_,_] underlying151 Ke rfl (by intro v hv;simp at hv;rcases hv with rfl|rfl<;>rfl) rfl (by decide) (by decide) ?_
    intro C y hg R f
    have R:fA y C 97 #[.slice (some ⟨N,0,none⟩) 32 32,.slice (some ⟨d,0,none⟩) 1 1]:=R
    exact⟨f,⟨_,_,rfl,(D.le f),R⟩,fun k hk=>(mg hk)▸⟨hg,R.lt⟩⟩
   ·refine .inl ⟨rfl,Step.Ta (j:=9) rfl rfl rfl ?_⟩
    intro v9 l hle aA
    obtain⟨d,C,rfl,D,Q⟩:=aA
    refine Ef.call WH rfl rfl (FW _ lM l (ps:=[seed,[BitVec.ofNat 8 i]]) rfl (Q.sl (s:=1) (n:=2) rfl) (.cons ((V.le (o.trans hle)).sb hse) (.cons (xz D.vec) (.nil _))) (by rw[xG,hse];show 24+5+32+1<=_;decide)) ?_
    rintro _ y ⟨rfl,f⟩
    refine⟨_,rfl,?_⟩
    exact⟨f,rfl,fun k hk=>hk.elim⟩
   ·refine .inl ⟨rfl,Step.of2 (j:=4) (k:=10) rfl rfl rfl rfl ?_⟩
    intro v4 aB l hle ab ac
    have ab:v4= .int .u64 ((base (ts.getD i 0):Nat):Int):=ab
    subst ab
    have ac:aB= .agg ((tag lM [seed,[BitVec.ofNat 8 i]]).map jM).toArray:=ac
    subst ac
    refine Ef.call aa1 rfl rfl (by have q:=KZ (tag lM [seed,[BitVec.ofNat 8 i]]) (nY _ _) (ts.getD i 0) (es.getD i 0).toNat (by have:=hb i (by omega);omega) l;rw[show(((es.getD i 0).toNat:Nat):Int)=es.getD i 0 from Int.toNat_of_nonneg (h0 i (by omega))]at q;exact q) ?_
    rintro _ y ⟨b,rfl,aC,f⟩
    refine⟨_,rfl,?_⟩
    exact⟨f,⟨_,rfl,(aC.mono hle.size)⟩,fun k hk=>hk.elim⟩
   ·refine vN.Ei (j:=15) rfl rfl rfl rfl fun a3 l hle aE=>?_
    obtain⟨b,rfl,m⟩:=aE
    exact⟨.tuple #[.agg (oM b).toArray,.bool (o9 (ts.getD i 0) (es.getD i 0).toNat)],.move rfl,⟨_,rfl,m⟩,fun k hk=>hk.elim⟩
   ·refine vN.Ei (j:=16) rfl rfl rfl rfl fun aF l hle ad=>?_
    obtain⟨b,rfl,m⟩:=ad
    exact⟨.agg (oM b).toArray,.extract (v:= .agg (oM b).toArray) rfl rfl,⟨_,rfl,m⟩,fun k hk=>hk.elim⟩
   ·refine vN.Ei (j:=16) rfl rfl rfl rfl fun aF l hle ad=>?_
    obtain⟨b,rfl,m⟩:=ad
    exact⟨.bool (o9 (ts.getD i 0) (es.getD i 0).toNat),.extract (v:= .bool (o9 (ts.getD i 0) (es.getD i 0).toNat)) rfl rfl,rfl,fun k hk=>hk.elim⟩
   refine .inl ⟨rfl,Step.JN rfl rfl ?_⟩
   intro l hle
   refine Ef.fI z60 fun u y hg an f=>?_
   exact⟨f,⟨_,rfl,an⟩,fun k hk=>(show u=k from hk)▸⟨hg,an.lt⟩⟩
  intro OO W_8 h_8 sP UJ abH
  have aG:OO 4= .int .u64 ((base (ts.getD i 0):Nat):Int):=sP 4 (by decide)
  obtain⟨d,aH,a4⟩:=sP 8 (by decide)
  obtain⟨d,C,aI,D,Q⟩:=sP 9 (by decide)
  have aJ:OO 10= .agg ((tag lM [seed,[BitVec.ofNat 8 i]]).map jM).toArray:=sP 10 (by decide)
  obtain⟨b,aK,aL⟩:=sP 15 (by decide)
  obtain⟨b,aM,aL⟩:=sP 16 (by decide)
  obtain⟨b,aO,m⟩:=sP 17 (by decide)
  have aP:OO 18= .bool (o9 (ts.getD i 0) (es.getD i 0).toNat):=sP 18 (by decide)
  obtain⟨u,ao,O⟩:=sP 19 (by decide)
  have aQ:J.heap.size<=u:=(UJ 19 (by decide) u (by rw[ao];rfl)).1
  show G _ _ _ _ _ ((37,OO 4)::(41,OO 8)::(42,OO 9)::(43,OO 10)::(48,OO 15)::(32,OO 16)::(49,OO 17)::(50,OO 18)::(10,OO 19)::_) _
  rw[aG,aH,aI,aJ,aK,aM,aO,aP,ao]
  refine G.iO rfl rfl rfl rfl (Ef.storeAll FM (by rfl) rfl rfl O (by simp only[List.size_toArray,iq.len]) (iq.one b) ?_)
  intro ap ae F
  refine noT (by kernel_rfl) ?_
  have ae:fA ap u 60 (oM b).toArray:=ae
  have aq:=(Y.trans h_8).tb F Y aQ
  refine Gn 1 rfl (G.nil (E.eY (Sq (Sr (Wn 2 rfl (Nx ?_))))))
  by_cases c2:(o9 (ts.getD i 0) (es.getD i 0).toNat)=true
  ·refine Cn rfl (congrArg not c2) (Sn (WC.region (Wn 1 rfl (Wr (.fB Kc (by rfl) rfl ae) rfl ?_))))
   refine W.ef rfl rfl rfl (Ef.gq (len:=1) [_] underlying53 Tm rfl (by simp[Value.cells,iq.len]) rfl (by decide) (by decide) ?_)
   intro ar au aR S H
   have S:fA au ar 60 (([b]).map oM).flatten.toArray:=S
   have a5:eU au ap.heap.size 60 oM 2 (some ⟨ar,0,none⟩) 1 1 ([b]):=S.kL aR iq rfl rfl (by decide)
   have K:=(((X.le (o.trans h_8)).cb F (X.rn (by have:=o.size;omega))).le H)
   refine W.ef rfl rfl rfl (Ef.mP (a:=b) underlying53 Tm underlying53 iq rfl K rfl S (by omega) (by unfold maxLen;omega) (by have:=al;have:=o.size;have:=h_8.size;have:=F.size;have:=H.size;omega) ?_)
   intro aS aT a6 aU L a7
   refine Wn 1 rfl ?_
   have aV:=((((ak.le (o.trans h_8)).qy F O (by decide) (by decide)).le H).MZ L K (by decide) (by decide))
   have aW:=(((m.qy F O (by decide) (by decide)).le H).MZ L K (by decide) (by decide))
   have Xq:=aV.push (aW.mono (by have:=al;have:=o.size;omega))
   refine W.nil (E.gI (E.eY (WC.region (Wn 1 rfl (Wa (.add rfl rfl (by omega)) rfl (Wn 1 rfl (W.nil ?_)))))))
   have aX:=((((V.le (o.trans h_8)).cn F (by have:=V.lt;have:=o.size;omega)).le H).ch L (K.rl (by have:=f3.lt;omega)))
   have aY:=((((Z.le h_8).cb F (Z.rn (by omega))).le H).ch L (Apart.symm (fun q h1 f=>by have:=(T.row h1).2;have:=(K.row f).1;omega)))
   refine E.again (i+1,aS,aT,(qo++[b])) (.of rfl) ?_ ?_
   ·exact⟨by omega,fun j hj=>(Nat.lt_succ_iff_lt_or_eq.1 hj).elim (hall j) (fun hh=>by subst hh;exact oN.1 (by assumption)),((aq.trans H).gG L (fun q hq=>Nat.le_trans I.size (K.row hq).1)),by have:=ax;have:=o.size;have:=h_8.size;have:=F.size;have:=H.size;have:=L.size;omega,aX,aY,aU,(Xq.cast (by rw[Bi,hpa,vC (by assumption)];rfl))⟩
   first|omega|(simp only[];omega)
  refine Cy rfl (congrArg not (Bool.eq_false_iff.2 c2)) (Sr (Wn 1 rfl (Nx (Rt (E.eX (E.gT (E.eX (E.eX (E.gT (E.eX (E.fu rfl rfl ?_)))))))))))
  rw[yn (fun h=>absurd (oN.2 (KW.1 h i (by omega))) (by assumption))]
  exact⟨none,0,[],rfl,eU.nil _ _ _ _ _ _,iG.nil _ _,aq⟩
 refine Cn rfl (dF c1) (WC.exit (E.fC (E.fC (E.gW (E.eY (Sr (Wn 2 rfl (Nx (Rt (E.fu rfl rfl ?_))))))))))
 have hie:(jg s (((es.map Int.toNat).length:Nat):Int)).length=i:=(by rw[hnl,<-xX];omega)
 rw[og (KW.2 (fun j hj=>hall j (by omega))),hie,uG]
 exact⟨_,_,_,rfl,(X.mono I.size),(ak.mono I.size),aj⟩
end Go.Proofs.YtkaedikifgpkeaaGreatDoor

