/- SplitTells: for every input the law answers true and leaves its arguments as they were. -/
import Derived.Test.YtkaedikifgpkeaaGreatDoorSplitTellsI
import Derived.Laws.Pointers
set_option linter.unusedVariables false
set_option linter.unusedSimpArgs false
namespace Go.Sx
set_option linter.unusedSectionVars false
open Go Go.RowKit
structure jU (w w':World)(F:Nat->Prop):Prop where
  os:w'.os=w.os
  tape:w'.tape=w.tape
  output:w'.output=w.output
  size:w.heap.size<=w'.heap.size
  block:∀k,k<w.heap.size->¬F k->w'.heap[k]? =w.heap[k]?
section
variable {w w' w'':World}{F G:Nat->Prop}
theorem jU.refl (w:World)(F:Nat->Prop):jU w w F:=⟨rfl,rfl,rfl,Nat.le_refl _,fun _ _ _=>rfl⟩
theorem Le.iQ (h:Le w w')(F:Nat->Prop):jU w w' F:=⟨h.os,h.tape,h.output,h.size,fun k hk _=>Below.block h k hk⟩
theorem jU.le (h:jU w w' F)(k:Le w' w''):jU w w'' F:=⟨k.os.trans h.os,k.tape.trans h.tape,k.output.trans h.output,Nat.le_trans h.size k.size,fun i hi hF=>(Below.block k i (Nat.lt_of_lt_of_le hi h.size)).trans (h.block i hi hF)⟩
theorem jU.trans (h:jU w w' F)(k:jU w' w'' F):jU w w'' F:=⟨k.os.trans h.os,k.tape.trans h.tape,k.output.trans h.output,Nat.le_trans h.size k.size,fun i hi hF=>(k.block i (Nat.lt_of_lt_of_le hi h.size) hF).trans (h.block i hi hF)⟩
theorem jU.sub (h:jU w w' F)(k:jU w' w'' G)(hG:∀i,G i->i<w.heap.size->F i):jU w w'' F:=⟨k.os.trans h.os,k.tape.trans h.tape,k.output.trans h.output,Nat.le_trans h.size k.size,fun i hi hF=>(k.block i (Nat.lt_of_lt_of_le hi h.size) (fun hg=>hF (hG i hg hi))).trans (h.block i hi hF)⟩
theorem jU.ch {r:Option Nat}(h:jU w w' F)(k:Ch w' w'' r)(hr:∀i,r=some i->i<w.heap.size->F i):jU w w'' F:=⟨k.os.trans h.os,k.tape.trans h.tape,k.output.trans h.output,Nat.le_trans h.size k.size,fun i hi hF=>(k.block i (Nat.lt_of_lt_of_le hi h.size) (fun he=>hF (hr i he.symm hi))).trans (h.block i hi hF)⟩
theorem Ch.iQ {r:Option Nat}(k:Ch w w' r)(hr:∀i,r=some i->F i):jU w w' F:=⟨k.os,k.tape,k.output,k.size,fun i hi hF=>k.block i hi (fun he=>hF (hr i he.symm))⟩
theorem jU.mono (h:jU w w' F)(hG:∀i,F i->i<w.heap.size->G i):jU w w' G:=⟨h.os,h.tape,h.output,h.size,fun i hi hn=>h.block i hi (fun hF=>hn (hG i hF hi))⟩
theorem Le.nP (h:Le w w')(k:jU w' w'' F)(hF:∀i,F i->w.heap.size<=i):Le w w'':=⟨k.os.trans h.os,k.tape.trans h.tape,k.output.trans h.output,Nat.le_trans h.size k.size,fun i hi=>(k.block i (Nat.lt_of_lt_of_le hi h.size) (fun hf=>by have:=hF i hf;omega)).trans (Below.block h i hi)⟩
theorem fA.iQ {g:Nat}{t:TypeId}{cs:Array Value}(h:fA w g t cs)(hc:jU w w' F)(hne:¬F g):fA w' g t cs:=(hc.block g h.lt hne).trans h
theorem Own.iQ {base e s:Nat}{A:Option Addr}{n c:Nat}{xs:List Value}(h:Own w base e s A n c xs)(hc:jU w w' F)(hne:∀g,rowOf A c=some g->¬F g):Own w' base e s A n c xs:=by
  refine⟨h.1,?_⟩
  rcases h.2 with b|⟨g,cur,rfl,hb,hg,hnc,hcm,hcs,htake⟩
  · exact .inl b
  · by_cases d:c=0
    · left;omega
    · refine .inr ⟨g,cur,rfl,hb,?_,hnc,hcm,hcs,htake⟩
      exact fA.iQ (w:=w) hg hc (hne g (qc g 0 c d))
theorem eU.iQ {α:Type}{base e:Nat}{f:α->List Value}{s:Nat}{A:Option Addr}{m c:Nat}{xs:List α}(h:eU w base e f s A m c xs)(hc:jU w w' F)(hne:∀g,rowOf A c=some g->¬F g):eU w' base e f s A m c xs:=⟨h.1,h.2.iQ hc hne⟩
theorem kM.iQ {κ β:Type}[DecidableEq κ]{kf:κ->Value}{vf:β->Value}{g clock:Nat}{l:List (Nat×κ×β)}(h:kM w kf vf g l clock)(hc:jU w w' F)(hne:¬F g):kM w' kf vf g l clock:=⟨(hc.block g h.lt hne).trans h.1,h.2⟩
theorem Sl.keep {s:Nat}{A:Option Addr}{n:Nat}{xs:List Value}(h:Sl w s A n xs)(hb:∀g,kT A=some g->g<w.heap.size->w'.heap[g]? =w.heap[g]?):Sl w' s A n xs:=
  ⟨h.1,fun j u hu=>by
    obtain⟨ad,rfl,hcell⟩:=h.2 j u hu
    refine⟨ad,rfl,?_⟩
    have hlt:=block_lt_of_cell hcell
    rw[add_block]at hlt
    rw[<-hcell]
    refine World.cell?_of_block ?_
    rw[add_block]
    exact hb _ rfl hlt⟩
end
section
variable {P:Program}{env:Env}{n:Nat}{d:Option Nat}{T:TypeId}{p:String}{af:Array Edge}{g:Option (Nat×Bool)}{w:World}{K:Value->World->Prop}
theorem Any.PL {t ty:TypeId}{x:Operand}{ad:Option Addr}(ht:P.underlying t=some (.pointer (P.pointee t)))(hx:ev env x=some (.pointer ad)):Any P env n ⟨d,.binOp .eql t x (.const (.pointer none)) ty,T,p,af,g⟩ (.bool ad.isNone):= .bin hx rfl (fun w=>by simp[eqGuard]) (fun w=>run_eql_pointer_nil w t ad ht)
theorem Any.Te {t ty:TypeId}{x:Operand}{ad:Option Addr}(ht:P.underlying t=some (.pointer (P.pointee t)))(hx:ev env x=some (.pointer ad)):Any P env n ⟨d,.binOp .neq t x (.const (.pointer none)) ty,T,p,af,g⟩ (.bool !ad.isNone):= .bin hx rfl (fun w=>by simp[eqGuard]) (fun w=>run_neq_pointer_nil w t ad ht)
end
end Go.Sx

namespace Go.Sx
set_option linter.unusedSectionVars false
open Go Go.RowKit
open Go.ChangeMaps (setBlock)
section
variable {κ β:Type}[DecidableEq κ]{kf:κ->Value}{vf:β->Value}
variable {P:Program}{env:Env}{n:Nat}{d:Option Nat}{T:TypeId}{p:String}{af:Array Edge}{g:Option (Nat×Bool)}{w w':World}{K:Value->World->Prop}
variable {gb clock r:Nat}{l:List (Nat×κ×β)}{seen:Array Nat}
def LW (w:World)(r gb clock:Nat)(seen:Array Nat):Prop:=w.heap[r]? =some (.mapIter (some gb) clock seen clock)
theorem LW.lt (h:LW w r gb clock seen):r<w.heap.size:=(Array.getElem?_eq_some_iff.1 h).1
theorem LW.ch {q:Option Nat}(h:LW w r gb clock seen)(hc:Ch w w' q)(hne:q≠some r):LW w' r gb clock seen:=(hc.block r h.lt (Ne.symm hne)).trans h
theorem LW.cn {q:Nat}(h:LW w r gb clock seen)(hc:Ch w w' (some q))(hne:q≠r):LW w' r gb clock seen:=h.ch hc (fun e=>hne (Option.some.inj e))
theorem LW.le (h:LW w r gb clock seen)(hl:Le w w'):LW w' r gb clock seen:=h.ch (hl.ch none) (by simp)
theorem LW.iQ {F:Nat->Prop}(h:LW w r gb clock seen)(hc:jU w w' F)(hne:¬F r):LW w' r gb clock seen:=(hc.block r h.lt hne).trans h
theorem kM.clone (h:kM w kf vf gb l clock):kM (w.alloc (.map (l.map (rC kf vf)).toArray clock)) kf vf w.heap.size l clock:=⟨heap_alloc_new w _,h.2⟩
end
end Go.Sx

namespace Go.Sx
set_option linter.unusedSectionVars false
open Go Go.RowKit
open Go.ChangeMaps (setBlock)
section
variable {P:Program}{env:Env}{n:Nat}{d:Option Nat}{T:TypeId}{p:String}{af:Array Edge}{g:Option (Nat×Bool)}{w w':World}{K:Value->World->Prop}
theorem Vec.iQ {α:Type}{f:α->List Value}{s:Nat}{A:Option Addr}{m:Nat}{xs:List α}{F:Nat->Prop}(h:Vec w f s A m xs)(hc:jU w w' F)(hne:∀g,kT A=some g->0<m->g<w.heap.size->¬F g):Vec w' f s A m xs:=by
  by_cases b:0<m
  · exact⟨h.1,h.2.keep (fun g hg hlt=>hc.block g hlt (hne g hg b hlt))⟩
  · have hm:m=0:=by omega
    subst hm
    have hx:xs=[]:=List.eq_nil_of_length_eq_zero h.1
    subst hx
    exact⟨rfl,Sl.nil _ _ _⟩
theorem Vec.jc {α:Type}{f:α->List Value}{s:Nat}{A:Option Addr}{m q:Nat}{xs:List α}(h:Vec w f s A m xs)(hf:lg f s)(hm:0<m)(hg:kT A=some q):q<w.heap.size:=by
  have hp:0<(xs.map f).flatten.length:=by rw[h.2.1];exact Nat.mul_pos hm hf.pos
  obtain⟨ad,hA,hc⟩:=h.2.2 0 _ (List.getElem?_eq_getElem hp)
  subst hA
  have e:q=ad.block:=by simpa[kT]using hg.symm
  subst e
  exact block_lt_of_cell hc
theorem optG {α:Type}(o:Option α):o=none\/∃v,o=some v:=by cases o<;>simp
end
section
variable {κ β:Type}[DecidableEq κ]{kf:κ->Value}{vf:β->Value}
variable {P:Program}{env:Env}{n:Nat}{d:Option Nat}{T:TypeId}{p:String}{af:Array Edge}{g:Option (Nat×Bool)}{w w':World}{K:Value->World->Prop}
variable {gb clock:Nat}{l:List (Nat×κ×β)}
end
section
variable {κ β:Type}[DecidableEq κ]{kf:κ->Value}{vf:β->Value}
variable {P:Program}{env:Env}{n:Nat}{d:Option Nat}{T:TypeId}{p:String}{af:Array Edge}{g:Option (Nat×Bool)}{w w':World}{K:Value->World->Prop}
variable {gb clock:Nat}{l:List (Nat×κ×β)}
theorem Any.XT {t:TypeId}{dd:TypeDesc}{x:Operand}{v:Value}(ht:P.underlying t=some dd)(hd:(match dd with | .interface _=>false|_=>true)=true)(hx:ev env x=some v):Any P env n ⟨d,.makeInterface t x,T,p,af,g⟩ (.iface t v):=fun a ha w=>by
  cases dd<;>simp_all [execOp,ha.eval hx,Instr.makeInterface,run_underlying ht]
theorem Rd.Tf {t s kt et:TypeId}{x:Operand}{v:Value}(ht:P.underlying t=some (.map kt et))(hx:ev env x=some (.iface t v)):Rd P w env n ⟨d,.typeAssert x s t false,T,p,af,g⟩ v:=fun a ha w' _=>by
  simp[execOp,ha.eval hx,Instr.typeAssert,run_underlying ht]
theorem Any.Wo {t ty kt et:TypeId}{x:Operand}{r:Option Nat}(ht:P.underlying t=some (.map kt et))(hx:ev env x=some (.map r)):Any P env n ⟨d,.binOp .eql t x (.const (.map none)) ty,T,p,af,g⟩ (.bool r.isNone):= .bin hx rfl (fun w=>by simp[eqGuard]) (fun w=>run_eql_map_nil w t kt et r ht)
theorem Ef.Wp {f:FuncId}{fn:Func}{t:TypeId}{x:Operand}{ats:Array TypeId}(hf:P.funcs[f]? =some fn)(hname:(fn.name== "runtime.NumGoroutine")=false)(hb:fn.body.isNone=true)(hn:Extern.findNext fn=none)(he:Extern.find fn=some Extern.MapsClone.clone)
    (hx:ev env x=some (.iface t (.map (some gb))))(hM:kM w kf vf gb l clock)(h:∀g' w',w.heap.size<=g'->kM w' kf vf g' l clock->Le w w'->K (.iface t (.map (some g'))) w'):Ef P env n ⟨d,.call ⟨.value (.func f),#[x],ats⟩,T,p,af,g⟩ w K:=by
  refine .of_run (v:= .iface t (.map (some w.heap.size))) (w':=w.alloc (.map (l.map (rC kf vf)).toArray clock)) (fun a ha=>?_) (h _ _ (Nat.le_refl _) hM.clone (Le.alloc w _))
  have hfo:=ha.eval (show ev env (.func f)=some (.func (.func f) #[] #[])from rfl)
  have hr:=run_callFunc_extern hf hname hb hn he (args:=#[.iface t (.map (some gb))]) (w:=w)
  have hcr:(Extern.MapsClone.clone #[.iface t (.map (some gb))]).run P w= .ok (.iface t (.map (some w.heap.size))) (w.alloc (.map (l.map (rC kf vf)).toArray clock)):=by
    show(((getObj gb)>>=fun o=>(match o with | .map entries clock=>(do pure (Value.iface t (.map (some (<-newObj (.map entries clock))))))|_=>stuck "maps.clone: a map expected")):Sem Value).run P w=_
    simp[getObj,Sem.run,hM.1,Result.andThen,newObj]
  rw[hcr]at hr
  simp[execOp,resolve,Deferred.ofValue,invoke,ha.eval hx,hfo,hr]
end
end Go.Sx

