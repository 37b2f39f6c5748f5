/- LedgerSides: for every input the law answers true and leaves its arguments as they were. -/
import Derived.Test.YtkpmaajniagncaaGreatDoorLedgerSidesH
import Derived.Maps.RangeRun
set_option linter.unusedVariables false
set_option linter.unusedSimpArgs false
namespace Go.Sx
set_option linter.unusedSectionVars false
open Go Go.RowKit
open Go.ChangeMaps (setBlock)
section
variable {κ β:Type}[DecidableEq κ]{kf:κ->Value}{vf:β->Value}
def lv (kf:κ->Value)(vf:β->Value)(x:Nat×κ×β):MapEntry:={key:=kf x.2.1,val:=vf x.2.2,born:=x.1}
structure Vp (l:List (Nat×κ×β))(clock:Nat):Prop where
 keys:(l.map fun x=>x.2.1).Nodup
 Hg:(l.map fun x=>x.1).Nodup
 old:∀x∈l,x.1<clock
def jk (w:World)(kf:κ->Value)(vf:β->Value)(g:Nat)(l:List (Nat×κ×β))(clock:Nat):Prop:=w.heap[g]? =some (.map (l.map (lv kf vf)).toArray clock)/\Vp l clock
def nz (key:κ):List (Nat×κ×β)->Nat->Option (Nat×β)
 |[],_=>none
 |x::l,i=>if key=x.2.1 then some (i,x.2.2)else nz key l (i+1)
def iO (key:κ)(l:List (Nat×κ×β)):Option β:=(nz key l 0).map (·.2)
theorem sP (key:κ):∀(l:List (Nat×κ×β)) (i:Nat),nz key l i=none↔∀x∈l,x.2.1≠key
 |[],_=>by simp[nz]
 |x::l,i=>by
  simp only[nz,List.mem_cons,forall_eq_or_imp]
  split
  ·rename_i h;simp[h]
  ·rename_i h;rw[sP key l (i+1)];exact⟨fun hh=>⟨fun he=>h he.symm,hh⟩,fun hh=>hh.2⟩
theorem uT (key:κ):∀(l:List (Nat×κ×β)) (i j:Nat) (u:β),nz key l i=some (j,u)->∃x,i<=j/\l[j-i]? =some x/\x.2.1=key/\x.2.2=u
 |[],_,_,_,h=>by simp[nz]at h
 |x::l,i,j,u,h=>by
  simp only[nz]at h
  split at h
  ·rename_i hk
   injection h with h
   injection h with h1 h2
   subst h1 h2
   exact⟨x,Nat.le_refl _,by simp,hk.symm,rfl⟩
  ·obtain⟨y,h1,h2,h3,h4⟩:=uT key l (i+1) j u h
   exact⟨y,by omega,by rw[show j-i=(j-(i+1))+1 by omega];simpa using h2,h3,h4⟩
variable {key:κ}{l:List (Nat×κ×β)}
theorem oU:iO key l=none↔∀x∈l,x.2.1≠key:=by
 unfold iO
 rw[Option.map_eq_none_iff]
 exact sP key l 0
variable {u:β}
theorem Hl (h:iO key l=some u):∃j,nz key l 0=some (j,u):=by
 unfold iO at h
 cases hf:nz key l 0 with
 |none=>rw[hf]at h;cases h
 |some p=>rw[hf]at h;injection h with h;exact⟨p.1,by rw[<-h]⟩
theorem pU (h:iO key l=some u):∃b,(b,key,u)∈l:=by
 obtain⟨j,hj⟩:=Hl h
 obtain⟨x,_,c,d,e⟩:=uT key l 0 j u hj
 exact⟨x.1,by rw[<-d,<-e];exact List.mem_of_getElem? c⟩
theorem uB (key:κ):∀(l:List (Nat×κ×β)),iO key l=(l.find? (fun x=>decide (x.2.1=key))).map (fun x=>x.2.2):=by
 have:∀(l:List (Nat×κ×β)) i,(nz key l i).map (·.2)=(l.find? (fun x=>decide (x.2.1=key))).map (fun x=>x.2.2):=by
  intro l
  induction l with
  |nil=>intro i;rfl
  |cons x l ih=>
   intro i
   simp only[nz,List.find?_cons]
   by_cases h:key=x.2.1
   ·simp[h]
   ·rw[if_neg h,ih];simp[show¬x.2.1=key from fun e=>h e.symm]
 exact fun l=>this l 0
theorem yZ (key:κ):iO key ([]:List (Nat×κ×β))=none:=Z
variable {k:κ}
theorem zP {b:Nat}(hn:iO k l=none):iO key (l++[(b,k,u)])=if key=k then some u else iO key l:=by
 rw[uB,uB,List.find?_append]
 by_cases h:key=k
 ·subst h
  rw[if_pos Z]
  have:l.find? (fun x=>decide (x.2.1=key))=none:=by
   rw[List.find?_eq_none];intro x hx;simpa using(oU.1 hn) x hx
  simp[this]
 ·rw[if_neg h]
  simp[show¬k=key from fun e=>h e.symm]
theorem Wi:iO key (l.filter fun y=>decide (y.2.1≠k))=if key=k then none else iO key l:=by
 by_cases h:key=k
 ·subst h
  rw[if_pos Z,oU]
  intro x hx
  simpa using(List.mem_filter.1 hx).2
 ·rw[if_neg h,uB,uB]
  congr 1
  induction l with
  |nil=>rfl
  |cons x l ih=>
   by_cases hx:x.2.1=k
   ·rw[List.filter_cons,if_neg (by simpa using hx),ih,List.find?_cons]
    simp[show¬x.2.1=key from fun e=>h (e.symm.trans hx)]
   ·rw[List.filter_cons,if_pos (by simpa using hx),List.find?_cons,List.find?_cons,ih]
theorem M7:∀{l:List (Nat×κ×β)},(∃v,iO k l=some v)->iO key (l.map fun y=>if y.2.1=k then(y.1,k,u)else y)=if key=k then some u else iO key l:=by
 intro l hv
 rw[uB,uB,List.find?_map]
 have e:((fun x:Nat×κ×β=>decide (x.2.1=key))∘fun y:Nat×κ×β=>if y.2.1=k then(y.1,k,u)else y)=fun x=>decide (x.2.1=key):=by
  funext y
  simp only[Function.comp]
  split
  ·rename_i h;simp[h]
  ·rfl
 rw[e]
 by_cases h:key=k
 ·subst h
  rw[if_pos Z]
  obtain⟨v,hv⟩:=hv
  rw[uB]at hv
  cases hf:l.find? (fun x=>decide (x.2.1=key))with
  |none=>rw[hf]at hv;cases hv
  |some p=>
   have:=List.find?_some hf
   simp only[decide_eq_true_eq]at this
   simp[this]
 ·rw[if_neg h]
  cases hf:l.find? (fun x=>decide (x.2.1=key))with
  |none=>rfl
  |some p=>
   have:=List.find?_some hf
   simp only[decide_eq_true_eq]at this
   simp[show¬p.2.1=k from fun e=>h (this.symm.trans e)]
variable {α γ:Type}
theorem wS [DecidableEq γ](f:α->γ):∀(l:List α) (i:Nat) (x:α),(l.map f).Nodup->l[i]? =some x->l.eraseIdx i=l.filter fun y=>decide (f y≠f x)
 |[],_,_,_,h=>by simp at h
 |a::l,0,x,hn,h=>by
  simp at h
  subst h
  simp only[List.map_cons,List.nodup_cons]at hn
  simp only[List.eraseIdx_cons_zero,ne_eq,List.filter_cons,not_true_eq_false,decide_false,Bool.false_eq_true,if_false]
  rw[eq_comm,List.filter_eq_self]
  intro y hy
  simp
  intro he
  exact hn.1 (by rw[<-he];exact List.mem_map_of_mem hy)
 |a::l,i+1,x,hn,h=>by
  simp only[List.map_cons,List.nodup_cons]at hn
  have h':l[i]? =some x:=by simpa using h
  have ih:=wS f l i x hn.2 h'
  have hne:f a≠f x:=fun he=>hn.1 (by rw[he];exact List.mem_map_of_mem (List.mem_of_getElem? h'))
  rw[List.eraseIdx_cons_succ,ih,List.filter_cons,if_pos (by simpa using hne)]
theorem DD (f:α->γ):∀(l:List α),(l.map f).Nodup->∀{a b:α},a∈l->b∈l->f a=f b->a=b
 |[],_,a,b,h,_,_=>by cases h
 |x::l,hn,a,b,ha,hb,he=>by
  simp only[List.map_cons,List.nodup_cons]at hn
  rcases List.mem_cons.1 ha with rfl|ha2<;>rcases List.mem_cons.1 hb with rfl|hb2
  ·rfl
  ·exact absurd (he▸List.mem_map_of_mem hb2) hn.1
  ·exact absurd (he▸List.mem_map_of_mem ha2) hn.1
  ·exact DD f l hn.2 ha2 hb2 he
theorem Hm [DecidableEq γ](f:α->γ)(y:α):∀(l:List α) (i:Nat) (x:α),(l.map f).Nodup->l[i]? =some x->l.set i y=l.map fun z=>if f z=f x then y else z
 |[],_,_,_,h=>by simp at h
 |a::l,0,x,hn,h=>by
  simp at h
  subst h
  simp only[List.map_cons,List.nodup_cons]at hn
  simp only[List.set_cons_zero,List.map_cons,if_true]
  congr 1
  rw[eq_comm]
  have:l.map (fun z=>if f z=f a then y else z)=l.map id:=List.map_congr_left fun z hz=>by
   rw[if_neg (fun he=>hn.1 (by rw[<-he];exact List.mem_map_of_mem hz))];rfl
  rw[this,List.map_id]
 |a::l,i+1,x,hn,h=>by
  simp only[List.map_cons,List.nodup_cons]at hn
  have h':l[i]? =some x:=by simpa using h
  have hne:f a≠f x:=fun he=>hn.1 (by rw[he];exact List.mem_map_of_mem (List.mem_of_getElem? h'))
  rw[List.set_cons_succ,Hm f y l i x hn.2 h',List.map_cons,if_neg hne]
variable {clock:Nat}
theorem Vp.filter (h:Vp l clock)(p:Nat×κ×β->Bool):Vp (l.filter p) clock:=
 ⟨h.keys.sublist (List.Sublist.map _ List.filter_sublist),h.Hg.sublist (List.Sublist.map _ List.filter_sublist),fun x hx=>h.old x (List.mem_filter.1 hx).1⟩
theorem Vp.push (h:Vp l clock)(key:κ)(u:β)(hn:∀x∈l,x.2.1≠key):Vp (l++[(clock,key,u)]) (clock+1):=by
 refine⟨?_,?_,?_⟩
 ·rw[List.map_append,List.nodup_append]
  refine⟨h.keys,by simp,?_⟩
  intro a ha b hb
  obtain⟨x,hx,rfl⟩:=List.mem_map.1 ha
  simp at hb
  subst hb
  exact hn x hx
 ·rw[List.map_append,List.nodup_append]
  refine⟨h.Hg,by simp,?_⟩
  intro a ha b hb
  obtain⟨x,hx,rfl⟩:=List.mem_map.1 ha
  simp at hb
  subst hb
  have:=h.old x hx
  omega
 ·intro x hx
  rcases List.mem_append.1 hx with hx|hx
  ·have:=h.old x hx;omega
  ·simp at hx;subst hx;simp
theorem Vp.set (h:Vp l clock)(k:κ)(u:β):Vp (l.map fun y=>if y.2.1=k then(y.1,k,u)else y) clock:=by
 have e1:(l.map fun y=>if y.2.1=k then(y.1,k,u)else y).map (fun x=>x.2.1)=l.map fun x=>x.2.1:=by
  rw[List.map_map];apply List.map_congr_left;intro y _;simp only[Function.comp];split
  ·rename_i he;exact he.symm
  ·rfl
 have e2:(l.map fun y=>if y.2.1=k then(y.1,k,u)else y).map (fun x=>x.1)=l.map fun x=>x.1:=by
  rw[List.map_map];apply List.map_congr_left;intro y _;simp only[Function.comp];split<;>rfl
 refine⟨by rw[e1];exact h.keys,by rw[e2];exact h.Hg,fun x hx=>?_⟩
 obtain⟨y,hy,rfl⟩:=List.mem_map.1 hx
 have:=h.old y hy
 split<;>exact this
variable {P:Program}{env:Env}{n:Nat}{d:Option Nat}{T:TypeId}{p:String}{af:Array Edge}{g:Option (Nat×Bool)}{w w':World}{K:Value->World->Prop}
structure wT (P:Program)(kt:Nat)(kf:κ->Value):Prop where
 check:∀(b:Bool) (key:κ) (w:World),(Instr.checkKey b 10000 kt (kf key)).run P w= .ok () w
 find:∀(key:κ) (l:List (Nat×κ×Value)) (w:World),(Instr.findKey kt (kf key) (l.map (lv kf id))).run P w= .ok (nz key l 0) w
theorem JK (key:κ)(f:β->Value):∀(l:List (Nat×κ×β)) (i:Nat),nz key (l.map fun x=>(x.1,x.2.1,f x.2.2)) i=(nz key l i).map fun x=>(x.1,f x.2)
 |[],_=>rfl
 |x::l,i=>by
  simp only[List.map_cons,nz]
  split
  ·rfl
  ·exact JK key f l (i+1)
variable {kt:Nat}
theorem wT.get (h:wT P kt kf)(key:κ)(l:List (Nat×κ×β))(w:World):(Instr.findKey kt (kf key) (l.map (lv kf vf))).run P w= .ok ((nz key l 0).map fun x=>(x.1,vf x.2)) w:=by
 have:=h.find key (l.map fun x=>(x.1,x.2.1,vf x.2.2)) w
 rw[JK,List.map_map]at this
 exact this
theorem wT.int (hu:P.underlying kt=some (.int .i64)):wT P kt (fun x:Int=>Value.int .i64 x):=by
 have hc:∀(b:Bool) (key:Int) (w:World) (m:Nat),(Instr.checkKey b (m+1) kt (J key)).run P w= .ok () w:=fun b key w m=>by unfold Instr.checkKey;simp[run_underlying hu]
 refine⟨fun b key w=>hc b key w 9999,fun key l w=>?_⟩
 have hf:∀(l:List (Nat×Int×Value)) (i:Nat),Instr.findNow (.int .i64) (J key) (l.map (lv (fun x:Int=>Value.int .i64 x) id)) i=some (nz key l i):=by
  intro l
  induction l with
  |nil=>intro i;rfl
  |cons x l ih=>
   intro i
   simp only[List.map_cons,Instr.findNow,lv,Instr.sameNow,if_true,nz]
   by_cases hk:key=x.2.1
   ·simp[hk]
   ·have:(key==x.2.1)=false:=by simpa using hk
    rw[this,if_neg hk]
    exact ih (i+1)
 simp only[Instr.findKey,Sem.run_bind,run_underlying hu,Result.andThen_ok,hf]
 rfl
theorem wT.struct {fs:Array Field}(hu:P.underlying kt=some (.struct fs))(hc:∀(b:Bool) (key:κ) (w:World),(Instr.checkKey b 10000 kt (kf key)).run P w= .ok () w)(ha:∀k,∃cs,kf k= .agg cs)(he:∀a b,yU P 10000 kt (kf a) (kf b) (decide (a=b))):wT P kt kf:=by
 refine⟨hc,fun key l w=>?_⟩
 have hs:∀(l:List (Nat×κ×Value)) (i:Nat) (w:World),(Instr.findAsking kt (kf key) (l.map (lv kf id)) i).run P w= .ok (nz key l i) w:=by
  intro l
  induction l with
  |nil=>intro i w;simp[Instr.findAsking,nz]
  |cons x l ih=>
   intro i w
   simp only[List.map_cons,Instr.findAsking,Sem.run_bind,Op.equal,Op.maxDepth,lv,he key x.2.1 w,Result.andThen_ok,nz]
   by_cases hk:key=x.2.1
   ·simp[hk]
   ·simp only[hk,decide_false,Bool.false_eq_true,if_false]
    exact ih (i+1) w
 cases l with
 |nil=>simp[Instr.findKey,run_underlying hu,Instr.findNow,nz]
 |cons x l=>
  have:=hs (x::l) 0 w
  obtain⟨cs,hk⟩:=ha key
  simp only[Instr.findKey,Sem.run_bind,run_underlying hu,Result.andThen_ok,List.map_cons,Instr.findNow,lv,Instr.sameNow]
  exact this
theorem Ch.uC (w:World)(g:Nat)(o:Obj):Ch w (setBlock w g o) (some g):=⟨rfl,rfl,rfl,by simp[setBlock],fun k _ hk=>by
 simp only[setBlock]
 rw[Array.getElem?_setIfInBounds_ne (fun he=>hk (by rw[he]))]⟩
theorem nA {g:Nat}{o o':Obj}(h:w.heap[g]? =some o):(setBlock w g o').heap[g]? =some o':=by
 have:=(Array.getElem?_eq_some_iff.1 h).1
 simp[setBlock,this]
variable {gb clock:Nat}{l:List (Nat×κ×β)}
theorem jk.ch {r:Option Nat}(h:jk w kf vf gb l clock)(hc:Ch w w' r)(hne:r≠some gb):jk w' kf vf gb l clock:=⟨(hc.block gb (Array.getElem?_eq_some_iff.1 h.1).1 (Ne.symm hne)).trans h.1,h.2⟩
theorem jk.cn {r:Nat}(h:jk w kf vf gb l clock)(hc:Ch w w' (some r))(hne:r≠gb):jk w' kf vf gb l clock:=h.ch hc (fun e=>hne (Option.some.inj e))
theorem jk.le (h:jk w kf vf gb l clock)(hl:Le w w'):jk w' kf vf gb l clock:=h.ch (hl.ch none) (by simp)
theorem jk.lt (h:jk w kf vf gb l clock):gb<w.heap.size:=(Array.getElem?_eq_some_iff.1 h.1).1
theorem Ef.wU {t:TypeId}(kf:κ->Value)(vf:β->Value)(h:∀gb w',w.heap.size<=gb->jk w' kf vf gb [] 0->Le w w'->K (.map (some gb)) w'):Ef P env n ⟨d,.makeMap t none,T,p,af,g⟩ w K:=
 .of_run (v:= .map (some w.heap.size)) (w':=w.alloc (.map #[] 0)) (fun a ha=>by simp[execOp,Instr.makeMap,newObj,Sem.run]) (h _ _ (Nat.le_refl _) ⟨heap_alloc_new w _,⟨by simp,by simp,by simp⟩⟩ (Le.alloc w _))
variable {t et:Nat}{x y:Operand}
theorem Rd.mV {z:Value}(ht:P.underlying t=some (.map kt et))(hk:wT P kt kf)(he:Zr P et z)(hx:ev env x=some (.map (some gb)))(hy:ev env y=some (kf key))(hM:jk w kf vf gb l clock):
  Rd P w env n ⟨d,.lookup t x y true,T,p,af,g⟩ (.tuple #[((iO key l).map vf).getD z,.bool (iO key l).isSome]):=fun a ha w' hle=>by
 have hM':=(hM.le hle).1
 have hf:=hk.get (vf:=vf) key l w'
 have hc:=hk.check (l.map (lv kf vf)).toArray.isEmpty key w'
 simp only[execOp,ha.eval hx,ha.eval hy,Instr.lookup,Sem.run_bind,run_underlying ht,getObj,Sem.run,hM',Result.andThen,Sem.run_pure]
 rw[hc]
 simp only[]
 rw[hf]
 unfold iO
 cases hfi:nz key l 0 with
 |none=>simp[he.run]
 |some q=>simp
theorem Rd.vK {z:Value}(ht:P.underlying t=some (.map kt et))(hk:wT P kt kf)(he:Zr P et z)(hx:ev env x=some (.map (some gb)))(hy:ev env y=some (kf key))(hM:jk w kf vf gb l clock):
  Rd P w env n ⟨d,.lookup t x y false,T,p,af,g⟩ (((iO key l).map vf).getD z):=fun a ha w' hle=>by
 have hM':=(hM.le hle).1
 have hf:=hk.get (vf:=vf) key l w'
 have hc:=hk.check (l.map (lv kf vf)).toArray.isEmpty key w'
 simp only[execOp,ha.eval hx,ha.eval hy,Instr.lookup,Sem.run_bind,run_underlying ht,getObj,Sem.run,hM',Result.andThen,Sem.run_pure]
 rw[hc]
 simp only[]
 rw[hf]
 unfold iO
 cases hfi:nz key l 0 with
 |none=>simp[he.run]
 |some q=>simp
theorem Rd.adk (ht:P.underlying t=some (.map kt et))(hx:ev env x=some (.map (some gb)))(hM:jk w kf vf gb l clock):Rd P w env n ⟨d,.call ⟨.builtin .len,#[x],#[t]⟩,T,p,af,g⟩ (J l.length):=fun a ha w' hle=>by
 have hM':=(hM.le hle).1
 simp[execOp,resolve,invoke,builtin,Builtin.len_,ha.eval hx,run_underlying ht,getObj,Sem.run,hM',Result.andThen,goInt]
theorem xN {es:Array MapEntry}{ck:Nat}(h:w.heap[gb]? =some (.map es ck))(o:Obj):(setObj gb o).run P w= .ok () (setBlock w gb o):=by
 simp[setObj,Sem.run,h,setBlock]
theorem Ef.Cb {z:Operand}(ht:P.underlying t=some (.map kt et))(hk:wT P kt kf)(hx:ev env x=some (.map (some gb)))(hy:ev env y=some (kf key))(hz:ev env z=some (vf u))(hM:jk w kf vf gb l clock)
  (hn:iO key l=none)(h:∀w',jk w' kf vf gb (l++[(clock,key,u)]) (clock+1)->Ch w w' (some gb)->K undef w'):Ef P env n ⟨d,.mapUpdate t x y z,T,p,af,g⟩ w K:=by
 have hf:=hk.get (vf:=vf) key l w
 have hc:=hk.check false key w
 have hn':nz key l 0=none:=by rw[sP];exact oU.1 hn
 rw[hn']at hf
 refine .rR (w':=setBlock w gb (.map ((l++[(clock,key,u)]).map (lv kf vf)).toArray (clock+1))) (fun a ha=>?_) (h _ ⟨nA hM.1,hM.2.push key u (oU.1 hn)⟩ (Ch.uC _ _ _))
 have hset:=fun o=>xN (P:=P) hM.1 o
 simp only[execOp,ha.eval hx,ha.eval hy,ha.eval hz,Instr.mapUpdate,Sem.run_bind,run_underlying ht,getObj,Sem.run,hM.1,Result.andThen,Sem.run_pure]
 rw[hc]
 simp only[]
 rw[hf]
 simp[hset,lv]
theorem Ef.F9 {z:Operand}{v:β}(ht:P.underlying t=some (.map kt et))(hk:wT P kt kf)(hx:ev env x=some (.map (some gb)))(hy:ev env y=some (kf key))(hz:ev env z=some (vf u))(hM:jk w kf vf gb l clock)(hst:∀w:World,(Instr.keyThatStays (kf key) (kf key)).run P w= .ok (kf key) w)
  (hn:iO key l=some v)(h:∀w',jk w' kf vf gb (l.map fun y=>if y.2.1=key then(y.1,key,u)else y) clock->Ch w w' (some gb)->K undef w'):Ef P env n ⟨d,.mapUpdate t x y z,T,p,af,g⟩ w K:=by
 have hf:=hk.get (vf:=vf) key l w
 have hc:=hk.check false key w
 obtain⟨j,hj⟩:=Hl hn
 obtain⟨e,_,c,f,m⟩:=uT key l 0 j v hj
 rw[Nat.sub_zero]at c
 rw[hj]at hf
 have hset:=fun o=>xN (P:=P) hM.1 o
 have hm:=Hm (fun x:Nat×κ×β=>x.2.1) (e.1,key,u) l j e hM.2.keys c
 have hjl:j<l.length:=(List.getElem?_eq_some_iff.1 c).1
 have k:(l.map fun y=>if y.2.1=key then(y.1,key,u)else y)=l.set j (e.1,key,u):=by
  rw[hm,f]
  apply List.map_congr_left
  intro y hy
  by_cases hyk:y.2.1=key
  ·rw[if_pos hyk,if_pos hyk]
   rw[DD (fun x:Nat×κ×β=>x.2.1) l hM.2.keys hy (List.mem_of_getElem? c) (hyk.trans f.symm)]
  ·rw[if_neg hyk,if_neg hyk]
 have hmod:(l.map (lv kf vf)).toArray.modify j (fun e=>{e with key:=kf key,val:=vf u})=((l.map fun y=>if y.2.1=key then(y.1,key,u)else y).map (lv kf vf)).toArray:=by
  rw[k]
  apply Array.ext'
  rw[Array.toList_modify,List.map_set]
  simp only
  apply List.ext_getElem?
  intro i
  rw[List.getElem?_modify,List.getElem?_set,List.getElem?_map]
  by_cases hij:j=i
  ·subst hij
   have hje:l[j]=e:=(List.getElem?_eq_some_iff.1 c).2
   simp[c,hjl,lv,hje]
  ·simp[hij]
 refine .rR (w':=setBlock w gb (.map ((l.map fun y=>if y.2.1=key then(y.1,key,u)else y).map (lv kf vf)).toArray clock)) (fun a ha=>?_) (h _ ⟨nA hM.1,hM.2.set key u⟩ (Ch.uC _ _ _))
 have hkey:(((l.map (lv kf vf)).toArray[j]?).map (·.key)).getD (kf key)=kf key:=by simp[c,lv,f]
 simp only[execOp,ha.eval hx,ha.eval hy,ha.eval hz,Instr.mapUpdate,Sem.run_bind,run_underlying ht,getObj,Sem.run,hM.1,Result.andThen,Sem.run_pure]
 rw[hc]
 simp only[]
 rw[hf]
 simp only[Option.map_some]
 rw[hkey]
 have hst':=hst w
 simp only[Sem.run_bind,hst',Result.andThen_ok,hmod,hset]
theorem Ef.Rf (ht:P.underlying t=some (.map kt et))(hk:wT P kt kf)(hx:ev env x=some (.map (some gb)))(hy:ev env y=some (kf key))(hM:jk w kf vf gb l clock)
  (h:∀w',jk w' kf vf gb (l.filter fun y=>decide (y.2.1≠key)) clock->Ch w w' (some gb)->K (.tuple #[]) w'):Ef P env n ⟨d,.call ⟨.builtin .delete,#[x,y],#[t,kt]⟩,T,p,af,g⟩ w K:=by
 have hfd:=hk.get (vf:=vf) key l w
 have hset:=fun o=>xN (P:=P) hM.1 o
 have hc':(Instr.checkKey l.isEmpty 10000 kt (kf key)).run P w= .ok () w:=hk.check l.isEmpty key w
 refine .of_run (w':=setBlock w gb (.map ((l.filter fun y=>decide (y.2.1≠key)).map (lv kf vf)).toArray clock)) (fun a ha=>?_) (h _ ⟨nA hM.1,hM.2.filter _⟩ (Ch.uC _ _ _))
 simp only[execOp,resolve,invoke,builtin,Builtin.delete_]
 simp only[ha.eval hx,ha.eval hy,List.map_toArray,List.map_cons,List.map_nil,Sem.run_bind,Sem.run_pure,Result.andThen_ok]
 simp[run_underlying ht,getObj,Sem.run,hM.1,Result.andThen]
 rw[hc']
 simp only[]
 rw[hfd]
 cases hf:nz key l 0 with
 |none=>
  have hn:=(sP key l 0).1 hf
  have he:(l.filter fun y=> !decide (y.2.1=key))=l:=List.filter_eq_self.2 fun x hx=>by simpa using hn x hx
  simp[hset,he]
 |some q=>
  obtain⟨j,u⟩:=q
  obtain⟨z,_,c,e,f⟩:=uT key l 0 j u hf
  rw[Nat.sub_zero]at c
  have her:=wS (fun x:Nat×κ×β=>x.2.1) l j z hM.2.keys c
  rw[e]at her
  have hes':(l.map (lv kf vf)).eraseIdx j=(l.filter fun y=> !decide (y.2.1=key)).map (lv kf vf):=by
   rw[<-Go.ChangeMaps.map_eraseIdx,her]
   congr 1
   apply List.filter_congr
   intro x _
   simp
  simp[hset,hes']
end
end Go.Sx
namespace Go.Lsp
set_option linter.unusedSectionVars false
open Go.Gz Go.Num Go.Sx
theorem Rh:∀(l:List Int) (i:Nat) (v:Int),i<l.length->(l.set i v).sum=l.sum-l.getD i 0+v
 |[],i,v,h=>by simp at h
 |x::l,0,v,h=>by simp;omega
 |x::l,i+1,v,h=>by
  have:=Rh l i v (by simpa using h)
  simp only[List.set_cons_succ,List.sum_cons,List.getD_cons_succ,this]
  omega
section
variable {κ β:Type}[DecidableEq κ]
theorem Ho (f:κ->β->Int)(a b:List (Nat×κ×β)):j6 f (a++b)=j6 f a+j6 f b:=by simp[j6]
theorem y5 (f:κ->β->Int)(b:Nat)(k:κ)(v:β):j6 f [(b,k,v)]=f k v:=by simp[j6]
variable {key k:κ}{l:List (Nat×κ×β)}
theorem DF {b:Nat}{v:β}:iO key ((b,k,v)::l)=if k=key then some v else iO key l:=by
 rw[uB,uB]
 by_cases h:k=key
 ·simp[h]
 ·simp[h]
variable {u:β}
theorem Wj (h:∀x∈l,x.2.1≠key):oJ key u l=l:=by
 unfold oJ
 have:(l.map fun y=>if y.2.1=key then(y.1,key,u)else y)=l.map id:=List.map_congr_left fun y hy=>by rw[if_neg (h y hy)];rfl
 rw[this,List.map_id]
theorem Wl (h:∀x∈l,x.2.1≠key):tJ key l=l:=by
 unfold tJ
 rw[List.filter_eq_self]
 intro x hx
 exact decide_eq_true (h x hx)
def nK (l:List (Nat×κ×β)):List κ:=l.map (·.2.1)
theorem Wm (key:κ)(u:β)(l:List (Nat×κ×β)):nK (oJ key u l)=nK l:=by
 unfold nK oJ
 rw[List.map_map]
 apply List.map_congr_left
 intro x hx
 by_cases h:x.2.1=key
 ·simp[h]
 ·simp[h]
variable {x:Nat×κ×β}
theorem Cc (h:(nK (x::l)).Nodup):(∀y∈l,y.2.1≠x.2.1)/\(nK l).Nodup:=by
 unfold nK at*
 rw[List.map_cons,List.nodup_cons]at h
 exact⟨fun y hy e=>h.1 (by rw[<-e];exact List.mem_map_of_mem hy),h.2⟩
theorem M8 {f:κ->β->Int}{key:κ}{t u:β}:∀{l:List (Nat×κ×β)},(nK l).Nodup->iO key l=some t->j6 f (oJ key u l)=j6 f l-f key t+f key u
 |[],_,h=>by simp[yZ]at h
 |(b,k,v)::l,hn,h=>by
  have hn2:=Cc hn
  rw[DF]at h
  by_cases e:k=key
  ·subst e
   rw[if_pos Z]at h
   injection h with h
   subst h
   have c:oJ k u ((b,k,v)::l)=(b,k,u)::l:=by
    have:=Wj (u:=u) hn2.1
    unfold oJ at this ⊢
    rw[List.map_cons,if_pos Z]
    simp only at this
    rw[this]
   rw[c,jb,jb]
   simp only
   omega
  ·rw[if_neg e]at h
   have ih:=M8 (f:=f) (u:=u) hn2.2 h
   have c:oJ key u ((b,k,v)::l)=(b,k,v)::oJ key u l:=by unfold oJ;rw[List.map_cons,if_neg (by simpa using e)]
   rw[c,jb,jb,ih]
   omega
theorem wV {f:κ->β->Int}{key:κ}{t:β}:∀{l:List (Nat×κ×β)},(nK l).Nodup->iO key l=some t->j6 f (tJ key l)=j6 f l-f key t
 |[],_,h=>by simp[yZ]at h
 |(b,k,v)::l,hn,h=>by
  have hn2:=Cc hn
  rw[DF]at h
  by_cases e:k=key
  ·subst e
   rw[if_pos Z]at h
   injection h with h
   subst h
   have c:tJ k ((b,k,v)::l)=l:=by
    have:=Wl hn2.1
    unfold tJ at this ⊢
    rw[List.filter_cons_of_neg (by simp)]
    exact this
   rw[c,jb]
   simp only
   omega
  ·rw[if_neg e]at h
   have ih:=wV (f:=f) hn2.2 h
   have c:tJ key ((b,k,v)::l)=(b,k,v)::tJ key l:=by unfold tJ;rw[List.filter_cons_of_pos (by simpa using e)]
   rw[c,jb,jb,ih]
   omega
theorem aah (h:∃v,iO k l=some v):iO key (oJ k u l)=if key=k then some u else iO key l:=M7 h
theorem aai:iO key (tJ k l)=if key=k then none else iO key l:=Wi
theorem aaj (h:x∈oJ key u l):(x.2.1=key/\x.2.2=u)\/(x∈l/\x.2.1≠key):=by
 unfold oJ at h
 obtain⟨y,hy,rfl⟩:=List.mem_map.1 h
 by_cases e:y.2.1=key
 ·rw[if_pos e];exact .inl ⟨rfl,rfl⟩
 ·rw[if_neg e];exact .inr ⟨hy,e⟩
theorem K7 (h:x∈tJ key l):x∈l/\x.2.1≠key:=by
 unfold tJ at h
 have:=List.mem_filter.1 h
 exact⟨this.1,of_decide_eq_true this.2⟩
theorem M9 (h:(nK l).Nodup):(nK (tJ key l)).Nodup:=by
 unfold nK tJ at*
 exact h.sublist (List.filter_sublist.map _)
theorem Ce {b:Nat}(h:(nK l).Nodup)(hn:iO key l=none):(nK (l++[(b,key,u)])).Nodup:=by
 unfold nK at*
 rw[List.map_append,List.nodup_append]
 refine⟨h,by simp,?_⟩
 intro a ha c hc
 simp at hc
 subst hc
 obtain⟨x,hx,rfl⟩:=List.mem_map.1 ha
 exact oU.1 hn x hx
theorem EY {f:κ->β->Int}{t:β}(hf:∀x∈l,0<=f x.2.1 x.2.2)(hn:(nK l).Nodup)(h:iO key l=some t):f key t<=j6 f l:=by
 have c:=wV (f:=f) hn h
 have d:0<=j6 f (tJ key l):=lM fun x hx=>hf x (K7 hx).1
 omega
end
def Hq (ls:SM):Int:=j6 (fun _ s=>s.h0+s.h1) ls
def vw (lh:HM):Int:=j6 (fun _ h=>h.am) lh
def rP.all (s:rP):Int:=s.own.sum+Hq s.ls+vw s.lh+s.lost
def Bi (ls:SM)(k:kI)(h:yz):Prop:=(0<=k.side/\k.side<=1)/\(1<=h.am/\h.am<=1125899906842624)/\∃t,iO k.ch ls=some t
structure jB (s:rP):Prop where
 len:1<=s.own.length/\s.own.length<=12
 own:∀x∈s.own,0<=x
 seats:∀x∈s.ls,x.2.1=x.2.2.ch/\(0<=x.2.1/\x.2.1<40)/\o7 s.own.length x.2.2
 keys:(nK s.ls).Nodup
 holds:∀x∈s.lh,Bi s.ls x.2.1 x.2.2
 hkeys:(nK s.lh).Nodup
 lost:0<=s.lost
 tot:s.all<=1125899906842624
variable {l:List Int}
theorem Wo (h:∀x∈l,0<=x):0<=l.sum:=by
 have:=(tK l h l.length).1
 rwa [List.take_length]at this
theorem PO:∀{l:List Int},(∀x∈l,0<=x)->∀i,l.getD i 0<=l.sum
 |[],h,i=>by simp
 |x::l,h,0=>by
  have:=Wo (l:=l) fun y hy=>h y (List.mem_cons_of_mem _ hy)
  simp only[List.getD_cons_zero,List.sum_cons];omega
 |x::l,h,i+1=>by
  have c:=PO (l:=l) (fun y hy=>h y (List.mem_cons_of_mem _ hy)) i
  have d:=h x List.mem_cons_self
  simp only[List.getD_cons_succ,List.sum_cons];omega
theorem aak (h:∀x∈l,0<=x)(i:Nat):0<=l.getD i 0:=by
 by_cases hi:i<l.length
 ·have:l.getD i 0=l[i]:=by simp[List.getD,hi]
  rw[this];exact h _ (List.getElem_mem hi)
 ·rw[List.getD_eq_getElem?_getD,List.getElem?_eq_none (by omega)];exact Int.le_refl _
section
variable {s:rP}
theorem jB.ae4 (h:jB s):∀x∈s.ls,0<=x.2.2.h0+x.2.2.h1:=fun x hx=>by
 obtain⟨_,_,_,_,_,c,d⟩:=h.seats x hx;omega
theorem jB.Na (h:jB s):∀x∈s.lh,0<=x.2.2.am:=fun x hx=>by have:=(h.holds x hx).2.1;omega
theorem jB.parts (h:jB s):0<=s.own.sum/\0<=Hq s.ls/\0<=vw s.lh:=⟨Wo h.own,lM h.ae4,lM h.Na⟩
theorem jB.ownB (h:jB s)(i:Nat):0<=s.own.getD i 0/\s.own.getD i 0<=1125899906842624:=by
 have d:=PO h.own i
 have e:=h.parts
 have c:=h.tot
 have f:=h.lost
 unfold rP.all at c
 exact⟨aak h.own i,by omega⟩
theorem jB.Wp (h:jB s):0<=s.lost/\s.lost<=1125899906842624:=by
 have d:=h.parts
 have c:=h.tot
 have e:=h.lost
 unfold rP.all at c
 omega
theorem jB.seat (h:jB s){ch:Int}{t:Seat}(hg:iO ch s.ls=some t):ch=t.ch/\(0<=ch/\ch<40)/\o7 s.own.length t/\t.h0+t.h1<=Hq s.ls:=by
 obtain⟨b,hb⟩:=pU hg
 obtain⟨h1,c,d⟩:=h.seats _ hb
 exact⟨h1,c,d,EY (f:=fun(_:Int) (s:Seat)=>s.h0+s.h1) h.ae4 h.keys hg⟩
theorem jB.hold (h:jB s){k:kI}{t:yz}(hg:iO k s.lh=some t):Bi s.ls k t/\t.am<=vw s.lh:=by
 obtain⟨b,hb⟩:=pU hg
 exact⟨h.holds _ hb,EY (f:=fun(_:kI) (y:yz)=>y.am) h.Na h.hkeys hg⟩
theorem Wq {ch side:Int}(lh:HM)(h:∀x∈lh,0<=x.2.2.am):0<=jA lh ch side/\jA lh ch side<=vw lh:=by
 induction lh with
 |nil=>simp[jA,vw,j6]
 |cons x lh ih=>
  have c:=ih fun y hy=>h y (List.mem_cons_of_mem _ hy)
  have d:=h x List.mem_cons_self
  unfold jA vw at*
  rw[jb,jb]
  have:0<=oo ch side x.2.1 x.2.2/\oo ch side x.2.1 x.2.2<=x.2.2.am:=by
   unfold oo;split<;>omega
  omega
theorem jB.JL (h:jB s)(ch side:Int):0<=jA s.lh ch side/\jA s.lh ch side<=1125899906842624:=by
 have d:=Wq (ch:=ch) (side:=side) s.lh h.Na
 have e:=h.parts
 have c:=h.tot
 have f:=h.lost
 unfold rP.all at c
 omega
def pE (s:rP)(t:Seat)(fee:Int):rP×Int:=
 if¬(yM s.own.length t/\0<=fee/\fee<=1125899906842624)then(s,1)
 else if(iO t.ch s.ls).isSome then(s,4)
 else if s.own.getD t.p0.toNat 0<t.h0+fee\/s.own.getD t.p1.toNat 0<t.h1 then(s,8)
 else(⟨rf (rf s.own t 0 t.h0 fee) t 1 t.h1 0,s.ls++[(s.cs,t.ch,t)],s.cs+1,s.lh,s.ck,s.lost+fee⟩,0)
def K8 (s:rP)(ch:Int)(fee:jw):rP×Int:=
 if¬((0<=fee.a/\fee.a<=1125899906842624)/\0<=fee.b/\fee.b<=1125899906842624)then(s,1)
 else match iO ch s.ls with
  |none=>(s,5)
  |some t=>if¬jA s.lh ch 0+jA s.lh ch 1=0 then(s,14)else if t.h0<fee.a\/t.h1<fee.b then(s,8)
   else(⟨abZ s.own t fee 2,tJ ch s.ls,s.cs,s.lh,s.ck,yg s.lost fee 2⟩,0)
instance ace (side id am : Int) (pt : Nat) : Decidable (zL side id am pt) := by unfold zL; infer_instance
def nI (s:rP)(ch side id am:Int)(pt:Nat):rP×Int:=
 if¬zL side id am pt then(s,1)
 else match iO ch s.ls with
  |none=>(s,5)
  |some t=>if(iO (⟨ch,side,id⟩:kI) s.lh).isSome then(s,4)else if t.h side.toNat<am then(s,8)
   else(⟨s.own,oJ ch (t.setH side.toNat (t.h side.toNat-am)) s.ls,s.cs,s.lh++[(s.ck,⟨ch,side,id⟩,⟨am,pt⟩)],s.ck+1,s.lost⟩,0)
def Nc (s:rP)(ch side id:Int)(h:yz)(t:Seat)(to:Int):rP:=
 ⟨s.own,oJ ch (t.setH to.toNat (t.h to.toNat+h.am)) s.ls,s.cs,tJ (⟨ch,side,id⟩:kI) s.lh,s.ck,s.lost⟩
def lZ (s:rP)(ch side id:Int)(sec:Nat):rP×Int:=
 match iO (⟨ch,side,id⟩:kI) s.lh with
  |none=>(s,5)
  |some h=>if base sec≠h.pt then(s,23)else(Nc s ch side id h ((iO ch s.ls).getD iB) (1-side),0)
def um (s:rP)(ch side id:Int):rP×Int:=
 match iO (⟨ch,side,id⟩:kI) s.lh with
  |none=>(s,5)
  |some h=>(Nc s ch side id h ((iO ch s.ls).getD iB) side,0)
def y7 (st:SM×Int)(g:Bc):SM×Int:=
 if st.2≠0 then st else if¬vF g then(st.1,1)else match iO g.ch st.1 with
  |none=>(st.1,5)
  |some s=>if s.h g.side.toNat<g.am then(st.1,8)else(oJ g.ch (MG s g) st.1,0)
def kJ (ls:SM)(iH:List Bc):SM×Int:=iH.foldl y7 (ls,0)
def K9 (s:rP)(iH:List Bc):rP×Int:=
 if(kJ s.ls iH).2≠0 then(s,(kJ s.ls iH).2)else(⟨s.own,(kJ s.ls iH).1,s.cs,s.lh,s.ck,s.lost⟩,0)
instance ae5 (d fee : jw) : Decidable (Pm d fee) := by
 have : Pm d fee ↔ ((-1125899906842624 <= d.a /\ d.a <= 1125899906842624) /\ 0 <= fee.a /\ fee.a <= 1125899906842624) /\ ((-1125899906842624 <= d.b /\ d.b <= 1125899906842624) /\ 0 <= fee.b /\ fee.b <= 1125899906842624) := by
  constructor
  ·intro h; exact ⟨h 0 (by omega), h 1 (by omega)⟩
  ·rintro ⟨h0, h1⟩ k hk
   have : k = 0 \/ k = 1 := by omega
   rcases this with rfl | rfl
   ·exact h0
   ·exact h1
 exact decidable_of_iff _ this.symm
instance ae6 (own : List Int) (s : Seat) (d fee : jw) (k : Nat) : Decidable (BC own s d fee k) := by unfold BC; infer_instance
def qR (s:rP)(ch:Int)(d fee:jw):rP×Int:=
 if¬Pm d fee then(s,1)
 else match iO ch s.ls with
  |none=>(s,5)
  |some t=>if BC s.own t d fee 0\/BC s.own t d fee 1 then(s,8)
   else(⟨ZQ s.own (qm t d 2) d fee 2,oJ ch (qm t d 2) s.ls,s.cs,s.lh,s.ck,yg s.lost fee 2⟩,0)
variable {t:Seat}{j:Nat}{fee:Int}
theorem JM {own:List Int}{am:Int}(h:0<=t.p j/\t.p j<own.length):(rf own t j am fee).sum=own.sum-(am+fee):=by
 unfold rf
 rw[Rh _ _ _ (by omega)]
 omega
variable {i:Nat}{v:Int}
theorem PQ (h:∀x∈l,0<=x)(hv:0<=v):∀x∈l.set i v,0<=x:=fun x hx=>by
 rcases List.mem_or_eq_of_mem_set hx with hx|rfl
 ·exact h x hx
 ·exact hv
theorem Nf {own:List Int}{am:Int}(h:∀x∈own,0<=x)(hf:am+fee<=own.getD (t.p j).toNat 0):∀x∈rf own t j am fee,0<=x:=PQ h (by omega)
variable {ls:SM}{k:kI}
theorem Ng {h:yz}{x:Nat×Int×Seat}(hn:iO x.2.1 ls=none)(hh:Bi ls k h):Bi (ls++[x]) k h:=by
 obtain⟨c,d,t,f⟩:=hh
 refine⟨c,d,?_⟩
 obtain⟨b,k0,u⟩:=x
 rw[zP hn]
 by_cases e:k.ch=k0
 ·exact⟨u,by rw[if_pos e]⟩
 ·exact⟨t,by rw[if_neg e];exact f⟩
theorem PR {h:yz}{ch:Int}{u:Seat}(hc:∃v,iO ch ls=some v)(hh:Bi ls k h):Bi (oJ ch u ls) k h:=by
 obtain⟨c,d,t,f⟩:=hh
 refine⟨c,d,?_⟩
 rw[aah hc]
 by_cases e:k.ch=ch
 ·exact⟨u,by rw[if_pos e]⟩
 ·exact⟨t,by rw[if_neg e];exact f⟩
theorem Tw (h:jB s)(t:Seat)(fee:Int):jB (pE s t fee).1/\(pE s t fee).1.all=s.all:=by
 unfold pE
 split
 ·exact⟨h,rfl⟩
 ·rename_i e
  split
  ·exact⟨h,rfl⟩
  ·rename_i c2
   split
   ·exact⟨h,rfl⟩
   ·rename_i c3
    have e:=Decidable.not_not.1 e
    have hg:iO t.ch s.ls=none:=by simpa using c2
    obtain⟨⟨c,d,i,l,f⟩,m,n⟩:=e
    have ha:(⟨rf (rf s.own t 0 t.h0 fee) t 1 t.h1 0,s.ls++[(s.cs,t.ch,t)],s.cs+1,s.lh,s.ck,s.lost+fee⟩:rP).all=s.all:=by
     unfold rP.all Hq
     simp only
     rw[JM (t:=t) (j:=1) (by rw[rq];exact⟨d.1,d.2.1⟩),JM (t:=t) (j:=0) (own:=s.own) ⟨c.1,c.2.1⟩,Ho,y5]
     omega
    refine⟨⟨by simp only[rq];exact h.len,?_,?_,Ce h.keys hg,fun x hx=>Ng hg (h.holds x hx),h.hkeys,by have:=h.lost;simp only;omega,by rw[ha];exact h.tot⟩,ha⟩
    ·have e1:(rf s.own t 0 t.h0 fee).getD (t.p 1).toNat 0=s.own.getD (t.p 1).toNat 0:=GA (j:=0) (k:=1) c.1 d.1 f
     refine Nf (Nf h.own ?_) ?_
     ·have:t.p 0=t.p0:=Z
      rw[this];omega
     ·rw[e1]
      have:t.p 1=t.p1:=Z
      rw[this];omega
    ·intro x hx
     simp only[rq]
     rcases List.mem_append.1 hx with hx|hx
     ·exact h.seats x hx
     ·simp only[List.mem_singleton]at hx
      subst hx
      exact⟨rfl,⟨i,l⟩,⟨c.1,c.2.1⟩,⟨d.1,d.2.1⟩,f,⟨c.2.2.1,c.2.2.2⟩,d.2.2.1,d.2.2.2⟩
theorem Nh (hi:i<2):(t.setH i v).h0+(t.setH i v).h1=t.h0+t.h1-t.h i+v:=by
 have:i=0\/i=1:=by omega
 rcases this with rfl|rfl
 ·simp[Seat.setH,Seat.h];omega
 ·simp[Seat.setH,Seat.h]
variable {n:Nat}
theorem Ri (h:o7 n t)(hv:0<=v/\v<=1125899906842624):o7 n (t.setH i v):=by
 obtain⟨c,d,e,f,j⟩:=h
 unfold Seat.setH
 split
 ·exact⟨c,d,e,hv,j⟩
 ·exact⟨c,d,e,f,hv⟩
theorem Rj (t:Seat)(i:Nat)(v:Int):(t.setH i v).ch=t.ch:=by unfold Seat.setH;split<;>rfl
theorem Ws (h:o7 n t)(i:Nat):(0<=t.h i/\t.h i<=1125899906842624)/\t.h i<=t.h0+t.h1:=by
 obtain⟨_,_,_,c,d⟩:=h
 unfold Seat.h
 split<;>omega
theorem Ni (h:jB s){ch:Int}{t u:Seat}(hg:iO ch s.ls=some t)(hu:o7 s.own.length u)(hc:u.ch=t.ch){lh:HM}{ck:Nat}(hh:∀x∈lh,Bi s.ls x.2.1 x.2.2)(hk:(nK lh).Nodup)(hs:u.h0+u.h1+vw lh=t.h0+t.h1+vw s.lh):
  jB ⟨s.own,oJ ch u s.ls,s.cs,lh,ck,s.lost⟩/\(⟨s.own,oJ ch u s.ls,s.cs,lh,ck,s.lost⟩:rP).all=s.all:=by
 have e:=h.seat hg
 have ha:(⟨s.own,oJ ch u s.ls,s.cs,lh,ck,s.lost⟩:rP).all=s.all:=by
  have:=M8 (f:=fun(_:Int) (s:Seat)=>s.h0+s.h1) (u:=u) h.keys hg
  unfold rP.all Hq
  simp only
  rw[this]
  omega
 refine⟨⟨h.len,h.own,?_,by rw[Wm];exact h.keys,fun x hx=>PR ⟨t,hg⟩ (hh x hx),hk,h.lost,by rw[ha];exact h.tot⟩,ha⟩
 intro x hx
 rcases aaj hx with⟨c,d⟩|⟨c,d⟩
 ·rw[c,d]
  exact⟨by rw[hc];exact e.1,e.2.1,hu⟩
 ·exact h.seats x c
theorem Nj (lh:HM)(b:Nat)(k:kI)(x:yz):vw (lh++[(b,k,x)])=vw lh+x.am:=by unfold vw;rw[Ho,y5]
theorem PS (h:jB s)(ch side id am:Int)(pt:Nat):jB (nI s ch side id am pt).1/\(nI s ch side id am pt).1.all=s.all:=by
 unfold nI
 split
 ·exact⟨h,rfl⟩
 ·rename_i c
  have c:=Decidable.not_not.1 c
  split
  ·exact⟨h,rfl⟩
  ·rename_i t hg
   split
   ·exact⟨h,rfl⟩
   ·rename_i c2
    have hn:iO (⟨ch,side,id⟩:kI) s.lh=none:=by simpa using c2
    split
    ·exact⟨h,rfl⟩
    ·rename_i c3
     obtain⟨⟨d,e⟩,j,⟨f,i⟩,_⟩:=c
     obtain⟨e1,e2,e3,e4⟩:=h.seat hg
     have b:=Ws e3 side.toNat
     refine Ni h hg (Ri e3 (by omega)) (Rj _ _ _) ?_ (Ce h.hkeys hn) (by rw[Nh (by omega),Nj];simp only;omega)
     intro x hx
     rcases List.mem_append.1 hx with hx|hx
     ·exact h.holds x hx
     ·simp only[List.mem_singleton]at hx
      subst hx
      exact⟨⟨d,e⟩,⟨f,i⟩,t,hg⟩
theorem Nk (h:jB s){ch side id:Int}{x:yz}{t:Seat}{to:Int}(hx:iO (⟨ch,side,id⟩:kI) s.lh=some x)(ht:iO ch s.ls=some t)(hto:0<=to/\to<=1):jB (Nc s ch side id x t to)/\(Nc s ch side id x t to).all=s.all:=by
 obtain⟨e1,e2,e3,e4⟩:=h.seat ht
 obtain⟨⟨_,⟨c,d⟩,_⟩,e⟩:=h.hold hx
 have b:=Ws e3 to.toNat
 have hp:=h.parts
 have htot:=h.tot
 have hl:=h.lost
 unfold rP.all at htot
 have hd:vw (tJ (⟨ch,side,id⟩:kI) s.lh)=vw s.lh-x.am:=wV (f:=fun(_:kI) (y:yz)=>y.am) h.hkeys hx
 exact Ni h ht (Ri e3 (by omega)) (Rj _ _ _) (fun y hy=>h.holds y (K7 hy).1) (M9 h.hkeys) (by rw[Nh (by omega),hd];omega)
theorem JN (h:jB s){ch side id:Int}{x:yz}(hx:iO (⟨ch,side,id⟩:kI) s.lh=some x):iO ch s.ls=some ((iO ch s.ls).getD iB)/\0<=side/\side<=1:=by
 obtain⟨⟨c,_,t,d⟩,_⟩:=h.hold hx
 simp only at d c
 rw[d]
 exact⟨rfl,c⟩
theorem Nl (h:jB s)(ch side id:Int)(sec:Nat):jB (lZ s ch side id sec).1/\(lZ s ch side id sec).1.all=s.all:=by
 unfold lZ
 split
 ·exact⟨h,rfl⟩
 ·rename_i x hx
  split
  ·exact⟨h,rfl⟩
  ·have q:=JN h hx
   exact Nk h hx q.1 (by omega)
theorem Tx (h:jB s)(ch side id:Int):jB (um s ch side id).1/\(um s ch side id).1.all=s.all:=by
 unfold um
 split
 ·exact⟨h,rfl⟩
 ·rename_i x hx
  have q:=JN h hx
  exact Nk h hx q.1 (by omega)
theorem rV:∀(n:Nat) (p v:Int),0<=p->p<n->((List.range n).map fun i:Nat=>if(p=(i:Int))then v else 0).sum=v
 |0,p,v,h0,h1=>by omega
 |n+1,p,v,h0,h1=>by
  rw[List.range_succ,List.map_append,List.sum_append]
  by_cases e:p=(n:Int)
  ·have hz:∀m:Nat,m<=n->((List.range m).map fun i:Nat=>if(p=(i:Int))then v else 0).sum=0:=by
    intro m
    induction m with
    |zero=>intro _;rfl
    |succ m ih=>
     intro hm
     rw[List.range_succ,List.map_append,List.sum_append,ih (by omega)]
     simp only[List.map_cons,List.map_nil,List.sum_cons,List.sum_nil]
     rw[if_neg (by omega)]
     rfl
   rw[hz n (Nat.le_refl _)]
   simp[e]
  ·rw[rV n p v h0 (by omega)]
   simp[e]
theorem qN (n:Nat)(f g:Nat->Int):((List.range n).map fun i=>f i+g i).sum=((List.range n).map f).sum+((List.range n).map g).sum:=by
 induction n with
 |zero=>rfl
 |succ n ih=>simp only[List.range_succ,List.map_append,List.sum_append,ih,List.map_cons,List.map_nil,List.sum_cons,List.sum_nil];omega
theorem AZ:∀(own:List Int),((List.range own.length).map fun i:Nat=>uN own (i:Int)).sum=own.sum:=by
 intro own
 have h:∀k,k<=own.length->((List.range k).map fun i:Nat=>uN own (i:Int)).sum=(own.take k).sum:=by
  intro k
  induction k with
  |zero=>intro _;rfl
  |succ k ih=>
   intro hk
   rw[List.range_succ,List.map_append,List.sum_append,ih (by omega),qK (by omega)]
   simp only[List.map_cons,List.map_nil,List.sum_cons,List.sum_nil,uN]
   rw[if_pos (by omega)]
   simp
 have:=h own.length (Nat.le_refl _)
 rwa [List.take_length]at this
variable {κ β:Type}
theorem y8 (n:Nat)(f:Nat->κ->β->Int):∀l:List (Nat×κ×β),((List.range n).map fun i=>j6 (f i) l).sum=j6 (fun k v=>((List.range n).map fun i=>f i k v).sum) l
 |[]=>by
  have:∀n:Nat,((List.range n).map fun i=>j6 (f i) []).sum=0:=by
   intro n
   induction n with
   |zero=>rfl
   |succ n ih=>rw[List.range_succ,List.map_append,List.sum_append,ih];simp[j6]
  rw[this];rfl
 |x::l=>by
  have:=y8 n f l
  simp only[jb]
  rw[qN,this]
theorem pV {f g:κ->β->Int}:∀{l:List (Nat×κ×β)},(∀x∈l,f x.2.1 x.2.2=g x.2.1 x.2.2)->j6 f l=j6 g l
 |[],_=>rfl
 |x::l,h=>by rw[jb,jb,h x List.mem_cons_self,pV fun y hy=>h y (List.mem_cons_of_mem _ hy)]
theorem Cg (f g:κ->β->Int):∀l:List (Nat×κ×β),j6 (fun k v=>f k v+g k v) l=j6 f l+j6 g l
 |[]=>rfl
 |x::l=>by rw[jb,jb,jb,Cg f g l];omega
theorem JO {μ ν:Type}(f:κ->β->μ->ν->Int):∀(l:List (Nat×κ×β)) (m:List (Nat×μ×ν)),j6 (fun k v=>j6 (f k v) m) l=j6 (fun c d=>j6 (fun k v=>f k v c d) l) m
 |[],m=>by
  induction m with
  |nil=>rfl
  |cons y m ih=>rw[jb,<-ih];rfl
 |x::l,m=>by
  rw[jb,JO f l m]
  rw[<-Cg]
  exact pV fun y _=>(jb (fun k v=>f k v y.2.1 y.2.2) x l).symm
theorem Wt (hn:(nK ls).Nodup)(ch v:Int)(h:∃t,iO ch ls=some t):j6 (fun k _=>if ch=k then v else 0) ls=v:=by
 obtain⟨t,ht⟩:=h
 have c:=wV (f:=fun(k:Int) (_:Seat)=>if ch=k then v else 0) hn ht
 have d:j6 (fun(k:Int) (_:Seat)=>if ch=k then v else 0) (tJ ch ls)=0:=by
  have:j6 (fun(k:Int) (_:Seat)=>if ch=k then v else 0) (tJ ch ls)=j6 (fun _ _=>0) (tJ ch ls):=pV fun x hx=>if_neg fun e=>(K7 hx).2 e.symm
  rw[this]
  have:∀l:SM,j6 (fun(_:Int) (_:Seat)=>(0:Int)) l=0:=by
   intro l
   induction l with
   |nil=>rfl
   |cons x l ih=>rw[jb,ih];rfl
  exact this _
 rw[d,if_pos Z]at c
 omega
theorem JP (h:jB s):tZ s.own s.ls s.lh s.own.length=s.own.sum+Hq s.ls+vw s.lh:=by
 unfold tZ mG
 rw[qN,AZ,y8]
 have e1:j6 (fun k v=>((List.range s.own.length).map fun i:Nat=>l8 s.lh (i:Int) k v).sum) s.ls=j6 (fun k v=>(v.h0+v.h1)+(jA s.lh k 0+jA s.lh k 1)) s.ls:=by
  refine pV fun x hx=>?_
  obtain⟨_,_,d,e,_⟩:=h.seats x hx
  unfold l8
  rw[qN,rV _ _ _ d.1 d.2,rV _ _ _ e.1 e.2]
  omega
 rw[e1,Cg]
 have e2:j6 (fun(k:Int) (_:Seat)=>jA s.lh k 0+jA s.lh k 1) s.ls=vw s.lh:=by
  have:j6 (fun(k:Int) (_:Seat)=>jA s.lh k 0+jA s.lh k 1) s.ls=j6 (fun(k:Int) (_:Seat)=>j6 (fun a b=>if a.ch=k then b.am else 0) s.lh) s.ls:=by
   refine pV fun x hx=>?_
   unfold jA
   rw[<-Cg]
   refine pV fun y hy=>?_
   have:=(h.holds y hy).1
   unfold oo
   have q:y.2.1.side=0\/y.2.1.side=1:=by omega
   rcases q with q|q<;>by_cases c:y.2.1.ch=x.2.1<;>simp[q,c]
  rw[this,JO]
  unfold vw
  exact pV fun y hy=>Wt h.keys _ _ (h.holds y hy).2.2
 rw[e2]
 unfold Hq
 omega
theorem Hr (h:jB s)(p:Int):uN s.own p<=mG s.own s.ls s.lh p/\0<=uN s.own p:=by
 have c:0<=j6 (l8 s.lh p) s.ls:=lM fun x hx=>by
  obtain⟨_,_,_,_,_,d,e⟩:=h.seats x hx
  have f:=(h.JL x.2.1 0).1
  have i:=(h.JL x.2.1 1).1
  unfold l8
  split<;>split<;>omega
 have j:0<=uN s.own p:=by
  unfold uN
  split
  ·exact(h.ownB _).1
  ·exact Int.le_refl _
 unfold mG
 omega
theorem Nn (h:jB s)(p:Int):mG s.own s.ls s.lh p<=1125899906842624:=by
 have m:j6 (l8 s.lh p) s.ls<=Hq s.ls+vw s.lh:=by
  have e:j6 (fun(k:Int) (v:Seat)=>(v.h0+v.h1)+(jA s.lh k 0+jA s.lh k 1)) s.ls=Hq s.ls+vw s.lh:=by
   have ht:=JP h
   unfold tZ mG at ht
   rw[qN,AZ,y8]at ht
   have e1:j6 (fun k v=>((List.range s.own.length).map fun i:Nat=>l8 s.lh (i:Int) k v).sum) s.ls=j6 (fun k v=>(v.h0+v.h1)+(jA s.lh k 0+jA s.lh k 1)) s.ls:=by
    refine pV fun x hx=>?_
    obtain⟨_,_,c,d,_⟩:=h.seats x hx
    unfold l8
    rw[qN,rV _ _ _ c.1 c.2,rV _ _ _ d.1 d.2]
    omega
   rw[e1]at ht
   omega
  rw[<-e]
  have hle:∀l:SM,(∀x∈l,x∈s.ls)->j6 (l8 s.lh p) l<=j6 (fun(k:Int) (v:Seat)=>(v.h0+v.h1)+(jA s.lh k 0+jA s.lh k 1)) l:=by
   intro l
   induction l with
   |nil=>intro _;exact Int.le_refl _
   |cons x l ih=>
    intro hl
    have:=ih fun y hy=>hl y (List.mem_cons_of_mem _ hy)
    obtain⟨_,_,_,_,_,f,j⟩:=h.seats x (hl x List.mem_cons_self)
    have n:=(h.JL x.2.1 0).1
    have o:=(h.JL x.2.1 1).1
    rw[jb,jb]
    have:l8 s.lh p x.2.1 x.2.2<=(x.2.2.h0+x.2.2.h1)+(jA s.lh x.2.1 0+jA s.lh x.2.1 1):=by
     unfold l8
     split<;>split<;>omega
    omega
  exact hle s.ls fun _ hx=>hx
 have t:uN s.own p<=s.own.sum:=by
  unfold uN
  split
  ·exact PO h.own _
  ·exact h.parts.1
 have f:=h.tot
 have j:=h.lost
 unfold rP.all at f
 unfold mG
 omega
theorem Wu {own:List Int}(h:BB own):jB ⟨own,[],0,[],0,0⟩/\(⟨own,[],0,[],0,0⟩:rP).all=own.sum:=by
 obtain⟨c,d,e⟩:=h
 have ha:(⟨own,[],0,[],0,0⟩:rP).all=own.sum:=by simp[rP.all,Hq,vw,j6]
 exact⟨⟨c,d,fun x hx=>by simp at hx,by simp[nK],fun x hx=>by simp at hx,by simp[nK],Int.le_refl _,by rw[ha];exact e⟩,ha⟩
end
abbrev BM:=List (Nat×Int×Bool)
def Marks (lg:BM)(ks:List Int):Prop:=(∀x,iO x lg=if x∈ks then some true else none)/\lg.length<=ks.length/\(lg.length=ks.length↔ks.Nodup)
theorem Marks.nil:Marks [] []:=⟨fun x=>by simp[yZ],Nat.le_refl _,by simp⟩
variable {ks:List Int}
theorem xO {k:Int}:(ks++[k]).Nodup↔ks.Nodup/\k∉ks:=by
 rw[List.nodup_append]
 constructor
 ·rintro⟨c,_,d⟩;exact⟨c,fun h=>d k h k (by simp) Z⟩
 ·rintro⟨c,f⟩
  refine⟨c,by simp,fun a ha b hb e=>?_⟩
  simp at hb
  subst hb
  subst e
  exact f ha
theorem Marks.new {lg:BM}{k:Int}{b:Nat}(h:Marks lg ks)(hn:iO k lg=none):Marks (lg++[(b,k,true)]) (ks++[k]):=by
 obtain⟨c,f,d⟩:=h
 have hk:k∉ks:=fun hh=>by rw[c k,if_pos hh]at hn;cases hn
 refine⟨fun x=>?_,by simp;omega,?_⟩
 ·rw[zP hn,c x]
  by_cases e:x=k
  ·simp[e]
  ·simp[e]
 ·rw[xO,<-d]
  simp only[List.length_append,List.length_cons,List.length_nil]
  constructor
  ·intro h;exact⟨by omega,hk⟩
  ·rintro⟨h,_⟩;omega
variable {v:Bool}
theorem Marks.old {lg:BM}{k:Int}(h:Marks lg ks)(hs:iO k lg=some v):Marks (lg.map fun y=>if y.2.1=k then(y.1,k,true)else y) (ks++[k]):=by
 obtain⟨c,d,f⟩:=h
 have hk:k∈ks:=by
  by_cases q:k∈ks
  ·exact q
  ·rw[c k,if_neg q]at hs;cases hs
 refine⟨fun x=>?_,by simp;omega,?_⟩
 ·rw[M7 ⟨v,hs⟩,c x]
  by_cases e:x=k
  ·simp[e,hk]
  ·simp[e]
 ·rw[xO]
  simp only[List.length_map,List.length_append,List.length_cons,List.length_nil]
  constructor
  ·intro h;omega
  ·rintro⟨_,h⟩;exact absurd hk h
theorem Marks.val {lg:BM}{k:Int}(h:Marks lg ks)(hs:iO k lg=some v):v=true/\k∈ks:=by
 rw[h.1 k]at hs
 split at hs
 ·injection hs with hs;exact⟨hs.symm,by assumption⟩
 ·cases hs
theorem Marks.not {lg:BM}{k:Int}(h:Marks lg ks)(hs:iO k lg=none):k∉ks:=fun q=>by
 rw[h.1 k,if_pos q]at hs;cases hs
variable {α:Type}{k:Nat}
theorem sQ {l:List α}{z:α}(h:k<l.length):l.take (k+1)=l.take k++[l.getD k z]:=by
 rw[List.take_add_one]
 simp[List.getD,h]
theorem qO {l:List α}{z:α}(h:k<l.length):l.getD k z∈l:=by
 have:l.getD k z=l[k]:=by simp[List.getD,h]
 rw[this];exact List.getElem_mem h
def chans (ss:List Seat):List Int:=ss.map (·.ch)
variable {ss:List Seat}
theorem Ht (h:k<ss.length):chans (ss.take (k+1))=chans (ss.take k)++[(ss.getD k iB).ch]:=by unfold chans;rw[sQ (z:=iB) h];simp
def La (n:Nat)(ss:List Seat):Prop:=(chans ss).Nodup/\∀s∈ss,yM n s
instance acf (n : Nat) (ss : List Seat) : Decidable (La n ss) := by unfold La; infer_instance
def Rk (n:Nat)(old:List Int)(ss:List Seat)(fee:List Int):Prop:=(old.Nodup/\ss.length<=40/\fee.length=n)/\La n ss/\∀x∈fee,og x=true
instance ael (n : Nat) (old : List Int) (ss : List Seat) (fee : List Int) : Decidable (Rk n old ss fee) := by unfold Rk; infer_instance
def lq (l:List Int)(s:Seat):Nat->List Int
 |0=>l
 |k+1=>(lq l s k).set (s.p k).toNat ((lq l s k).getD (s.p k).toNat 0+s.h k)
def vZ (l:List Int)(s:Seat):Nat->List Int
 |0=>l
 |k+1=>(vZ l s k).set (s.p k).toNat ((vZ l s k).getD (s.p k).toNat 0-s.h k)
theorem Ci (l:List Int)(s:Seat):∀k,(lq l s k).length=l.length
 |0=>rfl
 |k+1=>by rw[lq,List.length_set,Ci l s k]
theorem wW (l:List Int)(s:Seat):∀k,(vZ l s k).length=l.length
 |0=>rfl
 |k+1=>by rw[vZ,List.length_set,wW l s k]
theorem Wv (l:List Int)(i j:Nat)(v:Int):(l.set i v).getD j 0=if j=i/\i<l.length then v else l.getD j 0:=by
 simp only[List.getD_eq_getElem?_getD,List.getElem?_set]
 by_cases h:i=j
 ·subst h
  by_cases c:i<l.length
  ·simp[c]
  ·simp[c]
 ·simp[h,Ne.symm h]
variable {s:Seat}{lo hi:Int}
theorem Gb (h0:0<=s.h0/\s.h0<=1125899906842624)(h1:0<=s.h1/\s.h1<=1125899906842624)(h:∀i,lo<=l.getD i 0/\l.getD i 0<=hi):∀k,k<=2->∀i,lo<=(lq l s k).getD i 0/\(lq l s k).getD i 0<=hi+1125899906842624*k
 |0,_,i=>by have:=h i;rw[lq];omega
 |k+1,hk,i=>by
  have a:=Gb h0 h1 h k (by omega) i
  have b:=Gb h0 h1 h k (by omega) (s.p k).toNat
  have c:0<=s.h k/\s.h k<=1125899906842624:=by unfold Seat.h;split<;>assumption
  rw[lq,Wv]
  split<;>omega
theorem Cj (h0:0<=s.h0/\s.h0<=1125899906842624)(h1:0<=s.h1/\s.h1<=1125899906842624)(h:∀i,lo<=l.getD i 0/\l.getD i 0<=hi):∀k,k<=2->∀i,lo-1125899906842624*k<=(vZ l s k).getD i 0/\(vZ l s k).getD i 0<=hi
 |0,_,i=>by have:=h i;rw[vZ];omega
 |k+1,hk,i=>by
  have a:=Cj h0 h1 h k (by omega) i
  have b:=Cj h0 h1 h k (by omega) (s.p k).toNat
  have c:0<=s.h k/\s.h k<=1125899906842624:=by unfold Seat.h;split<;>assumption
  rw[vZ,Wv]
  split<;>omega
def rW (ls:SM)(k:Int):Seat:=(iO k ls).getD iB
def nL (n:Nat)(ls:SM)(old:List Int):List Int:=old.foldl (fun l ch=>lq l (rW ls ch) 2) (List.replicate n 0)
def qB (l:List Int)(ss:List Seat):List Int:=ss.foldl (fun l s=>vZ l s 2) l
theorem uK (n:Nat)(ls:SM)(old:List Int):(nL n ls old).length=n:=by
 have:∀(old:List Int) (l:List Int),(old.foldl (fun l ch=>lq l (rW ls ch) 2) l).length=l.length:=by
  intro old
  induction old with
  |nil=>intro l;rfl
  |cons c old ih=>intro l;rw[List.foldl_cons,ih,Ci]
 unfold nL
 rw[this,List.length_replicate]
theorem zQ (l:List Int)(ss:List Seat):(qB l ss).length=l.length:=by
 induction ss generalizing l with
 |nil=>rfl
 |cons s ss ih=>
  have e:qB l (s::ss)=qB (vZ l s 2) ss:=Z
  rw[e,ih,wW]
variable {n:Nat}{ls:SM}
theorem Hu {old:List Int}(h:k<old.length):nL n ls (old.take (k+1))=lq (nL n ls (old.take k)) (rW ls (old.getD k 0)) 2:=by
 unfold nL;rw[sQ (z:=0) h,List.foldl_append];rfl
theorem Bj (h:k<ss.length):qB l (ss.take (k+1))=vZ (qB l (ss.take k)) (ss.getD k iB) 2:=by
 unfold qB;rw[sQ (z:=iB) h,List.foldl_append];rfl
def Hw (ls:SM)(old:List Int):SM:=old.foldl (fun l ch=>tJ ch l) ls
theorem Np {old:List Int}(h:k<old.length):Hw ls (old.take (k+1))=tJ (old.getD k 0) (Hw ls (old.take k)):=by
 unfold Hw;rw[sQ (z:=0) h,List.foldl_append];rfl
def Tz (st:SM×Nat)(s:Seat):SM×Nat:=match iO s.ch st.1 with
 |none=>(st.1++[(st.2,s.ch,s)],st.2+1)
 |some _=>(oJ s.ch s st.1,st.2)
def Hy (st:SM×Nat)(ss:List Seat):SM×Nat:=ss.foldl Tz st
theorem EZ {st:SM×Nat}(h:k<ss.length):Hy st (ss.take (k+1))=Tz (Hy st (ss.take k)) (ss.getD k iB):=by
 unfold Hy;rw[sQ (z:=iB) h,List.foldl_append];rfl
variable {lm:SM}{cm:Nat}
theorem TA (h:iO s.ch lm=none):Tz (lm,cm) s=(lm++[(cm,s.ch,s)],cm+1):=by unfold Tz;simp only[h]
theorem TB {v:Seat}(h:iO s.ch lm=some v):Tz (lm,cm) s=(oJ s.ch s lm,cm):=by unfold Tz;simp only[h]
def Ww (ls:SM)(ch:Int):Prop:=iO ch ls=none
instance aem (ls : SM) (ch : Int) : Decidable (Ww ls ch) := by unfold Ww; infer_instance
def adl (lh:HM)(ch:Int):Prop:=¬jA lh ch 0+jA lh ch 1=0
instance ae7 (lh : HM) (ch : Int) : Decidable (adl lh ch) := by unfold adl; infer_instance
def There (ls:SM)(old:List Int)(s:Seat):Prop:=¬iO s.ch ls=none/\s.ch∉old
instance aen (ls : SM) (old : List Int) (s : Seat) : Decidable (There ls old s) := by unfold There; infer_instance
def acg (n:Nat)(ls:SM)(old:List Int)(ss:List Seat):List Int:=qB (nL n ls old) ss
def TC (n:Nat)(ls:SM)(lh:HM)(old:List Int)(ss:List Seat)(fee:List Int):Int:=
 if¬Rk n old ss fee then 1 else if∃ch∈old,Ww ls ch then 5 else if∃ch∈old,adl lh ch then 14 else if∃s∈ss,There ls old s then 4 else if acg n ls old ss≠fee then 8 else 0
def Hz (ls:SM)(cs:Nat)(old:List Int)(ss:List Seat):SM×Nat:=Hy (Hw ls old,cs) ss
def uP (s:rP)(old:List Int)(ss:List Seat)(fee:List Int):rP×Int:=
 if TC s.own.length s.ls s.lh old ss fee≠0 then(s,TC s.own.length s.ls s.lh old ss fee)
 else(⟨s.own,(Hz s.ls s.cs old ss).1,(Hz s.ls s.cs old ss).2,s.lh,s.ck,s.lost+fee.sum⟩,0)
theorem adm {lh:HM}{old:List Int}{fee:List Int}(h:TC n ls lh old ss fee=0):Rk n old ss fee/\(∀ch∈old,∃t,iO ch ls=some t)/\(∀ch∈old,jA lh ch 0+jA lh ch 1=0)/\(∀s∈ss,iO s.ch ls=none\/s.ch∈old)/\acg n ls old ss=fee:=by
 unfold TC at h
 split at h
 ·cases h
 ·rename_i c1
  split at h
  ·cases h
  ·rename_i c2
   split at h
   ·cases h
   ·rename_i e
    split at h
    ·cases h
    ·rename_i c4
     split at h
     ·cases h
     ·rename_i f
      refine⟨Decidable.not_not.1 c1,fun ch hc=>?_,fun ch hc=>?_,fun s hs=>?_,Decidable.not_not.1 f⟩
      ·cases hg:iO ch ls with
       |none=>exact absurd ⟨ch,hc,hg⟩ c2
       |some t=>exact⟨t,rfl⟩
      ·exact Decidable.not_not.1 fun hh=>e ⟨ch,hc,hh⟩
      ·by_cases c:iO s.ch ls=none
       ·exact .inl c
       ·by_cases d:s.ch∈old
        ·exact .inr d
        ·exact absurd ⟨s,hs,c,d⟩ c4
variable {s:rP}
section
variable {n:Nat}{ls:SM}{lh:HM}{old:List Int}{ss:List Seat}{fee:List Int}{bd b held:Bool}{B:Prop}{k:Nat}
theorem Rl (hs:∀x∈ls,o7 n x.2.2):∀k,k<=old.length->(∀i,i<k->∃t,iO (old.getD i 0) ls=some t)->∀i,0<=(nL n ls (old.take k)).getD i 0/\(nL n ls (old.take k)).getD i 0<=2251799813685248*k
 |0,_,_,i=>by
  have:(nL n ls (old.take 0))=List.replicate n 0:=Z
  rw[this]
  simp only[List.getD_eq_getElem?_getD,List.getElem?_replicate]
  split<;>simp
 |k+1,hk,ht,i=>by
  have ih:=Rl hs k (by omega) fun i hi=>ht i (by omega)
  obtain⟨t,htt⟩:=ht k (by omega)
  obtain⟨b,hb⟩:=pU htt
  have so:o7 n t:=hs _ hb
  have e:rW ls (old.getD k 0)=t:=by unfold rW;rw[htt];rfl
  rw[Hu (by omega),e]
  have:=Gb so.2.2.2.1 so.2.2.2.2 ih 2 (Nat.le_refl _) i
  omega
theorem Rm {H:Int}(hm:∀s∈ss,yM n s)(hl:∀i,0<=l.getD i 0/\l.getD i 0<=H):∀k,k<=ss.length->∀i,-(2251799813685248*k)<=(qB l (ss.take k)).getD i 0/\(qB l (ss.take k)).getD i 0<=H
 |0,_,i=>by
  have:qB l (ss.take 0)=l:=Z
  rw[this]
  have:=hl i
  omega
 |k+1,hk,i=>by
  have ih:=Rm hm hl k (by omega)
  obtain⟨c,d,_⟩:=hm _ (qO (z:=iB) (show k<ss.length by omega))
  rw[Bj (by omega)]
  have:=Cj c.2.2 d.2.2 ih 2 (Nat.le_refl _) i
  omega
theorem Wx {t:Seat}(h:yM n t):o7 n t:=⟨⟨h.1.1,h.1.2.1⟩,⟨h.2.1.1,h.2.1.2.1⟩,h.2.2.2.2,h.1.2.2,h.2.1.2.2⟩
theorem Nq (h:∀x∈fee,og x=true):∀k,k<=fee.length->0<=(fee.take k).sum/\(fee.take k).sum<=1125899906842624*k
 |0,_=>by simp
 |k+1,hk=>by
  have ih:=Nq h k (by omega)
  have c:=h _ (qO (z:=0) (show k<fee.length by omega))
  simp only[og,decide_eq_true_eq]at c
  rw[qK (by omega)]
  omega
theorem aal (h:∀x∈fee,og x=true)(hk:k<fee.length):0<=fee.getD k 0/\fee.getD k 0<=1125899906842624:=by
 have c:=h _ (qO (z:=0) hk)
 simpa only[og,decide_eq_true_eq]using c
end
end Go.Lsp
namespace Go.JQ
open Go.Gz Go.Num Go.Lsp Go.Sx
def Bw (a b:mF):Prop:=a.fr<b.fr\/(a.fr=b.fr/\a.id<b.id)
instance ag0 (a b : mF) : Decidable (Bw a b) := by unfold Bw; infer_instance
def jT (cs:List mF):Int:=(cs.map (·.am)).sum
def wX (cs:List mF)(k:Int):List mF:=cs.filter fun c=>decide (c.fr=k)
def TD (fr id:Int)(c:mF):Bool:=decide (c.fr=fr)&&decide (c.id=id)
theorem A7 {fr id:Int}{c:mF}:TD fr id c=true↔c.fr=fr/\c.id=id:=by simp[TD]
def pW (cs:List mF)(fr id:Int):Option mF:=cs.find? (TD fr id)
def rX (cs:List mF)(fr id:Int):List mF:=cs.filter fun c=> !TD fr id c
structure ny where
 no:Int
 h0:Int
 h1:Int
 cs:List mF
 rt:Int
def ny.h (s:ny)(i:Int):Int:=if i=0 then s.h0 else s.h1
def ny.setH (s:ny)(i v:Int):ny:=if i=0 then{s with h0:=v}else{s with h1:=v}
def E5 (c:mF):Prop:=(0<=c.fr/\c.fr<=1)/\(1<=c.id/\c.id<=1048576)/\(1<=c.am/\c.am<=1125899906842624)/\(1<=c.ex/\c.ex<=1048576)/\right c.pt=true/\c.pt≠1
def lF (rt:Int)(k:Nat):Int:=rt*(68+8*(k:Int))+660
theorem Nr {rt:Int}(h:0<=rt){a b:Nat}(hab:a<=b):lF rt a<=lF rt b:=by
 unfold lF
 have:rt*(68+8*(a:Int))<=rt*(68+8*(b:Int)):=Int.mul_le_mul_of_nonneg_left (by omega) h
 omega
structure kz (Dp op:Int)(s:ny):Prop where
 wY:0<=s.no/\s.no<=1048576
 Vq:0<=s.h0/\s.h0<=1125899906842624
 Vr:0<=s.h1/\s.h1<=1125899906842624
 Wy:0<=s.rt/\s.rt<=1000
 len:s.cs.length<=16
 fine:∀c∈s.cs,E5 c
 ord:s.cs.Pairwise Bw
 tot:s.h0+s.h1+jT s.cs=Dp
 top:Dp<=1125899906842624
 pays:lF s.rt s.cs.length<=s.h op
variable {Dp op:Int}{s:ny}{c:mF}{fr id:Int}{cs:List mF}
theorem lS (a b:List mF):jT (a++b)=jT a+jT b:=by simp[jT]
theorem nW (c:mF)(l:List mF):jT (c::l)=c.am+jT l:=by simp[jT]
variable {l:List mF}
theorem Lb (h:∀c∈l,1<=c.am):0<=jT l:=by
 induction l with
 |nil=>exact Int.le_refl _
 |cons x l ih=>have:=ih (fun c hc=>h c (List.mem_cons_of_mem _ hc));have:=h x (List.mem_cons_self ..);rw[nW];omega
theorem of_le (h:∀c∈l,1<=c.am)(k:Int):0<=jT (wX l k)/\jT (wX l k)<=jT l:=by
 induction l with
 |nil=>exact⟨Int.le_refl _,Int.le_refl _⟩
 |cons x l ih=>
  obtain⟨i1,i2⟩:=ih fun c hc=>h c (List.mem_cons_of_mem _ hc)
  have:=h x (List.mem_cons_self ..)
  unfold wX at*
  rw[List.filter_cons]
  split
  ·rw[nW,nW];omega
  ·rw[nW];omega
theorem kz.am1 (h:kz Dp op s):∀c∈s.cs,1<=c.am:=fun c hc=>(h.fine c hc).2.2.1.1
theorem Ro:∀{l:List mF},l.Pairwise Bw->∀a∈l,∀b∈l,a.fr=b.fr->a.id=b.id->a=b
 |[],_,a,ha,_,_,_,_=>by cases ha
 |x::l,h,a,ha,b,hb,e1,e2=>by
  rw[List.pairwise_cons]at h
  rcases List.mem_cons.1 ha with q1|q1
  ·rcases List.mem_cons.1 hb with q2|q2
   ·rw[q1,q2]
   ·have:=h.1 b q2;rw[<-q1]at this;unfold Bw at this;omega
  ·rcases List.mem_cons.1 hb with q2|q2
   ·have:=h.1 a q1;rw[<-q2]at this;unfold Bw at this;omega
   ·exact Ro h.2 a q1 b q2 e1 e2
theorem wZ (h:l.Pairwise Bw)(hc:c∈l):pW l c.fr c.id=some c:=by
 unfold pW
 cases hf:l.find? (TD c.fr c.id)with
 |none=>exact absurd (A7.2 ⟨rfl,rfl⟩) (List.find?_eq_none.1 hf c hc)
 |some d=>
  have e:=A7.1 (List.find?_some hf)
  rw[Ro h d (List.mem_of_find?_eq_some hf) c hc e.1 e.2]
theorem Ck (h:pW l fr id=some c):c∈l/\c.fr=fr/\c.id=id:=⟨List.mem_of_find?_eq_some h,A7.1 (List.find?_some h)⟩
theorem xP:pW l fr id=none↔∀c∈l,¬(c.fr=fr/\c.id=id):=by
 unfold pW
 rw[List.find?_eq_none]
 exact⟨fun h c hc e=>h c hc (A7.2 e),fun h c hc e=>h c hc (A7.1 e)⟩
theorem zR (h:l.Pairwise Bw)(hc:c∈l):∃a b,l=a++c::b/\rX l c.fr c.id=a++b:=by
 obtain⟨a,b,rfl⟩:=List.append_of_mem hc
 refine⟨a,b,rfl,?_⟩
 have hne:∀d∈a++b,TD c.fr c.id d=false:=fun d hd=>by
  rw[Bool.eq_false_iff]
  intro he
  obtain⟨e1,e2⟩:=A7.1 he
  rw[List.pairwise_append,List.pairwise_cons]at h
  rcases List.mem_append.1 hd with hd|hd
  ·have:=h.2.2 d hd c (List.mem_cons_self ..);unfold Bw at this;omega
  ·have:=h.2.1.1 d hd;unfold Bw at this;omega
 have hs:TD c.fr c.id c=true:=A7.2 ⟨rfl,rfl⟩
 unfold rX
 rw[List.filter_append,List.filter_cons,hs,if_neg (by simp),List.filter_eq_self.2 fun d hd=>by rw[hne d (List.mem_append_left _ hd)];rfl,List.filter_eq_self.2 fun d hd=>by rw[hne d (List.mem_append_right _ hd)];rfl]
def qD (s:ny)(c:mF)(to:Int):ny:={s with cs:=rX s.cs c.fr c.id}.setH to (s.h to+c.am)
theorem Gc (s:ny)(i v:Int):(s.setH i v).no=s.no/\(s.setH i v).cs=s.cs/\(s.setH i v).rt=s.rt:=by unfold ny.setH;split<;>exact⟨rfl,rfl,rfl⟩
theorem yN {i:Int}(s:ny)(v:Int)(hi:0<=i/\i<=1):(s.setH i v).h0+(s.setH i v).h1=s.h0+s.h1-s.h i+v/\∀j,0<=j/\j<=1->(s.setH i v).h j=if j=i then v else s.h j:=by
 have:i=0\/i=1:=by omega
 rcases this with rfl|rfl
 ·refine⟨by show v+s.h1=s.h0+s.h1-s.h0+v;omega,fun j hj=>?_⟩
  by_cases e:j=0
  ·simp[ny.setH,ny.h,e]
  ·simp[ny.setH,ny.h,e]
 ·refine⟨by show s.h0+v=s.h0+s.h1-s.h1+v;omega,fun j hj=>?_⟩
  by_cases e:j=0
  ·simp[ny.setH,ny.h,e]
  ·have:j=1:=by omega
   simp[ny.setH,ny.h,this]
theorem kz.hB (h:kz Dp op s)(i:Int):0<=s.h i/\s.h i<=1125899906842624:=by unfold ny.h;split;exact h.Vq;exact h.Vr
theorem TE (h:kz Dp op s)(hop:0<=op/\op<=1)(hc:c∈s.cs){to:Int}(ht:0<=to/\to<=1):kz Dp op (qD s c to):=by
 obtain⟨a,b,e1,e2⟩:=zR h.ord hc
 have hs:=h.tot
 have hf:=h.fine c hc
 have hfa:=hf.2.2.1
 have l:=h.am1
 obtain⟨k1,k2,f⟩:=Gc {s with cs:=rX s.cs c.fr c.id} to (s.h to+c.am)
 obtain⟨k,m⟩:=yN {s with cs:=rX s.cs c.fr c.id} (s.h to+c.am) ht
 have k0:∀i,({s with cs:=rX s.cs c.fr c.id}:ny).h i=s.h i:=fun i=>rfl
 rw[k0]at k
 dsimp only at k
 have hsum:jT (rX s.cs c.fr c.id)=jT s.cs-c.am:=by rw[e2,e1,lS,lS,nW];omega
 have o:0<=jT (rX s.cs c.fr c.id):=Lb fun d hd=>l d (List.mem_filter.1 hd).1
 have hlen:(rX s.cs c.fr c.id).length<=s.cs.length:=List.length_filter_le _ _
 have t:=h.Vq
 have u:=h.Vr
 have htop:=h.top
 have v:s.h 0=s.h0:=Z
 have x:s.h 1=s.h1:=Z
 have hj:∀j,0<=j/\j<=1->s.h j<=(qD s c to).h j/\0<=(qD s c to).h j:=fun j hj=>by
  have:=m j hj
  have hB:=h.hB j
  unfold qD
  rw[this]
  split
  ·rename_i e;subst e;omega
  ·exact⟨by rw[k0];exact Int.le_refl _,by rw[k0];exact hB.1⟩
 have y:=hj 0 ⟨Int.le_refl _,by omega⟩
 have A:=hj 1 ⟨by omega,Int.le_refl _⟩
 have B:(qD s c to).h 0=(qD s c to).h0:=Z
 have e1':(qD s c to).h 1=(qD s c to).h1:=Z
 have k4':(qD s c to).h0+(qD s c to).h1=s.h0+s.h1+c.am:=by unfold qD;omega
 refine⟨by unfold qD;rw[k1];exact h.wY,by omega,by omega,by unfold qD;rw[f];exact h.Wy,by unfold qD;rw[k2];exact Nat.le_trans hlen h.len,fun d hd=>?_,?_,?_,h.top,?_⟩
 ·unfold qD at hd
  rw[k2]at hd
  exact h.fine d (List.mem_filter.1 hd).1
 ·unfold qD
  rw[k2]
  exact h.ord.filter _
 ·have:jT (qD s c to).cs=jT s.cs-c.am:=by unfold qD;rw[k2];exact hsum
  omega
 ·have n:lF (qD s c to).rt (qD s c to).cs.length<=lF s.rt s.cs.length:=by
   unfold qD
   rw[k2,f]
   exact Nr h.Wy.1 hlen
  exact Int.le_trans n (Int.le_trans h.pays (hj op hop).1)
structure Ns (cs:List mF)(c:mF)(k:Nat):Prop where
 le:k<=cs.length
 lo:∀j,j<k->Bw (cs.getD j ag) c
 hi:∀j,k<=j->j<cs.length->¬Bw (cs.getD j ag) c
def uD (cs:List mF)(c:mF)(k:Nat):List mF:=cs.take k++c::cs.drop k
def lq (s:ny)(c:mF)(k:Nat):ny:={s with cs:=uD s.cs c k}.setH c.fr (s.h c.fr-c.am)
variable {k:Nat}
theorem Nt (h:k<=cs.length):(uD cs c k).length=cs.length+1:=by unfold uD;simp;omega
theorem Nu (k:Nat):jT (uD cs c k)=jT cs+c.am:=by
 have:jT cs=jT (cs.take k)+jT (cs.drop k):=by rw[<-lS,List.take_append_drop]
 unfold uD
 rw[lS,nW]
 omega
theorem Cm {d:mF}:d∈uD cs c k↔d=c\/d∈cs:=by
 unfold uD
 rw[List.mem_append,List.mem_cons]
 constructor
 ·rintro(h|rfl|h)
  ·exact .inr (List.mem_of_mem_take h)
  ·exact .inl Z
  ·exact .inr (List.mem_of_mem_drop h)
 ·rintro(rfl|h)
  ·exact .inr (.inl Z)
  ·rw[<-List.take_append_drop k cs,List.mem_append]at h
   rcases h with h|h
   ·exact .inl h
   ·exact .inr (.inr h)
theorem zS {i:Nat}(h:i<l.length):l.getD i ag∈l:=by
 have:l.getD i ag=l[i]:=by simp[List.getD,h]
 rw[this];exact List.getElem_mem h
theorem Nv (h:cs.Pairwise Bw)(hp:Ns cs c k)(hn:pW cs c.fr c.id=none):(uD cs c k).Pairwise Bw:=by
 have hno:=xP.1 hn
 have hlo:∀d∈cs.take k,Bw d c:=fun d hd=>by
  obtain⟨i,hi,rfl⟩:=List.mem_iff_getElem.1 hd
  have e:i<k/\i<cs.length:=by rw[List.length_take]at hi;omega
  have:=hp.lo i e.1
  rw[show cs.getD i ag=cs[i] by simp[List.getD,e.2]]at this
  rw[List.getElem_take];exact this
 have hhi:∀d∈cs.drop k,Bw c d:=fun d hd=>by
  obtain⟨i,hi,rfl⟩:=List.mem_iff_getElem.1 hd
  have e:k+i<cs.length:=by rw[List.length_drop]at hi;omega
  have f:=hp.hi (k+i) (by omega) e
  have j:=hno _ (zS e)
  rw[show cs.getD (k+i) ag=cs[k+i] by simp[List.getD,e]]at f j
  rw[List.getElem_drop]
  unfold Bw at*
  omega
 unfold uD
 rw[List.pairwise_append,List.pairwise_cons]
 refine⟨h.sublist (List.take_sublist _ _),⟨hhi,h.sublist (List.drop_sublist _ _)⟩,fun a ha b hb=>?_⟩
 rcases List.mem_cons.1 hb with rfl|hb
 ·exact hlo a ha
 ·have e:=hlo a ha
  have f:=hhi b hb
  unfold Bw at*
  omega
theorem TF (h:cs.Pairwise Bw)(hp:Ns cs c k)(hn:pW cs c.fr c.id=none)(fr id:Int):pW (uD cs c k) fr id=if c.fr=fr/\c.id=id then some c else pW cs fr id:=by
 have ho:=Nv h hp hn
 split
 ·rename_i e
  rw[<-e.1,<-e.2]
  exact wZ ho (Cm.2 (.inl Z))
 ·rename_i e
  cases hf:pW cs fr id with
  |none=>exact xP.2 fun d hd=>(Cm.1 hd).elim (fun q=>by subst q;exact e) fun q=>xP.1 hf d q
  |some d=>
   obtain⟨f,i,j⟩:=Ck hf
   rw[<-i,<-j]
   exact wZ ho (Cm.2 (.inr f))
theorem TG (h:cs.Pairwise Bw)(hc:c∈cs)(fr id:Int):pW (rX cs c.fr c.id) fr id=if c.fr=fr/\c.id=id then none else pW cs fr id:=by
 have ho:(rX cs c.fr c.id).Pairwise Bw:=h.filter _
 split
 ·rename_i e
  refine xP.2 fun d hd q=>?_
  have:=(List.mem_filter.1 hd).2
  rw[A7.2 ⟨by rw[q.1,e.1],by rw[q.2,e.2]⟩]at this
  cases this
 ·rename_i e
  cases hf:pW cs fr id with
  |none=>exact xP.2 fun d hd=>xP.1 hf d (List.mem_filter.1 hd).1
  |some d=>
   obtain⟨j,f,i⟩:=Ck hf
   rw[<-f,<-i]
   refine wZ ho (List.mem_filter.2 ⟨j,?_⟩)
   cases hb:TD c.fr c.id d
   ·rfl
   ·exact absurd ⟨by rw[<-f];exact(A7.1 hb).1.symm,by rw[<-i];exact(A7.1 hb).2.symm⟩ e
theorem aam (k:Nat)(q:Int):jT (wX (uD cs c k) q)=jT (wX cs q)+if c.fr=q then c.am else 0:=by
 have d:wX cs q=wX (cs.take k) q++wX (cs.drop k) q:=by unfold wX;rw[<-List.filter_append,List.take_append_drop]
 rw[d]
 unfold uD wX
 rw[List.filter_append,List.filter_cons,lS,lS]
 split
 ·rename_i e;rw[if_pos (by simpa using e),nW];omega
 ·rename_i e;rw[if_neg (by simpa using e)];omega
theorem aan (h:cs.Pairwise Bw)(hc:c∈cs)(q:Int):jT (wX (rX cs c.fr c.id) q)=jT (wX cs q)-if c.fr=q then c.am else 0:=by
 obtain⟨a,b,e1,e2⟩:=zR h hc
 rw[e2,e1]
 unfold wX
 rw[List.filter_append,List.filter_append,List.filter_cons,lS,lS]
 split
 ·rename_i e;rw[if_pos (by simpa using e),nW];omega
 ·rename_i e;rw[if_neg (by simpa using e)];omega
theorem Wz (h:cs.Pairwise Bw)(hc:c∈cs):jT (rX cs c.fr c.id)=jT cs-c.am:=by
 obtain⟨a,b,e1,e2⟩:=zR h hc
 rw[e2,e1,lS,lS,nW];omega
structure WA (op:Int)(s:ny)(c:mF):Prop where
 fine:E5 c
 new:pW s.cs c.fr c.id=none
 len:s.cs.length<16
 ae8:c.am<=s.h c.fr
 pays:lF s.rt (s.cs.length+1)<=if op=c.fr then s.h op-c.am else s.h op
theorem TH (h:kz Dp op s)(hop:0<=op/\op<=1)(ha:WA op s c){k:Nat}(hp:Ns s.cs c k):kz Dp op (lq s c k):=by
 have hs:=h.tot
 have hf:=ha.fine
 have hfa:=hf.2.2.1
 have hfu:=ha.ae8
 obtain⟨k1,k2,f⟩:=Gc {s with cs:=uD s.cs c k} c.fr (s.h c.fr-c.am)
 obtain⟨l,m⟩:=yN {s with cs:=uD s.cs c k} (s.h c.fr-c.am) hf.1
 have k0:∀i,({s with cs:=uD s.cs c k}:ny).h i=s.h i:=fun i=>rfl
 rw[k0]at l
 dsimp only at l
 have hsum:jT (uD s.cs c k)=jT s.cs+c.am:=Nu k
 have hj:∀j,0<=j/\j<=1->(lq s c k).h j<=s.h j/\0<=(lq s c k).h j/\(lq s c k).h j=if j=c.fr then s.h c.fr-c.am else s.h j:=fun j hj=>by
  have:=m j hj
  have hB:=h.hB j
  have e:(lq s c k).h j=if j=c.fr then s.h c.fr-c.am else s.h j:=by unfold lq;rw[this,k0]
  rw[e]
  refine⟨?_,?_,rfl⟩
  ·split
   ·rename_i e;subst e;omega
   ·exact Int.le_refl _
  ·split
   ·omega
   ·exact hB.1
 have o:=hj 0 ⟨Int.le_refl _,by omega⟩
 have t:=hj 1 ⟨by omega,Int.le_refl _⟩
 have u:(lq s c k).h 0=(lq s c k).h0:=Z
 have e1:(lq s c k).h 1=(lq s c k).h1:=Z
 have v:s.h 0=s.h0:=Z
 have x:s.h 1=s.h1:=Z
 have y:=h.Vq
 have A:=h.Vr
 have k4':(lq s c k).h0+(lq s c k).h1=s.h0+s.h1-c.am:=by unfold lq;omega
 have kc:(lq s c k).cs=uD s.cs c k:=by unfold lq;exact k2
 refine⟨by unfold lq;rw[k1];exact h.wY,by omega,by omega,by unfold lq;rw[f];exact h.Wy,by rw[kc,Nt hp.le];exact ha.len,fun d hd=>?_,by rw[kc];exact Nv h.ord hp ha.new,by rw[kc,hsum];omega,h.top,?_⟩
 ·rw[kc]at hd
  rcases Cm.1 hd with rfl|hd
  ·exact hf
  ·exact h.fine d hd
 ·rw[kc,Nt hp.le,(hj op hop).2.2]
  have n:(lq s c k).rt=s.rt:=by unfold lq;exact f
  rw[n]
  have:=ha.pays
  split
  ·rename_i e;rw[if_pos e]at this;rw[<-e];exact this
  ·rename_i e;rw[if_neg e]at this;exact this
structure qE (s:ny)(L:rP):Prop where
 own:L.own=[0,0]
 ls:∃b,L.ls=[(b,0,⟨0,0,1,s.h0,s.h1⟩)]
 lost:L.lost=0
 get:∀side id,iO (⟨0,side,id⟩:kI) L.lh=(pW s.cs side id).map (fun c=>(⟨c.am,c.pt⟩:yz))
 held:∀k,jA L.lh 0 k=jT (wX s.cs k)
 all:vw L.lh=jT s.cs
variable {L:rP}
theorem qE.seat (h:qE s L):iO 0 L.ls=some ⟨0,0,1,s.h0,s.h1⟩:=by
 obtain⟨b,e⟩:=h.ls
 rw[e,DF,if_pos Z]
theorem ae9 (s:ny){i:Int}(hi:0<=i/\i<=1):(⟨0,0,1,s.h0,s.h1⟩:Seat).h i.toNat=s.h i:=by
 have:i=0\/i=1:=by omega
 rcases this with rfl|rfl<;>rfl
theorem JR (s:ny){i:Int}(hi:0<=i/\i<=1)(v:Int):(⟨0,0,1,s.h0,s.h1⟩:Seat).setH i.toNat v=⟨0,0,1,(s.setH i v).h0,(s.setH i v).h1⟩:=by
 have:i=0\/i=1:=by omega
 rcases this with rfl|rfl<;>rfl
theorem Rp {b:Nat}{t u:Seat}:oJ (0:Int) u [(b,(0:Int),t)]=[(b,0,u)]:=by simp[oJ]
theorem aao {a b:Int}(no rt:Int)(h0:0<=a/\a<=1125899906842624)(h1:0<=b/\b<=1125899906842624):(pE ⟨[a,b],[],0,[],0,0⟩ ⟨0,0,1,a,b⟩ 0).2=0/\qE ⟨no,a,b,[],rt⟩ (pE ⟨[a,b],[],0,[],0,0⟩ ⟨0,0,1,a,b⟩ 0).1:=by
 have hm:yM ([a,b]:List Int).length ⟨0,0,1,a,b⟩/\(0:Int)<=0/\(0:Int)<=1125899906842624:=by
  unfold yM
  simp only[List.length_cons,List.length_nil]
  omega
 unfold pE
 rw[if_neg (fun h=>h hm),if_neg (by simp[yZ]),if_neg (by simp)]
 refine⟨rfl,?_,⟨0,rfl⟩,rfl,fun side id=>by simp[yZ,pW],fun k=>rfl,rfl⟩
 simp[rf,Seat.p]
theorem qE.offer (h:qE s L)(hr:kz Dp op s)(hg:jB L)(ha:WA op s c){k:Nat}(hp:Ns s.cs c k):(nI L 0 c.fr c.id c.am c.pt).2=0/\qE (lq s c k) (nI L 0 c.fr c.id c.am c.pt).1:=by
 have hf:=ha.fine
 have ho:zL c.fr c.id c.am c.pt:=⟨hf.1,hf.2.1.1,hf.2.2.1,hf.2.2.2.2.2,hf.2.2.2.2.1⟩
 have hn:iO (⟨0,c.fr,c.id⟩:kI) L.lh=none:=by rw[h.get,ha.new];rfl
 obtain⟨b,els⟩:=h.ls
 unfold nI
 rw[if_neg (fun q=>q ho),h.seat]
 simp only
 rw[hn,if_neg (by simp),ae9 s hf.1,if_neg (by have:=ha.ae8;omega)]
 obtain⟨k1,k2,d⟩:=Gc {s with cs:=uD s.cs c k} c.fr (s.h c.fr-c.am)
 have kc:(lq s c k).cs=uD s.cs c k:=by unfold lq;exact k2
 refine⟨rfl,h.own,⟨b,?_⟩,h.lost,fun side id=>?_,fun q=>?_,?_⟩
 ·rw[els,Rp,JR s hf.1]
  have e:∀i v,(({s with cs:=uD s.cs c k}:ny).setH i v).h0=(s.setH i v).h0/\(({s with cs:=uD s.cs c k}:ny).setH i v).h1=(s.setH i v).h1:=fun i v=>by unfold ny.setH;split<;>exact⟨rfl,rfl⟩
  unfold lq
  rw[(e _ _).1,(e _ _).2]
 ·rw[zP hn,kc,TF hr.ord hp ha.new,h.get]
  have:((⟨0,side,id⟩:kI)=⟨0,c.fr,c.id⟩)↔(c.fr=side/\c.id=id):=by
   rw[kI.mk.injEq]
   exact⟨fun q=>⟨q.2.1.symm,q.2.2.symm⟩,fun q=>⟨rfl,q.1.symm,q.2.symm⟩⟩
  by_cases e:c.fr=side/\c.id=id
  ·rw[if_pos (this.2 e),if_pos e];rfl
  ·rw[if_neg (fun q=>e (this.1 q)),if_neg e]
 ·show j6 _ _=_
  rw[Ho,y5,kc,aam]
  have:=h.held q
  unfold jA at this
  rw[this]
  unfold oo
  simp
 ·rw[Nj,kc,Nu,h.all]
theorem qE.end_ (h:qE s L)(hr:kz Dp op s)(hg:jB L)(hc:c∈s.cs){to:Int}(ht:0<=to/\to<=1):qE (qD s c to) (Nc L 0 c.fr c.id ⟨c.am,c.pt⟩ ⟨0,0,1,s.h0,s.h1⟩ to):=by
 have hf:=wZ hr.ord hc
 have hx:iO (⟨0,c.fr,c.id⟩:kI) L.lh=some ⟨c.am,c.pt⟩:=by rw[h.get,hf];rfl
 obtain⟨b,els⟩:=h.ls
 obtain⟨k1,k2,d⟩:=Gc {s with cs:=rX s.cs c.fr c.id} to (s.h to+c.am)
 have kc:(qD s c to).cs=rX s.cs c.fr c.id:=by unfold qD;exact k2
 unfold Nc
 refine⟨h.own,⟨b,?_⟩,h.lost,fun side id=>?_,fun q=>?_,?_⟩
 ·simp only
  rw[els,Rp,ae9 s ht,JR s ht]
  have e:∀i v,(({s with cs:=rX s.cs c.fr c.id}:ny).setH i v).h0=(s.setH i v).h0/\(({s with cs:=rX s.cs c.fr c.id}:ny).setH i v).h1=(s.setH i v).h1:=fun i v=>by unfold ny.setH;split<;>exact⟨rfl,rfl⟩
  unfold qD
  rw[(e _ _).1,(e _ _).2]
 ·simp only
  rw[aai,kc,TG hr.ord hc,h.get]
  have:((⟨0,c.fr,c.id⟩:kI)=⟨0,side,id⟩)↔(c.fr=side/\c.id=id):=by rw[kI.mk.injEq];exact⟨fun q=>q.2,fun q=>⟨rfl,q⟩⟩
  by_cases e:c.fr=side/\c.id=id
  ·rw[if_pos e]
   first|rw[if_pos (this.2 e)];rfl|(rw[if_pos (this.2 e).symm];rfl)
  ·rw[if_neg e]
   first|rw[if_neg (fun q=>e (this.1 q))]|rw[if_neg (fun q=>e (this.1 q.symm))]
 ·show j6 _ _=_
  have hk:=wV (f:=oo 0 q) hg.hkeys hx
  rw[hk,kc,aan hr.ord hc]
  have:=h.held q
  unfold jA at this
  rw[this]
  unfold oo
  simp
 ·show j6 _ _=_
  have hk:=wV (f:=fun _ (h:yz)=>h.am) hg.hkeys hx
  rw[hk,kc,Wz hr.ord hc]
  have:=h.all
  unfold vw at this
  rw[this]
def TI (s:ny)(fr id:Int)(sec:Nat):Int:=match pW s.cs fr id with
 |none=>5
 |some c=>if base sec≠c.pt then 23 else 0
def JS (s:ny)(fr id:Int):Int:=match pW s.cs fr id with
 |none=>5
 |some _=>0
theorem qE.settle (h:qE s L)(hr:kz Dp op s)(hg:jB L)(hfr:0<=fr/\fr<=1)(sec:Nat):(lZ L 0 fr id sec).2=TI s fr id sec/\(TI s fr id sec=0->∃c,pW s.cs fr id=some c/\qE (qD s c (1-fr)) (lZ L 0 fr id sec).1)/\(TI s fr id sec≠0->(lZ L 0 fr id sec).1=L):=by
 unfold lZ TI
 rw[h.get]
 cases hf:pW s.cs fr id with
 |none=>exact⟨rfl,fun q=>absurd (show(5:Int)=0 from q) (by decide),fun _=>rfl⟩
 |some c=>
  obtain⟨d,f,i⟩:=Ck hf
  dsimp only[Option.map_some]
  by_cases e:base sec≠c.pt
  ·rw[if_pos e,if_pos e]
   exact⟨rfl,fun q=>absurd (show(23:Int)=0 from q) (by decide),fun _=>rfl⟩
  ·rw[if_neg e,if_neg e]
   refine⟨rfl,fun _=>⟨c,rfl,?_⟩,fun q=>absurd Z q⟩
   have:=h.end_ hr hg d (to:=1-fr) (by omega)
   rw[f,i]at this
   rw[h.seat]
   exact this
theorem qE.fail (h:qE s L)(hr:kz Dp op s)(hg:jB L)(hfr:0<=fr/\fr<=1):(um L 0 fr id).2=JS s fr id/\(JS s fr id=0->∃c,pW s.cs fr id=some c/\qE (qD s c fr) (um L 0 fr id).1)/\(JS s fr id≠0->(um L 0 fr id).1=L):=by
 unfold um JS
 rw[h.get]
 cases hf:pW s.cs fr id with
 |none=>exact⟨rfl,fun q=>absurd (show(5:Int)=0 from q) (by decide),fun _=>rfl⟩
 |some c=>
  obtain⟨d,e,f⟩:=Ck hf
  dsimp only[Option.map_some]
  refine⟨rfl,fun _=>⟨c,rfl,?_⟩,fun q=>absurd Z q⟩
  have:=h.end_ hr hg d (to:=fr) hfr
  rw[e,f]at this
  rw[h.seat]
  exact this
theorem qE.worth (h:qE s L){i:Int}(hi:0<=i/\i<=1):mG L.own L.ls L.lh i=s.h i+jT (wX s.cs i):=by
 obtain⟨b,els⟩:=h.ls
 have:i=0\/i=1:=by omega
 unfold mG
 rw[h.own,els,y5]
 unfold l8
 rw[h.held 0,h.held 1]
 rcases this with rfl|rfl
 ·simp[uN,ny.h]
 ·simp[uN,ny.h]
theorem qE.total (h:qE s L):L.all-L.lost=s.h0+s.h1+jT s.cs:=by
 obtain⟨b,els⟩:=h.ls
 unfold rP.all Hq
 rw[h.own,els,y5,h.all]
 simp<;>omega
theorem qE.seen (h:qE s L):rW L.ls 0=⟨0,0,1,s.h0,s.h1⟩/\(iO 0 L.ls).isSome=true:=by
 unfold rW
 rw[h.seat]
 exact⟨rfl,rfl⟩
end Go.JQ
namespace Go.Lsp
set_option linter.unusedSectionVars false
open Go.Gz Go.Num Go.Sx
theorem DI:∀(n:Nat) (l:List Int),l.Nodup->(∀x∈l,0<=x/\x<n)->l.length<=n
 |0,l,hn,hb=>by
  cases l with
  |nil=>simp
  |cons x l=>have:=hb x List.mem_cons_self;omega
 |n+1,l,hn,hb=>by
  by_cases h:(n:Int)∈l
  ·have:=DI n (l.erase (n:Int)) (hn.erase _) fun x hx=>by
    have c:=(hn.mem_erase_iff).1 hx
    have d:=hb x c.2
    have:=c.1
    omega
   rw[List.length_erase_of_mem h]at this
   omega
  ·have:=DI n l hn fun x hx=>by
    have d:=hb x hx
    have:x≠(n:Int):=fun e=>h (by rw[<-e];exact hx)
    omega
   omega
def PT (x:Int):List Int->List Int
 |[]=>[x]
 |y::l=>if x<=y then x::y::l else y::PT x l
def WB:List Int->List Int
 |[]=>[]
 |x::l=>PT x (WB l)
theorem DJ (x:Int):∀l:List Int,(PT x l).Perm (x::l)
 |[]=> .refl _
 |y::l=>by
  unfold PT
  split
  ·exact .refl _
  ·exact((DJ x l).cons y).trans (.swap x y l)
theorem DK:∀l:List Int,(WB l).Perm l
 |[]=> .refl _
 |x::l=>(DJ x _).trans ((DK l).cons x)
theorem Nw (x:Int):∀l:List Int,l.Pairwise (· <= ·)->(PT x l).Pairwise (· <= ·)
 |[],_=>by simp[PT]
 |y::l,h=>by
  have h2:=List.pairwise_cons.1 h
  unfold PT
  split
  ·rename_i hxy
   refine List.pairwise_cons.2 ⟨fun z hz=>?_,h⟩
   rcases List.mem_cons.1 hz with rfl|hz
   ·exact hxy
   ·exact Int.le_trans hxy (h2.1 z hz)
  ·rename_i hxy
   refine List.pairwise_cons.2 ⟨fun z hz=>?_,Nw x l h2.2⟩
   rcases List.mem_cons.1 ((DJ x l).mem_iff.1 hz)with rfl|hz
   ·omega
   ·exact h2.1 z hz
theorem Ny:∀l:List Int,(WB l).Pairwise (· <= ·)
 |[]=> .nil
 |x::l=>Nw x _ (Ny l)
theorem Nz:∀{a b:List Int},a.Perm b->a.Pairwise (· <= ·)->b.Pairwise (· <= ·)->a=b
 |[],b,h,_,_=>(List.nil_perm.1 h).symm
 |x::a,[],h,_,_=>by have:=h.length_eq;simp at this
 |x::a,y::b,h,h1,h2=>by
  have f:=List.pairwise_cons.1 h1
  have i:=List.pairwise_cons.1 h2
  have e:x=y:=by
   have c:x∈y::b:=h.mem_iff.1 List.mem_cons_self
   have d:y∈x::a:=h.mem_iff.2 List.mem_cons_self
   have j:y<=x:=by
    rcases List.mem_cons.1 c with rfl|c
    ·exact Int.le_refl _
    ·exact i.1 x c
   have k:x<=y:=by
    rcases List.mem_cons.1 d with rfl|d
    ·exact Int.le_refl _
    ·exact f.1 y d
   omega
  subst e
  rw[Nz (List.perm_cons x|>.1 h) f.2 i.2]
def DL (ls:SM):List Seat:=(WB (nK ls)).map (rW ls)
theorem HV (ls:SM):(DL ls).length=ls.length:=by
 unfold DL nK
 rw[List.length_map,(DK _).length_eq,List.length_map]
section
variable {s:rP}
theorem jB.few (h:jB s):s.ls.length<=40:=by
 have:=DI 40 (nK s.ls) h.keys fun x hx=>by
  unfold nK at hx
  obtain⟨y,hy,rfl⟩:=List.mem_map.1 hx
  exact(h.seats y hy).2.1
 unfold nK at this
 rwa [List.length_map]at this
end
end Go.Lsp
namespace Go.E8
open Go.Gz Go.Num Go.Lsp Go.JQ Go.Sx
structure kT where
 kd:Nat
 c:mF
 sec:Nat
def iJ:kT:=⟨0,ag,0⟩
def iG (l:List kT):List mF:=(l.filter fun u=>decide (u.kd=1)).map (·.c)
def mQ (l:List kT)(id:Int):Nat:=l.foldl (fun s u=>if u.kd≠1/\u.c.id=id then u.kd else s) 0
def kP (a b:List kT)(p:Nat->Bool):List mF:=(iG a).filter fun c=>p (mQ b c.id)
def DN (k:Nat):Bool:=decide (k=0)
def Jk (k:Nat):Bool:= !decide (k=3)
def rG (k:Nat):Bool:=decide (k=2)
def nM (a b:List kT):List mF:=kP a b DN
def AJ (a b:List kT):Int:=jT (kP a b Jk)
def AL (a b:List kT):Int:=jT (kP a b rG)
def WE (no:Int)(f:ny)(a b:List kT):ny:=⟨no,f.h0-AJ a b+AL b a,f.h1-AJ b a+AL a b,nM a b++nM b a,f.rt⟩
variable {a b:List kT}{u:kT}{c:mF}{id:Int}{p:Nat->Bool}
theorem NA:iG (a++b)=iG a++iG b:=by simp[iG]
theorem uU (h:u.kd=1):iG (a++[u])=iG a++[u.c]:=by rw[NA];simp[iG,h]
theorem uV (h:u.kd≠1):iG (a++[u])=iG a:=by rw[NA];simp[iG,h]
theorem NB:mQ (a++[u]) id=if u.kd≠1/\u.c.id=id then u.kd else mQ a id:=by simp[mQ,List.foldl_append]
theorem NC (h:u.kd=1):mQ (a++[u]) id=mQ a id:=by rw[NB,if_neg (fun k=>k.1 h)]
theorem ND (h:∀u∈a,u.kd≠1->u.c.id≠id):mQ a id=0:=by
 have key:∀(l:List kT) (k:Nat),(∀u∈l,u.kd≠1->u.c.id≠id)->l.foldl (fun s u=>if u.kd≠1/\u.c.id=id then u.kd else s) k=k:=by
  intro l
  induction l with
  |nil=>intro k _;rfl
  |cons x l ih=>intro k hl;rw[List.foldl_cons,if_neg (fun q=>hl x (by simp) q.1 q.2)];exact ih k fun u hu=>hl u (by simp[hu])
 exact key a 0 h
structure pX (i:Int)(a b:List kT):Prop where
 kd:∀u∈a,u.kd=1\/u.kd=2\/u.kd=3
 ids:∀j,j<(iG a).length->((iG a).getD j ag).fr=i/\((iG a).getD j ag).id=(j:Int)+1
 fine:∀c∈iG a,E5 c/\c.am<=65536
 ends:∀u∈b,u.kd≠1->1<=u.c.id/\u.c.id<=(iG a).length
theorem pX.nil (i:Int):pX i [] []:=⟨(by intro u h;cases h),(by intro j h;cases h),(by intro c h;cases h),(by intro u h;cases h)⟩
variable {i:Int}
theorem pX.fr (h:pX i a b)(hc:c∈iG a):c.fr=i:=by
 obtain⟨j,hj,e⟩:=List.getElem_of_mem hc
 have:=(h.ids j hj).1
 simp[List.getD,hj]at this
 rw[<-e];exact this
theorem pX.ord (h:pX i a b):(iG a).Pairwise Bw:=by
 rw[List.pairwise_iff_getElem]
 intro j k hj hk hjk
 have c:=h.ids j hj
 have d:=h.ids k hk
 simp[List.getD,hj,hk]at c d
 unfold Bw
 omega
theorem pX.NF (h:pX i a b)(hc:c∈iG a):1<=c.id/\c.id<=(iG a).length:=by
 obtain⟨j,hj,e⟩:=List.getElem_of_mem hc
 have:=(h.ids j hj).2
 simp[List.getD,hj]at this
 rw[<-e];omega
theorem NG (hc:c∈kP a b p):c∈iG a/\p (mQ b c.id)=true:=List.mem_filter.1 hc
theorem NH (h:pX i a b)(hu:u.kd=1)(hid:u.c.id=(iG a).length+1):kP (a++[u]) b p=kP a b p++if p 0 then[u.c]else[]:=by
 unfold kP
 rw[uU hu,List.filter_append,List.filter_cons,ND (a:=b) fun v hv hk e=>by have:=h.ends v hv hk;omega]
 rfl
theorem JU (hu:u.kd=1):kP b (a++[u]) p=kP b a p:=by
 unfold kP
 simp only[NC hu]
theorem pX.add (h:pX i a b)(hu:u.kd=1)(hid:u.c.id=(iG a).length+1)(hfr:u.c.fr=i)(hf:E5 u.c/\u.c.am<=65536):pX i (a++[u]) b:=by
 refine⟨fun v hv=>?_,fun j hj=>?_,fun c hc=>?_,fun v hv hk=>?_⟩
 ·rcases List.mem_append.1 hv with q|q
  ·exact h.kd v q
  ·rw[List.mem_singleton.1 q];exact .inl hu
 ·rw[uU hu]at hj ⊢
  simp only[List.length_append,List.length_cons,List.length_nil]at hj
  by_cases e:j<(iG a).length
  ·have:=h.ids j e
   simp only[List.getD,List.getElem?_append_left e]at this ⊢
   exact this
  ·have e2:j=(iG a).length:=by omega
   subst e2
   simp[hfr,hid]
 ·rw[uU hu]at hc
  rcases List.mem_append.1 hc with q|q
  ·exact h.fine c q
  ·rw[List.mem_singleton.1 q];exact hf
 ·have:=h.ends v hv hk
  rw[uU hu]
  simp only[List.length_append,List.length_cons,List.length_nil]
  omega
theorem pX.ahm (h:pX i b a)(hu:u.kd=1):pX i b (a++[u]):=⟨h.kd,h.ids,h.fine,fun v hv hk=>by
 rcases List.mem_append.1 hv with q|q
 ·exact h.ends v q hk
 ·rw[List.mem_singleton.1 q]at hk;exact absurd hu hk⟩
theorem TJ (hu:u.kd≠1):kP (b++[u]) a p=kP b a p:=by unfold kP;rw[uV hu]
variable {l:List mF}
theorem TK (h:l.Pairwise Bw)(hfr:∀d∈l,d.fr=i)(hc:c∈l){f g:mF->Bool}(hg:∀d∈l,d.id≠c.id->g d=f d):jT (l.filter g)=jT (l.filter f)-(if f c then c.am else 0)+(if g c then c.am else 0)/\(f c=true->g c=false->l.filter g=rX (l.filter f) c.fr c.id):=by
 obtain⟨x,y,rfl,e⟩:=zR h hc
 have hne:∀d∈x++y,d.id≠c.id:=fun d hd he=>by
  have hd':=hd
  rw[<-e]at hd'
  have:=(List.mem_filter.1 hd').2
  have j:=hfr d (by rcases List.mem_append.1 hd with q|q<;>simp[q])
  have k:=hfr c hc
  simp[TD,j,k,he]at this
 have ex:x.filter g=x.filter f:=List.filter_congr fun d hd=>hg d (by simp[hd]) (hne d (by simp[hd]))
 have ey:y.filter g=y.filter f:=List.filter_congr fun d hd=>hg d (by simp[hd]) (hne d (by simp[hd]))
 refine⟨?_,fun j k=>?_⟩
 ·rw[List.filter_append,List.filter_append,List.filter_cons,List.filter_cons,ex,ey]
  cases f c<;>cases g c<;>simp[lS,nW]<;>omega
 ·rw[List.filter_append,List.filter_append,List.filter_cons,List.filter_cons,ex,ey,j,k]
  have hz:∀z:List mF,(∀d∈z,d.id≠c.id)->rX z c.fr c.id=z:=fun z hz=>List.filter_eq_self.2 fun d hd=>by simp[TD,hz d hd]
  have hcc:TD c.fr c.id c=true:=by simp[TD]
  have m:=hz (x.filter f) fun d hd=>hne d (by simp[(List.mem_filter.1 hd).1])
  have n:=hz (y.filter f) fun d hd=>hne d (by simp[(List.mem_filter.1 hd).1])
  unfold rX at m n ⊢
  simp only[if_true,List.filter_append,List.filter_cons,hcc,Bool.not_true,m,n,Bool.false_eq_true,if_false]
theorem Co (hu:u.kd≠1):mQ (b++[u]) id=if u.c.id=id then u.kd else mQ b id:=by
 rw[NB]
 by_cases e:u.c.id=id
 ·rw[if_pos ⟨hu,e⟩,if_pos e]
 ·rw[if_neg (fun k=>e k.2),if_neg e]
theorem WG (h:pX i a b)(hu:u.kd≠1)(hc:c∈iG a)(hid:u.c.id=c.id)(hs:mQ b c.id=0):jT (kP a (b++[u]) p)=jT (kP a b p)-(if p 0 then c.am else 0)+(if p u.kd then c.am else 0)/\(p 0=true->p u.kd=false->kP a (b++[u]) p=rX (kP a b p) c.fr c.id):=by
 have:=TK h.ord (fun d hd=>h.fr hd) hc (f:=fun d=>p (mQ b d.id)) (g:=fun d=>p (mQ (b++[u]) d.id)) (fun d hd hne=>by rw[Co hu,if_neg (by omega)])
 simp only[hs,Co hu,if_pos hid]at this
 unfold kP
 simp only[Co hu]
 exact this
theorem pX.end_ (h:pX i a b)(hk:u.kd≠1)(hid:1<=u.c.id/\u.c.id<=(iG a).length):pX i a (b++[u]):=⟨h.kd,h.ids,h.fine,fun v hv hk'=>by
 rcases List.mem_append.1 hv with q|q
 ·exact h.ends v q hk'
 ·rw[List.mem_singleton.1 q];exact hid⟩
theorem pX.end' (h:pX i b a)(hk:u.kd=2\/u.kd=3):pX i (b++[u]) a:=by
 have hu:u.kd≠1:=by omega
 refine⟨fun v hv=>?_,?_,?_,?_⟩
 ·rcases List.mem_append.1 hv with q|q
  ·exact h.kd v q
  ·rw[List.mem_singleton.1 q];omega
 ·rw[uV hu];exact h.ids
 ·rw[uV hu];exact h.fine
 ·rw[uV hu];exact h.ends
structure Bz where
 c:mF
 at_:Nat
 en:Nat
 how:kT
def iE:Bz:=⟨ag,0,0,iJ⟩
structure xc (rs:List Bz)(a:List kT)(m k:Nat):Prop where
 len:rs.length=(iG (a.take k)).length
 row:∀j,j<rs.length->(rs.getD j iE).c=(iG (a.take k)).getD j ag/\(rs.getD j iE).at_<k/\(rs.getD j iE).en=m/\(rs.getD j iE).how=iJ
structure y9 (rs:List Bz)(a b:List kT)(i:Nat):Prop where
 len:rs.length=(iG a).length
 row:∀j,j<rs.length->((rs.getD j iE).c=(iG a).getD j ag/\(rs.getD j iE).at_<a.length)/\(rs.getD j iE).how.kd=mQ (b.take i) ((iG a).getD j ag).id/\(if mQ (b.take i) ((iG a).getD j ag).id=0 then(rs.getD j iE).en=b.length else(rs.getD j iE).en<i)
variable {α:Type}{j:Nat}{x:α}
theorem NI {l:List α}{z:α}:(l++[x]).getD j z=if j<l.length then l.getD j z else if j=l.length then x else z:=by
 simp only[List.getD_eq_getElem?_getD]
 by_cases h:j<l.length
 ·rw[if_pos h,List.getElem?_append_left h]
 ·rw[if_neg h]
  by_cases e:j=l.length
  ·subst e;rw[if_pos Z];simp
  ·rw[if_neg e,List.getElem?_eq_none (by simp;omega)];rfl
variable {k:Nat}
theorem Gf {l:List kT}(h:k<l.length):l.take (k+1)=l.take k++[l.getD k iJ]:=by rw[List.take_add_one];simp[List.getD,h]
theorem DR {l:List α}{i:Nat}{z:α}(h:i<l.length):(l.set i x).getD j z=if j=i then x else l.getD j z:=by
 simp only[List.getD_eq_getElem?_getD,List.getElem?_set]
 by_cases e:i=j
 ·subst e;simp[h]
 ·rw[if_neg e,if_neg (fun q=>e q.symm)]
theorem xc.nil (a:List kT)(m:Nat):xc [] a m 0:=⟨by simp[iG],fun j h=>absurd h (Nat.not_lt_zero _)⟩
variable {rs:List Bz}{m:Nat}
theorem xc.add (h:xc rs a m k)(hk:k<a.length)(h1:(a.getD k iJ).kd=1):xc (rs++[⟨(a.getD k iJ).c,k,m,iJ⟩]) a m (k+1):=by
 have e:iG (a.take (k+1))=iG (a.take k)++[(a.getD k iJ).c]:=by rw[Gf hk,uU h1]
 refine⟨by rw[e,List.length_append,List.length_append,h.len];rfl,fun j hj=>?_⟩
 rw[e,NI,NI,<-h.len]
 rw[List.length_append]at hj
 simp only[List.length_cons,List.length_nil]at hj
 by_cases hjl:j<rs.length
 ·rw[if_pos hjl,if_pos hjl]
  obtain⟨d,i,f⟩:=h.row j hjl
  exact⟨d,by omega,f⟩
 ·rw[if_neg hjl,if_pos (by omega),if_neg hjl,if_pos (by omega)]
  exact⟨rfl,Nat.lt_succ_self k,rfl,rfl⟩
theorem xc.skip (h:xc rs a m k)(hk:k<a.length)(h1:(a.getD k iJ).kd≠1):xc rs a m (k+1):=by
 have e:iG (a.take (k+1))=iG (a.take k):=by rw[Gf hk,uV h1]
 refine⟨by rw[e];exact h.len,fun j hj=>?_⟩
 rw[e]
 obtain⟨c,f,d⟩:=h.row j hj
 exact⟨c,by omega,d⟩
theorem xc.all (h:xc rs a b.length a.length):y9 rs a b 0:=by
 have hl:=h.len
 have hr:=h.row
 rw[List.take_length]at hl hr
 refine⟨hl,fun j hj=>?_⟩
 obtain⟨c,d,e,f⟩:=hr j hj
 exact⟨⟨c,d⟩,by rw[f];rfl,by rw[if_pos (by rfl)];exact e⟩
variable {a b:List kT}{rs:List Bz}{i k:Nat}{fr:Int}
theorem y9.skip (h:y9 rs a b i)(hi:i<b.length)(h1:(b.getD i iJ).kd=1):y9 rs a b (i+1):=by
 refine⟨h.len,fun j hj=>?_⟩
 obtain⟨d,f,c⟩:=h.row j hj
 rw[Gf hi,NC h1]
 refine⟨d,f,?_⟩
 split at c
 ·rename_i e;rw[if_pos e];exact c
 ·rename_i e;rw[if_neg e];omega
theorem y9.end_ (h:y9 rs a b i)(hg:pX fr a b)(hi:i<b.length)(h1:(b.getD i iJ).kd≠1)(hn:(b.getD i iJ).kd≠0){q:Nat}(hq:(q:Int)=(b.getD i iJ).c.id-1)(hql:q<rs.length){r:Bz}(hr:r=⟨(rs.getD q iE).c,(rs.getD q iE).at_,i,b.getD i iJ⟩):y9 (rs.set q r) a b (i+1):=by
 refine⟨by rw[List.length_set];exact h.len,fun j hj=>?_⟩
 rw[List.length_set]at hj
 obtain⟨d,k,f⟩:=h.row j hj
 have hid:=(hg.ids j (by rw[<-h.len];exact hj)).2
 rw[DR hql,Gf hi,Co h1]
 by_cases e:j=q
 ·subst e
  rw[if_pos Z,if_pos (by omega),hr]
  exact⟨d,rfl,by rw[if_neg hn];exact Nat.lt_succ_self i⟩
 ·rw[if_neg e,if_neg (by omega)]
  refine⟨d,k,?_⟩
  split at f
  ·rename_i e;rw[if_pos e];exact f
  ·rename_i e;rw[if_neg e];omega
structure yo (rs:List Bz)(a b:List kT):Prop where
 len:rs.length=(iG a).length
 row:∀j,j<rs.length->((rs.getD j iE).c=(iG a).getD j ag/\(rs.getD j iE).at_<a.length)/\(rs.getD j iE).how.kd=mQ b (rs.getD j iE).c.id/\(mQ b (rs.getD j iE).c.id=0↔b.length<=(rs.getD j iE).en)
theorem y9.all (h:y9 rs a b b.length):yo rs a b:=by
 have hr:=h.row
 rw[List.take_length]at hr
 refine⟨h.len,fun j hj=>?_⟩
 obtain⟨c,d,f⟩:=hr j hj
 rw[c.1]
 refine⟨⟨rfl,c.2⟩,d,?_⟩
 split at f
 ·rename_i e;exact⟨fun _=>by omega,fun _=>e⟩
 ·rename_i e;exact⟨fun q=>absurd q e,fun _=>by omega⟩
def xe (p:Nat->Bool)(a b:List kT)(k:Nat):Int:=jT (((iG a).take k).filter fun c=>p (mQ b c.id))
theorem Rq (h:k<l.length):l.take (k+1)=l.take k++[l.getD k ag]:=by rw[List.take_add_one];simp[List.getD,h]
theorem yo.step (h:yo rs a b)(p:Nat->Bool)(hk:k<rs.length):xe p a b (k+1)=xe p a b k+if p (rs.getD k iE).how.kd then(rs.getD k iE).c.am else 0:=by
 obtain⟨d,e,f⟩:=h.row k hk
 unfold xe
 rw[Rq (by rw[<-h.len];exact hk),List.filter_append,lS,e,d.1,List.filter_cons]
 split
 ·simp[jT]
 ·rfl
theorem yo.DT (h:yo rs a b)(p:Nat->Bool)(hk:k<rs.length):((iG a).take (k+1)).filter (fun c=>p (mQ b c.id))=((iG a).take k).filter (fun c=>p (mQ b c.id))++if p (rs.getD k iE).how.kd then[(rs.getD k iE).c]else[]:=by
 obtain⟨d,e,f⟩:=h.row k hk
 rw[Rq (by rw[<-h.len];exact hk),List.filter_append,e,d.1,List.filter_cons]
 rfl
theorem Cq (p:Nat->Bool):xe p a b (iG a).length=jT (kP a b p):=by unfold xe kP;rw[List.take_length]
theorem HY:∀(l:List mF),(∀c∈l,1<=c.am/\c.am<=65536)->0<=jT l/\jT l<=65536*(l.length:Int)
 |[],_=>⟨by decide,by decide⟩
 |c::l,h=>by
  have h1:=HY l fun d hd=>h d (List.mem_cons_of_mem _ hd)
  have e:=h c List.mem_cons_self
  rw[nW,List.length_cons]
  omega
theorem pX.sum (h:pX fr a b)(p:Nat->Bool)(k:Nat):0<=xe p a b k/\xe p a b k<=65536*(k:Int):=by
 have:=HY (((iG a).take k).filter fun c=>p (mQ b c.id)) fun c hc=>by
  have hc:=List.mem_of_mem_take (List.mem_filter.1 hc).1
  have:=h.fine c hc
  exact⟨this.1.2.2.1.1,this.2⟩
 have d:=List.length_filter_le (fun c=>p (mQ b c.id)) ((iG a).take k)
 rw[List.length_take]at d
 unfold xe
 omega
theorem rY (a:List kT):(iG a).length<=a.length:=by unfold iG;rw[List.length_map];exact List.length_filter_le _ _
theorem yo.am (h:yo rs a b)(hg:pX fr a b)(hk:k<rs.length):(1<=(rs.getD k iE).c.am/\(rs.getD k iE).c.am<=65536)/\((rs.getD k iE).how.kd=0↔b.length<=(rs.getD k iE).en)/\(rs.getD k iE).at_<a.length:=by
 obtain⟨d,e,f⟩:=h.row k hk
 have hm:(rs.getD k iE).c∈iG a:=by
  rw[d.1]
  have hk':k<(iG a).length:=by rw[<-h.len];exact hk
  simp[List.getD,hk']
 have:=hg.fine _ hm
 exact⟨⟨this.1.2.2.1.1,this.2⟩,by rw[e];exact f,d.2⟩
theorem zT:xe p a b 0=0:=by simp[xe,jT]
theorem aap {l:List kT}(h:∀u∈l,u.kd=1\/u.kd=2\/u.kd=3)(id:Int):mQ l id=0\/mQ l id=2\/mQ l id=3:=by
 have key:∀(l:List kT) (s:Nat),(∀u∈l,u.kd=1\/u.kd=2\/u.kd=3)->(s=0\/s=2\/s=3)->(l.foldl (fun s u=>if u.kd≠1/\u.c.id=id then u.kd else s) s=0\/l.foldl (fun s u=>if u.kd≠1/\u.c.id=id then u.kd else s) s=2\/l.foldl (fun s u=>if u.kd≠1/\u.c.id=id then u.kd else s) s=3):=by
  intro l
  induction l with
  |nil=>intro s _ hs;exact hs
  |cons x l ih=>
   intro s hl hs
   rw[List.foldl_cons]
   refine ih _ (fun u hu=>hl u (by simp[hu])) ?_
   have:=hl x (by simp)
   split<;>omega
 exact key l 0 h (.inl Z)
section
variable {rs:List Bz}{a b:List kT}{k:Nat}{i j:Int}
theorem yo.out (h:yo rs a b)(hg:pX i a b)(hg2:pX j b a)(hk:k<rs.length):xe Jk a b (k+1)=xe Jk a b k+if b.length<=(rs.getD k iE).en\/(rs.getD k iE).how.kd=2 then(rs.getD k iE).c.am else 0:=by
 rw[h.step Jk hk]
 have f:=(h.am hg hk).2.1
 have d:=aap hg2.kd (rs.getD k iE).c.id
 rw[<-(h.row k hk).2.1]at d
 congr 1
 by_cases e:(rs.getD k iE).how.kd=3
 ·rw[Jk,decide_eq_true e,if_neg (by decide),if_neg (by omega)]
 ·rw[Jk,decide_eq_false e,if_pos (by decide),if_pos (by omega)]
theorem yo.got (h:yo rs a b)(hg:pX i a b)(hg2:pX j b a)(hk:k<rs.length):xe E8.rG a b (k+1)=xe E8.rG a b k+if¬b.length<=(rs.getD k iE).en/\(rs.getD k iE).how.kd=2 then(rs.getD k iE).c.am else 0:=by
 rw[h.step E8.rG hk]
 have d:=(h.am hg hk).2.1
 congr 1
 by_cases e:(rs.getD k iE).how.kd=2
 ·rw[E8.rG,decide_eq_true e,if_pos Z,if_pos (by omega)]
 ·rw[E8.rG,decide_eq_false e,if_neg (by decide),if_neg (by omega)]
end
structure Cut where
 no:Nat
 n:jw
def jO:Cut:=⟨0,qY⟩
end Go.E8
namespace Go.Lsp
def jw.put (d:jw)(j:Nat)(v:Int):jw:=if j=0 then⟨v,d.b⟩else⟨d.a,v⟩
end Go.Lsp
namespace Go.E8
open Go.Lsp
def Cut.put (c:Cut)(j:Nat)(v:Int):Cut:=⟨c.no,c.n.put j v⟩
end Go.E8
