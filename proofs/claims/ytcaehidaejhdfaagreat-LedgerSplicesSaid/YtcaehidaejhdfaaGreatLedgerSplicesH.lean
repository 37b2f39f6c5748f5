/- LedgerSplices: for every input the law answers true and leaves its arguments as they were. -/
import Derived.Test.YtcaehidaejhdfaaGreatLedgerSplicesG
import Derived.Maps.RangeRun
set_option linter.unusedVariables false
set_option linter.unusedSimpArgs false
namespace Go.Sx
set_option linter.unusedSectionVars false
open Go Go.RowKit
open Go.ChangeMaps (setBlock)
section
variable {κ β:Type}[DecidableEq κ]{kf:κ->Value}{vf:β->Value}
def mJ (kf:κ->Value)(vf:β->Value)(x:Nat×κ×β):MapEntry:={key:=kf x.2.1,val:=vf x.2.2,born:=x.1}
structure OP (l:List (Nat×κ×β))(clock:Nat):Prop where
  keys:(l.map fun x=>x.2.1).Nodup
  Ei:(l.map fun x=>x.1).Nodup
  old:∀x∈l,x.1<clock
def kH (w:World)(kf:κ->Value)(vf:β->Value)(g:Nat)(l:List (Nat×κ×β))(clock:Nat):Prop:=w.heap[g]? =some (.map (l.map (mJ kf vf)).toArray clock)/\OP l clock
def nz (key:κ):List (Nat×κ×β)->Nat->Option (Nat×β)
  |[],_=>none
  |x::l,i=>if key=x.2.1 then some (i,x.2.2)else nz key l (i+1)
def jW (key:κ)(l:List (Nat×κ×β)):Option β:=(nz key l 0).map (·.2)
theorem uy (key:κ):∀(l:List (Nat×κ×β)) (i:Nat),nz key l i=none↔∀x∈l,x.2.1≠key
  |[],_=>by simp[nz]
  |x::l,i=>by
    simp only[nz,List.mem_cons,forall_eq_or_imp]
    split
    · rename_i h;simp[h]
    · rename_i h;rw[uy key l (i+1)];exact⟨fun hh=>⟨fun he=>h he.symm,hh⟩,fun hh=>hh.2⟩
theorem uz (key:κ):∀(l:List (Nat×κ×β)) (i j:Nat) (u:β),nz key l i=some (j,u)->∃x,i<=j/\l[j-i]? =some x/\x.2.1=key/\x.2.2=u
  |[],_,_,_,h=>by simp[nz]at h
  |x::l,i,j,u,h=>by
    simp only[nz]at h
    split at h
    · rename_i hk
      injection h with h
      injection h with h1 h2
      subst h1 h2
      exact⟨x,Nat.le_refl _,by simp,hk.symm,rfl⟩
    · obtain⟨y,h1,h2,h3,h4⟩:=uz key l (i+1) j u h
      exact⟨y,by omega,by rw[show j-i=(j-(i+1))+1 by omega];simpa using h2,h3,h4⟩
theorem rf {key:κ}{l:List (Nat×κ×β)}:jW key l=none↔∀x∈l,x.2.1≠key:=by
  unfold jW
  rw[Option.map_eq_none_iff]
  exact uy key l 0
theorem Ej {key:κ}{l:List (Nat×κ×β)}{u:β}(h:jW key l=some u):∃j,nz key l 0=some (j,u):=by
  unfold jW at h
  cases hf:nz key l 0 with
  |none=>rw[hf]at h;cases h
  |some p=>rw[hf]at h;injection h with h;exact⟨p.1,by rw[<-h]⟩
theorem oQ {key:κ}{l:List (Nat×κ×β)}{u:β}(h:jW key l=some u):∃b,(b,key,u)∈l:=by
  obtain⟨j,hj⟩:=Ej h
  obtain⟨x,_,c,d,e⟩:=uz key l 0 j u hj
  exact⟨x.1,by rw[<-d,<-e];exact List.mem_of_getElem? c⟩
theorem tO (key:κ):∀(l:List (Nat×κ×β)),jW key l=(l.find? (fun x=>decide (x.2.1=key))).map (fun x=>x.2.2):=by
  have:∀(l:List (Nat×κ×β)) i,(nz key l i).map (·.2)=(l.find? (fun x=>decide (x.2.1=key))).map (fun x=>x.2.2):=by
    intro l
    induction l with
    |nil=>intro i;rfl
    |cons x l ih=>
      intro i
      simp only[nz,List.find?_cons]
      by_cases h:key=x.2.1
      · simp[h]
      · rw[if_neg h,ih];simp[show¬x.2.1=key from fun e=>h e.symm]
  exact fun l=>this l 0
theorem Em (key:κ):jW key ([]:List (Nat×κ×β))=none:=rfl
theorem ui {key k:κ}{l:List (Nat×κ×β)}{b:Nat}{u:β}(hn:jW k l=none):jW key (l++[(b,k,u)])=if key=k then some u else jW key l:=by
  rw[tO,tO,List.find?_append]
  by_cases h:key=k
  · subst h
    rw[if_pos rfl]
    have:l.find? (fun x=>decide (x.2.1=key))=none:=by
      rw[List.find?_eq_none];intro x hx;simpa using(rf.1 hn) x hx
    simp[this]
  · rw[if_neg h]
    simp[show¬k=key from fun e=>h e.symm]
theorem Pv {key k:κ}{l:List (Nat×κ×β)}:jW key (l.filter fun y=>decide (y.2.1≠k))=if key=k then none else jW key l:=by
  by_cases h:key=k
  · subst h
    rw[if_pos rfl,rf]
    intro x hx
    simpa using(List.mem_filter.1 hx).2
  · rw[if_neg h,tO,tO]
    congr 1
    induction l with
    |nil=>rfl
    |cons x l ih=>
      by_cases hx:x.2.1=k
      · rw[List.filter_cons,if_neg (by simpa using hx),ih,List.find?_cons]
        simp[show¬x.2.1=key from fun e=>h (e.symm.trans hx)]
      · rw[List.filter_cons,if_pos (by simpa using hx),List.find?_cons,List.find?_cons,ih]
theorem Jh {key k:κ}{u:β}:∀{l:List (Nat×κ×β)},(∃v,jW k l=some v)->jW key (l.map fun y=>if y.2.1=k then(y.1,k,u)else y)=if key=k then some u else jW key l:=by
  intro l hv
  rw[tO,tO,List.find?_map]
  have e:((fun x:Nat×κ×β=>decide (x.2.1=key))∘fun y:Nat×κ×β=>if y.2.1=k then(y.1,k,u)else y)=fun x=>decide (x.2.1=key):=by
    funext y
    simp only[Function.comp]
    split
    · rename_i h;simp[h]
    · rfl
  rw[e]
  by_cases h:key=k
  · subst h
    rw[if_pos rfl]
    obtain⟨v,hv⟩:=hv
    rw[tO]at hv
    cases hf:l.find? (fun x=>decide (x.2.1=key))with
    |none=>rw[hf]at hv;cases hv
    |some p=>
      have:=List.find?_some hf
      simp only[decide_eq_true_eq]at this
      simp[this]
  · rw[if_neg h]
    cases hf:l.find? (fun x=>decide (x.2.1=key))with
    |none=>rfl
    |some p=>
      have:=List.find?_some hf
      simp only[decide_eq_true_eq]at this
      simp[show¬p.2.1=k from fun e=>h (this.symm.trans e)]
theorem vV {α γ:Type}[DecidableEq γ](f:α->γ):∀(l:List α) (i:Nat) (x:α),(l.map f).Nodup->l[i]? =some x->l.eraseIdx i=l.filter fun y=>decide (f y≠f x)
  |[],_,_,_,h=>by simp at h
  |a::l,0,x,hn,h=>by
    simp at h
    subst h
    simp only[List.map_cons,List.nodup_cons]at hn
    simp only[List.eraseIdx_cons_zero,ne_eq,List.filter_cons,not_true_eq_false,decide_false,Bool.false_eq_true,if_false]
    rw[eq_comm,List.filter_eq_self]
    intro y hy
    simp
    intro he
    exact hn.1 (by rw[<-he];exact List.mem_map_of_mem hy)
  |a::l,i+1,x,hn,h=>by
    simp only[List.map_cons,List.nodup_cons]at hn
    have h':l[i]? =some x:=by simpa using h
    have ih:=vV f l i x hn.2 h'
    have hne:f a≠f x:=fun he=>hn.1 (by rw[he];exact List.mem_map_of_mem (List.mem_of_getElem? h'))
    rw[List.eraseIdx_cons_succ,ih,List.filter_cons,if_pos (by simpa using hne)]
theorem Cg {α γ:Type}(f:α->γ):∀(l:List α),(l.map f).Nodup->∀{a b:α},a∈l->b∈l->f a=f b->a=b
  |[],_,a,b,h,_,_=>by cases h
  |x::l,hn,a,b,ha,hb,he=>by
    simp only[List.map_cons,List.nodup_cons]at hn
    rcases List.mem_cons.1 ha with rfl|ha2<;>rcases List.mem_cons.1 hb with rfl|hb2
    · rfl
    · exact absurd (he▸List.mem_map_of_mem hb2) hn.1
    · exact absurd (he▸List.mem_map_of_mem ha2) hn.1
    · exact Cg f l hn.2 ha2 hb2 he
theorem En {α γ:Type}[DecidableEq γ](f:α->γ)(y:α):∀(l:List α) (i:Nat) (x:α),(l.map f).Nodup->l[i]? =some x->l.set i y=l.map fun z=>if f z=f x then y else z
  |[],_,_,_,h=>by simp at h
  |a::l,0,x,hn,h=>by
    simp at h
    subst h
    simp only[List.map_cons,List.nodup_cons]at hn
    simp only[List.set_cons_zero,List.map_cons,if_true]
    congr 1
    rw[eq_comm]
    have:l.map (fun z=>if f z=f a then y else z)=l.map id:=List.map_congr_left fun z hz=>by
      rw[if_neg (fun he=>hn.1 (by rw[<-he];exact List.mem_map_of_mem hz))];rfl
    rw[this,List.map_id]
  |a::l,i+1,x,hn,h=>by
    simp only[List.map_cons,List.nodup_cons]at hn
    have h':l[i]? =some x:=by simpa using h
    have hne:f a≠f x:=fun he=>hn.1 (by rw[he];exact List.mem_map_of_mem (List.mem_of_getElem? h'))
    rw[List.set_cons_succ,En f y l i x hn.2 h',List.map_cons,if_neg hne]
theorem OP.filter {l:List (Nat×κ×β)}{clock:Nat}(h:OP l clock)(p:Nat×κ×β->Bool):OP (l.filter p) clock:=
  ⟨h.keys.sublist (List.Sublist.map _ List.filter_sublist),h.Ei.sublist (List.Sublist.map _ List.filter_sublist),fun x hx=>h.old x (List.mem_filter.1 hx).1⟩
theorem OP.push {l:List (Nat×κ×β)}{clock:Nat}(h:OP l clock)(key:κ)(u:β)(hn:∀x∈l,x.2.1≠key):OP (l++[(clock,key,u)]) (clock+1):=by
  refine⟨?_,?_,?_⟩
  · rw[List.map_append,List.nodup_append]
    refine⟨h.keys,by simp,?_⟩
    intro a ha b hb
    obtain⟨x,hx,rfl⟩:=List.mem_map.1 ha
    simp at hb
    subst hb
    exact hn x hx
  · rw[List.map_append,List.nodup_append]
    refine⟨h.Ei,by simp,?_⟩
    intro a ha b hb
    obtain⟨x,hx,rfl⟩:=List.mem_map.1 ha
    simp at hb
    subst hb
    have:=h.old x hx
    omega
  · intro x hx
    rcases List.mem_append.1 hx with hx|hx
    · have:=h.old x hx;omega
    · simp at hx;subst hx;simp
theorem OP.set {l:List (Nat×κ×β)}{clock:Nat}(h:OP l clock)(k:κ)(u:β):OP (l.map fun y=>if y.2.1=k then(y.1,k,u)else y) clock:=by
  have e1:(l.map fun y=>if y.2.1=k then(y.1,k,u)else y).map (fun x=>x.2.1)=l.map fun x=>x.2.1:=by
    rw[List.map_map];apply List.map_congr_left;intro y _;simp only[Function.comp];split
    · rename_i he;exact he.symm
    · rfl
  have e2:(l.map fun y=>if y.2.1=k then(y.1,k,u)else y).map (fun x=>x.1)=l.map fun x=>x.1:=by
    rw[List.map_map];apply List.map_congr_left;intro y _;simp only[Function.comp];split<;>rfl
  refine⟨by rw[e1];exact h.keys,by rw[e2];exact h.Ei,fun x hx=>?_⟩
  obtain⟨y,hy,rfl⟩:=List.mem_map.1 hx
  have:=h.old y hy
  split<;>exact this
variable {P:Program}{env:Env}{n:Nat}{d:Option Nat}{T:TypeId}{p:String}{af:Array Edge}{g:Option (Nat×Bool)}{w w':World}{K:Value->World->Prop}
structure wP (P:Program)(kt:Nat)(kf:κ->Value):Prop where
  check:∀(b:Bool) (key:κ) (w:World),(Instr.checkKey b 10000 kt (kf key)).run P w= .ok () w
  find:∀(key:κ) (l:List (Nat×κ×Value)) (w:World),(Instr.findKey kt (kf key) (l.map (mJ kf id))).run P w= .ok (nz key l 0) w
theorem F3 (key:κ)(f:β->Value):∀(l:List (Nat×κ×β)) (i:Nat),nz key (l.map fun x=>(x.1,x.2.1,f x.2.2)) i=(nz key l i).map fun x=>(x.1,f x.2)
  |[],_=>rfl
  |x::l,i=>by
    simp only[List.map_cons,nz]
    split
    · rfl
    · exact F3 key f l (i+1)
theorem wP.get {kt:Nat}(h:wP P kt kf)(key:κ)(l:List (Nat×κ×β))(w:World):(Instr.findKey kt (kf key) (l.map (mJ kf vf))).run P w= .ok ((nz key l 0).map fun x=>(x.1,vf x.2)) w:=by
  have:=h.find key (l.map fun x=>(x.1,x.2.1,vf x.2.2)) w
  rw[F3,List.map_map]at this
  exact this
theorem wP.int {kt:Nat}(hu:P.underlying kt=some (.int .i64)):wP P kt (fun x:Int=>Value.int .i64 x):=by
  have hc:∀(b:Bool) (key:Int) (w:World) (m:Nat),(Instr.checkKey b (m+1) kt (.int .i64 key)).run P w= .ok () w:=fun b key w m=>by unfold Instr.checkKey;simp[run_underlying hu]
  refine⟨fun b key w=>hc b key w 9999,fun key l w=>?_⟩
  have hf:∀(l:List (Nat×Int×Value)) (i:Nat),Instr.findNow (.int .i64) (.int .i64 key) (l.map (mJ (fun x:Int=>Value.int .i64 x) id)) i=some (nz key l i):=by
    intro l
    induction l with
    |nil=>intro i;rfl
    |cons x l ih=>
      intro i
      simp only[List.map_cons,Instr.findNow,mJ,Instr.sameNow,if_true,nz]
      by_cases hk:key=x.2.1
      · simp[hk]
      · have:(key==x.2.1)=false:=by simpa using hk
        rw[this,if_neg hk]
        exact ih (i+1)
  simp only[Instr.findKey,Sem.run_bind,run_underlying hu,Result.andThen_ok,hf]
  rfl
theorem wP.struct {kt:Nat}{fs:Array Field}(hu:P.underlying kt=some (.struct fs))(hc:∀(b:Bool) (key:κ) (w:World),(Instr.checkKey b 10000 kt (kf key)).run P w= .ok () w)(ha:∀k,∃cs,kf k= .agg cs)(he:∀a b,Ad P 10000 kt (kf a) (kf b) (decide (a=b))):wP P kt kf:=by
  refine⟨hc,fun key l w=>?_⟩
  have hs:∀(l:List (Nat×κ×Value)) (i:Nat) (w:World),(Instr.findAsking kt (kf key) (l.map (mJ kf id)) i).run P w= .ok (nz key l i) w:=by
    intro l
    induction l with
    |nil=>intro i w;simp[Instr.findAsking,nz]
    |cons x l ih=>
      intro i w
      simp only[List.map_cons,Instr.findAsking,Sem.run_bind,Op.equal,Op.maxDepth,mJ,he key x.2.1 w,Result.andThen_ok,nz]
      by_cases hk:key=x.2.1
      · simp[hk]
      · simp only[hk,decide_false,Bool.false_eq_true,if_false]
        exact ih (i+1) w
  cases l with
  |nil=>simp[Instr.findKey,run_underlying hu,Instr.findNow,nz]
  |cons x l=>
    have:=hs (x::l) 0 w
    obtain⟨cs,hk⟩:=ha key
    simp only[Instr.findKey,Sem.run_bind,run_underlying hu,Result.andThen_ok,List.map_cons,Instr.findNow,mJ,Instr.sameNow]
    exact this
theorem Ch.uY (w:World)(g:Nat)(o:Obj):Ch w (setBlock w g o) (some g):=⟨rfl,rfl,rfl,by simp[setBlock],fun k _ hk=>by
  simp only[setBlock]
  rw[Array.getElem?_setIfInBounds_ne (fun he=>hk (by rw[he]))]⟩
theorem oM {w:World}{g:Nat}{o o':Obj}(h:w.heap[g]? =some o):(setBlock w g o').heap[g]? =some o':=by
  have:=(Array.getElem?_eq_some_iff.1 h).1
  simp[setBlock,this]
variable {gb clock:Nat}{l:List (Nat×κ×β)}
theorem kH.ch {r:Option Nat}(h:kH w kf vf gb l clock)(hc:Ch w w' r)(hne:r≠some gb):kH w' kf vf gb l clock:=⟨(hc.block gb (Array.getElem?_eq_some_iff.1 h.1).1 (Ne.symm hne)).trans h.1,h.2⟩
theorem kH.cn {r:Nat}(h:kH w kf vf gb l clock)(hc:Ch w w' (some r))(hne:r≠gb):kH w' kf vf gb l clock:=h.ch hc (fun e=>hne (Option.some.inj e))
theorem kH.le (h:kH w kf vf gb l clock)(hl:Le w w'):kH w' kf vf gb l clock:=h.ch (hl.ch none) (by simp)
theorem kH.lt (h:kH w kf vf gb l clock):gb<w.heap.size:=(Array.getElem?_eq_some_iff.1 h.1).1
theorem Ef.xQ {t:TypeId}(kf:κ->Value)(vf:β->Value)(h:∀gb w',w.heap.size<=gb->kH w' kf vf gb [] 0->Le w w'->K (.map (some gb)) w'):Ef P env n ⟨d,.makeMap t none,T,p,af,g⟩ w K:=
  .of_run (v:= .map (some w.heap.size)) (w':=w.alloc (.map #[] 0)) (fun a ha=>by simp[execOp,Instr.makeMap,newObj,Sem.run]) (h _ _ (Nat.le_refl _) ⟨heap_alloc_new w _,⟨by simp,by simp,by simp⟩⟩ (Le.alloc w _))
theorem Rd.mi {t kt et:Nat}{x y:Operand}{key:κ}{z:Value}(ht:P.underlying t=some (.map kt et))(hk:wP P kt kf)(he:Zr P et z)(hx:ev env x=some (.map (some gb)))(hy:ev env y=some (kf key))(hM:kH w kf vf gb l clock):
    Rd P w env n ⟨d,.lookup t x y true,T,p,af,g⟩ (.tuple #[((jW key l).map vf).getD z,.bool (jW key l).isSome]):=fun a ha w' hle=>by
  have hM':=(hM.le hle).1
  have hf:=hk.get (vf:=vf) key l w'
  have hc:=hk.check (l.map (mJ kf vf)).toArray.isEmpty key w'
  simp only[execOp,ha.eval hx,ha.eval hy,Instr.lookup,Sem.run_bind,run_underlying ht,getObj,Sem.run,hM',Result.andThen,Sem.run_pure]
  rw[hc]
  simp only[]
  rw[hf]
  unfold jW
  cases hfi:nz key l 0 with
  |none=>simp[he.run]
  |some q=>simp
theorem Rd.tQ {t kt et:Nat}{x y:Operand}{key:κ}{z:Value}(ht:P.underlying t=some (.map kt et))(hk:wP P kt kf)(he:Zr P et z)(hx:ev env x=some (.map (some gb)))(hy:ev env y=some (kf key))(hM:kH w kf vf gb l clock):
    Rd P w env n ⟨d,.lookup t x y false,T,p,af,g⟩ (((jW key l).map vf).getD z):=fun a ha w' hle=>by
  have hM':=(hM.le hle).1
  have hf:=hk.get (vf:=vf) key l w'
  have hc:=hk.check (l.map (mJ kf vf)).toArray.isEmpty key w'
  simp only[execOp,ha.eval hx,ha.eval hy,Instr.lookup,Sem.run_bind,run_underlying ht,getObj,Sem.run,hM',Result.andThen,Sem.run_pure]
  rw[hc]
  simp only[]
  rw[hf]
  unfold jW
  cases hfi:nz key l 0 with
  |none=>simp[he.run]
  |some q=>simp
theorem Rd.Vn {t kt et:Nat}{x:Operand}(ht:P.underlying t=some (.map kt et))(hx:ev env x=some (.map (some gb)))(hM:kH w kf vf gb l clock):Rd P w env n ⟨d,.call ⟨.builtin .len,#[x],#[t]⟩,T,p,af,g⟩ (.int .i64 l.length):=fun a ha w' hle=>by
  have hM':=(hM.le hle).1
  simp[execOp,resolve,invoke,builtin,Builtin.len_,ha.eval hx,run_underlying ht,getObj,Sem.run,hM',Result.andThen,goInt]
theorem yA {es:Array MapEntry}{ck:Nat}(h:w.heap[gb]? =some (.map es ck))(o:Obj):(setObj gb o).run P w= .ok () (setBlock w gb o):=by
  simp[setObj,Sem.run,h,setBlock]
theorem Ef.yB {t kt et:Nat}{x y z:Operand}{key:κ}{u:β}(ht:P.underlying t=some (.map kt et))(hk:wP P kt kf)(hx:ev env x=some (.map (some gb)))(hy:ev env y=some (kf key))(hz:ev env z=some (vf u))(hM:kH w kf vf gb l clock)
    (hn:jW key l=none)(h:∀w',kH w' kf vf gb (l++[(clock,key,u)]) (clock+1)->Ch w w' (some gb)->K undef w'):Ef P env n ⟨d,.mapUpdate t x y z,T,p,af,g⟩ w K:=by
  have hf:=hk.get (vf:=vf) key l w
  have hc:=hk.check false key w
  have hn':nz key l 0=none:=by rw[uy];exact rf.1 hn
  rw[hn']at hf
  refine .uU (w':=setBlock w gb (.map ((l++[(clock,key,u)]).map (mJ kf vf)).toArray (clock+1))) (fun a ha=>?_) (h _ ⟨oM hM.1,hM.2.push key u (rf.1 hn)⟩ (Ch.uY _ _ _))
  have hset:=fun o=>yA (P:=P) hM.1 o
  simp only[execOp,ha.eval hx,ha.eval hy,ha.eval hz,Instr.mapUpdate,Sem.run_bind,run_underlying ht,getObj,Sem.run,hM.1,Result.andThen,Sem.run_pure]
  rw[hc]
  simp only[]
  rw[hf]
  simp[hset,mJ]
theorem Ef.wQ {t kt et:Nat}{x y z:Operand}{key:κ}{u v:β}(ht:P.underlying t=some (.map kt et))(hk:wP P kt kf)(hx:ev env x=some (.map (some gb)))(hy:ev env y=some (kf key))(hz:ev env z=some (vf u))(hM:kH w kf vf gb l clock)(hst:∀w:World,(Instr.keyThatStays (kf key) (kf key)).run P w= .ok (kf key) w)
    (hn:jW key l=some v)(h:∀w',kH w' kf vf gb (l.map fun y=>if y.2.1=key then(y.1,key,u)else y) clock->Ch w w' (some gb)->K undef w'):Ef P env n ⟨d,.mapUpdate t x y z,T,p,af,g⟩ w K:=by
  have hf:=hk.get (vf:=vf) key l w
  have hc:=hk.check false key w
  obtain⟨j,hj⟩:=Ej hn
  obtain⟨e,_,b,c,k⟩:=uz key l 0 j v hj
  rw[Nat.sub_zero]at b
  rw[hj]at hf
  have hset:=fun o=>yA (P:=P) hM.1 o
  have hm:=En (fun x:Nat×κ×β=>x.2.1) (e.1,key,u) l j e hM.2.keys b
  have hjl:j<l.length:=(List.getElem?_eq_some_iff.1 b).1
  have f:(l.map fun y=>if y.2.1=key then(y.1,key,u)else y)=l.set j (e.1,key,u):=by
    rw[hm,c]
    apply List.map_congr_left
    intro y hy
    by_cases hyk:y.2.1=key
    · rw[if_pos hyk,if_pos hyk]
      rw[Cg (fun x:Nat×κ×β=>x.2.1) l hM.2.keys hy (List.mem_of_getElem? b) (hyk.trans c.symm)]
    · rw[if_neg hyk,if_neg hyk]
  have hmod:(l.map (mJ kf vf)).toArray.modify j (fun e=>{e with key:=kf key,val:=vf u})=((l.map fun y=>if y.2.1=key then(y.1,key,u)else y).map (mJ kf vf)).toArray:=by
    rw[f]
    apply Array.ext'
    rw[Array.toList_modify,List.map_set]
    simp only
    apply List.ext_getElem?
    intro i
    rw[List.getElem?_modify,List.getElem?_set,List.getElem?_map]
    by_cases hij:j=i
    · subst hij
      have SH:l[j]=e:=(List.getElem?_eq_some_iff.1 b).2
      simp[b,hjl,mJ,SH]
    · simp[hij]
  refine .uU (w':=setBlock w gb (.map ((l.map fun y=>if y.2.1=key then(y.1,key,u)else y).map (mJ kf vf)).toArray clock)) (fun a ha=>?_) (h _ ⟨oM hM.1,hM.2.set key u⟩ (Ch.uY _ _ _))
  have hkey:(((l.map (mJ kf vf)).toArray[j]?).map (·.key)).getD (kf key)=kf key:=by simp[b,mJ,c]
  simp only[execOp,ha.eval hx,ha.eval hy,ha.eval hz,Instr.mapUpdate,Sem.run_bind,run_underlying ht,getObj,Sem.run,hM.1,Result.andThen,Sem.run_pure]
  rw[hc]
  simp only[]
  rw[hf]
  simp only[Option.map_some]
  rw[hkey]
  have hst':=hst w
  simp only[Sem.run_bind,hst',Result.andThen_ok,hmod,hset]
theorem Ef.Hm {t kt et:Nat}{x y:Operand}{key:κ}(ht:P.underlying t=some (.map kt et))(hk:wP P kt kf)(hx:ev env x=some (.map (some gb)))(hy:ev env y=some (kf key))(hM:kH w kf vf gb l clock)
    (h:∀w',kH w' kf vf gb (l.filter fun y=>decide (y.2.1≠key)) clock->Ch w w' (some gb)->K (.tuple #[]) w'):Ef P env n ⟨d,.call ⟨.builtin .delete,#[x,y],#[t,kt]⟩,T,p,af,g⟩ w K:=by
  have hfd:=hk.get (vf:=vf) key l w
  have hset:=fun o=>yA (P:=P) hM.1 o
  have hc':(Instr.checkKey l.isEmpty 10000 kt (kf key)).run P w= .ok () w:=hk.check l.isEmpty key w
  refine .of_run (w':=setBlock w gb (.map ((l.filter fun y=>decide (y.2.1≠key)).map (mJ kf vf)).toArray clock)) (fun a ha=>?_) (h _ ⟨oM hM.1,hM.2.filter _⟩ (Ch.uY _ _ _))
  simp only[execOp,resolve,invoke,builtin,Builtin.delete_]
  simp only[ha.eval hx,ha.eval hy,List.map_toArray,List.map_cons,List.map_nil,Sem.run_bind,Sem.run_pure,Result.andThen_ok]
  simp[run_underlying ht,getObj,Sem.run,hM.1,Result.andThen]
  rw[hc']
  simp only[]
  rw[hfd]
  cases hf:nz key l 0 with
  |none=>
    have hn:=(uy key l 0).1 hf
    have he:(l.filter fun y=> !decide (y.2.1=key))=l:=List.filter_eq_self.2 fun x hx=>by simpa using hn x hx
    simp[hset,he]
  |some q=>
    obtain⟨j,u⟩:=q
    obtain⟨z,_,b,c,e⟩:=uz key l 0 j u hf
    rw[Nat.sub_zero]at b
    have her:=vV (fun x:Nat×κ×β=>x.2.1) l j z hM.2.keys b
    rw[c]at her
    have hes':(l.map (mJ kf vf)).eraseIdx j=(l.filter fun y=> !decide (y.2.1=key)).map (mJ kf vf):=by
      rw[<-Go.ChangeMaps.map_eraseIdx,her]
      congr 1
      apply List.filter_congr
      intro x _
      simp
    simp[hset,hes']
end
end Go.Sx

namespace Go.Lsp
set_option linter.unusedSectionVars false
open Go.rZ Go.Num Go.Sx
theorem wR:∀(l:List Int) (i:Nat) (v:Int),i<l.length->(l.set i v).sum=l.sum-l.getD i 0+v
  |[],i,v,h=>by simp at h
  |x::l,0,v,h=>by simp;omega
  |x::l,i+1,v,h=>by
    have:=wR l i v (by simpa using h)
    simp only[List.set_cons_succ,List.sum_cons,List.getD_cons_succ,this]
    omega
section
variable {κ β:Type}[DecidableEq κ]
theorem Eo (f:κ->β->Int)(a b:List (Nat×κ×β)):lJ f (a++b)=lJ f a+lJ f b:=by simp[lJ]
theorem Ep (f:κ->β->Int)(b:Nat)(k:κ)(v:β):lJ f [(b,k,v)]=f k v:=by simp[lJ]
theorem yC {key:κ}{b:Nat}{k:κ}{v:β}{l:List (Nat×κ×β)}:jW key ((b,k,v)::l)=if k=key then some v else jW key l:=by
  rw[tO,tO]
  by_cases h:k=key
  · simp[h]
  · simp[h]
theorem Pw {key:κ}{u:β}{l:List (Nat×κ×β)}(h:∀x∈l,x.2.1≠key):oq key u l=l:=by
  unfold oq
  have:(l.map fun y=>if y.2.1=key then(y.1,key,u)else y)=l.map id:=List.map_congr_left fun y hy=>by rw[if_neg (h y hy)];rfl
  rw[this,List.map_id]
theorem Px {key:κ}{l:List (Nat×κ×β)}(h:∀x∈l,x.2.1≠key):pJ key l=l:=by
  unfold pJ
  rw[List.filter_eq_self]
  intro x hx
  exact decide_eq_true (h x hx)
def mW (l:List (Nat×κ×β)):List κ:=l.map (·.2.1)
theorem Ji (key:κ)(u:β)(l:List (Nat×κ×β)):mW (oq key u l)=mW l:=by
  unfold mW oq
  rw[List.map_map]
  apply List.map_congr_left
  intro x hx
  by_cases h:x.2.1=key
  · simp[h]
  · simp[h]
theorem wS {x:Nat×κ×β}{l:List (Nat×κ×β)}(h:(mW (x::l)).Nodup):(∀y∈l,y.2.1≠x.2.1)/\(mW l).Nodup:=by
  unfold mW at*
  rw[List.map_cons,List.nodup_cons]at h
  exact⟨fun y hy e=>h.1 (by rw[<-e];exact List.mem_map_of_mem hy),h.2⟩
theorem Er {f:κ->β->Int}{key:κ}{t u:β}:∀{l:List (Nat×κ×β)},(mW l).Nodup->jW key l=some t->lJ f (oq key u l)=lJ f l-f key t+f key u
  |[],_,h=>by simp[Em]at h
  |(b,k,v)::l,hn,h=>by
    have hn2:=wS hn
    rw[yC]at h
    by_cases e:k=key
    · subst e
      rw[if_pos rfl]at h
      injection h with h
      subst h
      have c:oq k u ((b,k,v)::l)=(b,k,u)::l:=by
        have:=Pw (u:=u) hn2.1
        unfold oq at this ⊢
        rw[List.map_cons,if_pos rfl]
        simp only at this
        rw[this]
      rw[c,ky,ky]
      simp only
      omega
    · rw[if_neg e]at h
      have ih:=Er (f:=f) (u:=u) hn2.2 h
      have c:oq key u ((b,k,v)::l)=(b,k,v)::oq key u l:=by unfold oq;rw[List.map_cons,if_neg (by simpa using e)]
      rw[c,ky,ky,ih]
      omega
theorem sJ {f:κ->β->Int}{key:κ}{t:β}:∀{l:List (Nat×κ×β)},(mW l).Nodup->jW key l=some t->lJ f (pJ key l)=lJ f l-f key t
  |[],_,h=>by simp[Em]at h
  |(b,k,v)::l,hn,h=>by
    have hn2:=wS hn
    rw[yC]at h
    by_cases e:k=key
    · subst e
      rw[if_pos rfl]at h
      injection h with h
      subst h
      have c:pJ k ((b,k,v)::l)=l:=by
        have:=Px hn2.1
        unfold pJ at this ⊢
        rw[List.filter_cons_of_neg (by simp)]
        exact this
      rw[c,ky]
      simp only
      omega
    · rw[if_neg e]at h
      have ih:=sJ (f:=f) hn2.2 h
      have c:pJ key ((b,k,v)::l)=(b,k,v)::pJ key l:=by unfold pJ;rw[List.filter_cons_of_pos (by simpa using e)]
      rw[c,ky,ky,ih]
      omega
theorem SI {key k:κ}{u:β}{l:List (Nat×κ×β)}(h:∃v,jW k l=some v):jW key (oq k u l)=if key=k then some u else jW key l:=Jh h
theorem AQ {key k:κ}{l:List (Nat×κ×β)}:jW key (pJ k l)=if key=k then none else jW key l:=Pv
theorem get_some {l:List (Nat×κ×β)}{x:Nat×κ×β}(hn:(mW l).Nodup)(hx:x∈l):jW x.2.1 l=some x.2.2:=by
  induction l with
  |nil=>cases hx
  |cons y l ih=>
    obtain⟨b,k,v⟩:=y
    have c:=wS hn
    rw[yC]
    rcases List.mem_cons.1 hx with rfl|hx
    · rw[if_pos rfl]
    · rw[if_neg (fun e=>c.1 x hx e.symm)]
      exact ih c.2 hx
theorem LX {key:κ}{u:β}{l:List (Nat×κ×β)}{x:Nat×κ×β}(h:x∈oq key u l):(x.2.1=key/\x.2.2=u)\/(x∈l/\x.2.1≠key):=by
  unfold oq at h
  obtain⟨y,hy,rfl⟩:=List.mem_map.1 h
  by_cases e:y.2.1=key
  · rw[if_pos e];exact .inl ⟨rfl,rfl⟩
  · rw[if_neg e];exact .inr ⟨hy,e⟩
theorem AR {key:κ}{l:List (Nat×κ×β)}{x:Nat×κ×β}(h:x∈pJ key l):x∈l/\x.2.1≠key:=by
  unfold pJ at h
  have:=List.mem_filter.1 h
  exact⟨this.1,of_decide_eq_true this.2⟩
theorem uZ {key:κ}{l:List (Nat×κ×β)}(h:(mW l).Nodup):(mW (pJ key l)).Nodup:=by
  unfold mW pJ at*
  exact h.sublist (List.filter_sublist.map _)
theorem wT {key:κ}{u:β}{b:Nat}{l:List (Nat×κ×β)}(h:(mW l).Nodup)(hn:jW key l=none):(mW (l++[(b,key,u)])).Nodup:=by
  unfold mW at*
  rw[List.map_append,List.nodup_append]
  refine⟨h,by simp,?_⟩
  intro a ha c hc
  simp at hc
  subst hc
  obtain⟨x,hx,rfl⟩:=List.mem_map.1 ha
  exact rf.1 hn x hx
theorem u6 {f:κ->β->Int}{key:κ}{t:β}{l:List (Nat×κ×β)}(hf:∀x∈l,0<=f x.2.1 x.2.2)(hn:(mW l).Nodup)(h:jW key l=some t):f key t<=lJ f l:=by
  have b:=sJ (f:=f) hn h
  have c:0<=lJ f (pJ key l):=mF fun x hx=>hf x (AR hx).1
  omega
end
def vW (ls:SM):Int:=lJ (fun _ s=>s.h0+s.h1) ls
def uM (lh:HM):Int:=lJ (fun _ h=>h.am) lh
def qp.all (s:qp):Int:=s.own.sum+vW s.ls+uM s.lh+s.lost
def wU (ls:SM)(k:lX)(h:wJ):Prop:=(0<=k.side/\k.side<=1)/\(1<=h.am/\h.am<=1125899906842624)/\∃t,jW k.ch ls=some t
structure kW (s:qp):Prop where
  len:1<=s.own.length/\s.own.length<=12
  own:∀x∈s.own,0<=x
  seats:∀x∈s.ls,x.2.1=x.2.2.ch/\(0<=x.2.1/\x.2.1<40)/\nN s.own.length x.2.2
  keys:(mW s.ls).Nodup
  holds:∀x∈s.lh,wU s.ls x.2.1 x.2.2
  hkeys:(mW s.lh).Nodup
  lost:0<=s.lost
  tot:s.all<=1125899906842624
theorem Kz {l:List Int}(h:∀x∈l,0<=x):0<=l.sum:=by
  have:=(sG l h l.length).1
  rwa [List.take_length]at this
theorem Es:∀{l:List Int},(∀x∈l,0<=x)->∀i,l.getD i 0<=l.sum
  |[],h,i=>by simp
  |x::l,h,0=>by
    have:=Kz (l:=l) fun y hy=>h y (List.mem_cons_of_mem _ hy)
    simp only[List.getD_cons_zero,List.sum_cons];omega
  |x::l,h,i+1=>by
    have b:=Es (l:=l) (fun y hy=>h y (List.mem_cons_of_mem _ hy)) i
    have c:=h x List.mem_cons_self
    simp only[List.getD_cons_succ,List.sum_cons];omega
theorem SK {l:List Int}(h:∀x∈l,0<=x)(i:Nat):0<=l.getD i 0:=by
  by_cases hi:i<l.length
  · have:l.getD i 0=l[i]:=by simp[List.getD,hi]
    rw[this];exact h _ (List.getElem_mem hi)
  · rw[List.getD_eq_getElem?_getD,List.getElem?_eq_none (by omega)];exact Int.le_refl _
section
variable {s:qp}
theorem kW.Xp (h:kW s):∀x∈s.ls,0<=x.2.2.h0+x.2.2.h1:=fun x hx=>by
  obtain⟨_,_,_,_,_,b,c⟩:=h.seats x hx;omega
theorem kW.Et (h:kW s):∀x∈s.lh,0<=x.2.2.am:=fun x hx=>by have:=(h.holds x hx).2.1;omega
theorem kW.parts (h:kW s):0<=s.own.sum/\0<=vW s.ls/\0<=uM s.lh:=⟨Kz h.own,mF h.Xp,mF h.Et⟩
theorem kW.ownB (h:kW s)(i:Nat):0<=s.own.getD i 0/\s.own.getD i 0<=1125899906842624:=by
  have c:=Es h.own i
  have d:=h.parts
  have b:=h.tot
  have e:=h.lost
  unfold qp.all at b
  exact⟨SK h.own i,by omega⟩
theorem kW.LY (h:kW s):0<=s.lost/\s.lost<=1125899906842624:=by
  have c:=h.parts
  have b:=h.tot
  have d:=h.lost
  unfold qp.all at b
  omega
theorem kW.seat (h:kW s){ch:Int}{t:Seat}(hg:jW ch s.ls=some t):ch=t.ch/\(0<=ch/\ch<40)/\nN s.own.length t/\t.h0+t.h1<=vW s.ls:=by
  obtain⟨b,hb⟩:=oQ hg
  obtain⟨h1,c,d⟩:=h.seats _ hb
  exact⟨h1,c,d,u6 (f:=fun(_:Int) (s:Seat)=>s.h0+s.h1) h.Xp h.keys hg⟩
theorem kW.hold (h:kW s){k:lX}{t:wJ}(hg:jW k s.lh=some t):wU s.ls k t/\t.am<=uM s.lh:=by
  obtain⟨b,hb⟩:=oQ hg
  exact⟨h.holds _ hb,u6 (f:=fun(_:lX) (y:wJ)=>y.am) h.Et h.hkeys hg⟩
theorem Eu {ch side:Int}(lh:HM)(h:∀x∈lh,0<=x.2.2.am):0<=kE lh ch side/\kE lh ch side<=uM lh:=by
  induction lh with
  |nil=>simp[kE,uM,lJ]
  |cons x lh ih=>
    have b:=ih fun y hy=>h y (List.mem_cons_of_mem _ hy)
    have c:=h x List.mem_cons_self
    unfold kE uM at*
    rw[ky,ky]
    have:0<=mR ch side x.2.1 x.2.2/\mR ch side x.2.1 x.2.2<=x.2.2.am:=by
      unfold mR;split<;>omega
    omega
theorem kW.F4 (h:kW s)(ch side:Int):0<=kE s.lh ch side/\kE s.lh ch side<=1125899906842624:=by
  have c:=Eu (ch:=ch) (side:=side) s.lh h.Et
  have d:=h.parts
  have b:=h.tot
  have e:=h.lost
  unfold qp.all at b
  omega
def rq (s:qp)(t:Seat)(fee:Int):qp×Int:=
  if¬(vM s.own.length t/\0<=fee/\fee<=1125899906842624)then(s,1)
  else if(jW t.ch s.ls).isSome then(s,4)
  else if s.own.getD t.p0.toNat 0<t.h0+fee\/s.own.getD t.p1.toNat 0<t.h1 then(s,8)
  else(⟨pI (pI s.own t 0 t.h0 fee) t 1 t.h1 0,s.ls++[(s.cs,t.ch,t)],s.cs+1,s.lh,s.ck,s.lost+fee⟩,0)
def qU (s:qp)(ch:Int)(fee:lv):qp×Int:=
  if¬((0<=fee.a/\fee.a<=1125899906842624)/\0<=fee.b/\fee.b<=1125899906842624)then(s,1)
  else match jW ch s.ls with
    |none=>(s,5)
    |some t=>if¬kE s.lh ch 0+kE s.lh ch 1=0 then(s,14)else if t.h0<fee.a\/t.h1<fee.b then(s,8)
      else(⟨xq s.own t fee 2,pJ ch s.ls,s.cs,s.lh,s.ck,pK s.lost fee 2⟩,0)
instance UB (side id am : Int) (pt : Nat) : Decidable (wK side id am pt) := by unfold wK; infer_instance
def qz (s:qp)(ch side id am:Int)(pt:Nat):qp×Int:=
  if¬wK side id am pt then(s,1)
  else match jW ch s.ls with
    |none=>(s,5)
    |some t=>if(jW (⟨ch,side,id⟩:lX) s.lh).isSome then(s,4)else if t.h side.toNat<am then(s,8)
      else(⟨s.own,oq ch (t.setH side.toNat (t.h side.toNat-am)) s.ls,s.cs,s.lh++[(s.ck,⟨ch,side,id⟩,⟨am,pt⟩)],s.ck+1,s.lost⟩,0)
def Jj (s:qp)(ch side id:Int)(h:wJ)(t:Seat)(to:Int):qp:=
  ⟨s.own,oq ch (t.setH to.toNat (t.h to.toNat+h.am)) s.ls,s.cs,pJ (⟨ch,side,id⟩:lX) s.lh,s.ck,s.lost⟩
def qi (s:qp)(ch side id:Int)(sec:Nat):qp×Int:=
  match jW (⟨ch,side,id⟩:lX) s.lh with
    |none=>(s,5)
    |some h=>if base sec≠h.pt then(s,23)else(Jj s ch side id h ((jW ch s.ls).getD jM) (1-side),0)
def AU (s:qp)(ch side id:Int):qp×Int:=
  match jW (⟨ch,side,id⟩:lX) s.lh with
    |none=>(s,5)
    |some h=>(Jj s ch side id h ((jW ch s.ls).getD jM) side,0)
def uA (st:SM×Int)(g:xn):SM×Int:=
  if st.2≠0 then st else if¬sH g then(st.1,1)else match jW g.ch st.1 with
    |none=>(st.1,5)
    |some s=>if s.h g.side.toNat<g.am then(st.1,8)else(oq g.ch (Ap s g) st.1,0)
def l6 (ls:SM)(jU:List xn):SM×Int:=jU.foldl uA (ls,0)
def Ev (s:qp)(jU:List xn):qp×Int:=
  if(l6 s.ls jU).2≠0 then(s,(l6 s.ls jU).2)else(⟨s.own,(l6 s.ls jU).1,s.cs,s.lh,s.ck,s.lost⟩,0)
instance Xq (d fee : lv) : Decidable (IY d fee) := by
  have : IY d fee ↔ ((-1125899906842624 <= d.a /\ d.a <= 1125899906842624) /\ 0 <= fee.a /\ fee.a <= 1125899906842624) /\ ((-1125899906842624 <= d.b /\ d.b <= 1125899906842624) /\ 0 <= fee.b /\ fee.b <= 1125899906842624) := by
    constructor
    · intro h; exact ⟨h 0 (by omega), h 1 (by omega)⟩
    · rintro ⟨h0, h1⟩ k hk
      have : k = 0 \/ k = 1 := by omega
      rcases this with rfl | rfl
      · exact h0
      · exact h1
  exact decidable_of_iff _ this.symm
instance Xr (own : List Int) (s : Seat) (d fee : lv) (k : Nat) : Decidable (xH own s d fee k) := by unfold xH; infer_instance
def nV (s:qp)(ch:Int)(d fee:lv):qp×Int:=
  if¬IY d fee then(s,1)
  else match jW ch s.ls with
    |none=>(s,5)
    |some t=>if xH s.own t d fee 0\/xH s.own t d fee 1 then(s,8)
      else(⟨M5 s.own (o8 t d 2) d fee 2,oq ch (o8 t d 2) s.ls,s.cs,s.lh,s.ck,pK s.lost fee 2⟩,0)
theorem uj {own:List Int}{t:Seat}{j:Nat}{am fee:Int}(h:0<=t.p j/\t.p j<own.length):(pI own t j am fee).sum=own.sum-(am+fee):=by
  unfold pI
  rw[wR _ _ _ (by omega)]
  omega
theorem Ew {l:List Int}{i:Nat}{v:Int}(h:∀x∈l,0<=x)(hv:0<=v):∀x∈l.set i v,0<=x:=fun x hx=>by
  rcases List.mem_or_eq_of_mem_set hx with hx|rfl
  · exact h x hx
  · exact hv
theorem vX {own:List Int}{t:Seat}{j:Nat}{am fee:Int}(h:∀x∈own,0<=x)(hf:am+fee<=own.getD (t.p j).toNat 0):∀x∈pI own t j am fee,0<=x:=Ew h (by omega)
theorem Jk {ls:SM}{k:lX}{h:wJ}{x:Nat×Int×Seat}(hn:jW x.2.1 ls=none)(hh:wU ls k h):wU (ls++[x]) k h:=by
  obtain⟨c,d,t,f⟩:=hh
  refine⟨c,d,?_⟩
  obtain⟨b,i,u⟩:=x
  rw[ui hn]
  by_cases e:k.ch=i
  · exact⟨u,by rw[if_pos e]⟩
  · exact⟨t,by rw[if_neg e];exact f⟩
theorem Ex {ls:SM}{k:lX}{h:wJ}{ch:Int}{u:Seat}(hc:∃v,jW ch ls=some v)(hh:wU ls k h):wU (oq ch u ls) k h:=by
  obtain⟨b,c,t,d⟩:=hh
  refine⟨b,c,?_⟩
  rw[SI hc]
  by_cases e:k.ch=ch
  · exact⟨u,by rw[if_pos e]⟩
  · exact⟨t,by rw[if_neg e];exact d⟩
theorem Nf (h:kW s)(t:Seat)(fee:Int):kW (rq s t fee).1/\(rq s t fee).1.all=s.all:=by
  unfold rq
  split
  · exact⟨h,rfl⟩
  · rename_i d
    split
    · exact⟨h,rfl⟩
    · rename_i c2
      split
      · exact⟨h,rfl⟩
      · rename_i c3
        have d:=Decidable.not_not.1 d
        have hg:jW t.ch s.ls=none:=by simpa using c2
        obtain⟨⟨b,c,f,i,e⟩,l,m⟩:=d
        have ha:(⟨pI (pI s.own t 0 t.h0 fee) t 1 t.h1 0,s.ls++[(s.cs,t.ch,t)],s.cs+1,s.lh,s.ck,s.lost+fee⟩:qp).all=s.all:=by
          unfold qp.all vW
          simp only
          rw[uj (t:=t) (j:=1) (by rw[oo];exact⟨c.1,c.2.1⟩),uj (t:=t) (j:=0) (own:=s.own) ⟨b.1,b.2.1⟩,Eo,Ep]
          omega
        refine⟨⟨by simp only[oo];exact h.len,?_,?_,wT h.keys hg,fun x hx=>Jk hg (h.holds x hx),h.hkeys,by have:=h.lost;simp only;omega,by rw[ha];exact h.tot⟩,ha⟩
        · have e1:(pI s.own t 0 t.h0 fee).getD (t.p 1).toNat 0=s.own.getD (t.p 1).toNat 0:=vO (j:=0) (k:=1) b.1 c.1 e
          refine vX (vX h.own ?_) ?_
          · have:t.p 0=t.p0:=rfl
            rw[this];omega
          · rw[e1]
            have:t.p 1=t.p1:=rfl
            rw[this];omega
        · intro x hx
          simp only[oo]
          rcases List.mem_append.1 hx with hx|hx
          · exact h.seats x hx
          · simp only[List.mem_singleton]at hx
            subst hx
            exact⟨rfl,⟨f,i⟩,⟨b.1,b.2.1⟩,⟨c.1,c.2.1⟩,e,⟨b.2.2.1,b.2.2.2⟩,c.2.2.1,c.2.2.2⟩
theorem KA {ls:SM}{k:lX}{h:wJ}{ch:Int}(hne:k.ch≠ch)(hh:wU ls k h):wU (pJ ch ls) k h:=by
  obtain⟨b,c,t,d⟩:=hh
  exact⟨b,c,t,by rw[AQ,if_neg hne];exact d⟩
theorem F5 (h:kW s){ch:Int}(h0:kE s.lh ch 0+kE s.lh ch 1=0):∀x∈s.lh,x.2.1.ch≠ch:=by
  intro x hx e
  have b:=Eu (ch:=ch) (side:=0) s.lh h.Et
  have c:=Eu (ch:=ch) (side:=1) s.lh h.Et
  obtain⟨⟨s0,s1⟩,⟨d,i⟩,_⟩:=h.holds x hx
  have hg:=get_some h.hkeys hx
  have hn:∀sd:Int,∀y∈s.lh,0<=mR ch sd y.2.1 y.2.2:=fun sd y hy=>by
    have:=h.Et y hy
    unfold mR;split<;>omega
  have j:=u6 (f:=mR ch 0) (hn 0) h.hkeys hg
  have k:=u6 (f:=mR ch 1) (hn 1) h.hkeys hg
  have l:lJ (mR ch 0) s.lh=kE s.lh ch 0:=rfl
  have m:lJ (mR ch 1) s.lh=kE s.lh ch 1:=rfl
  have hs:x.2.1.side=0\/x.2.1.side=1:=by omega
  rcases hs with hs|hs
  · have:mR ch 0 x.2.1 x.2.2=x.2.2.am:=if_pos ⟨e,hs⟩
    omega
  · have:mR ch 1 x.2.1 x.2.2=x.2.2.am:=if_pos ⟨e,hs⟩
    omega
theorem zq {n:Nat}{t:Seat}(h:nN n t):(0<=t.p 0/\t.p 0<n)/\(0<=t.p 1/\t.p 1<n)/\t.p 0≠t.p 1:=⟨h.1,h.2.1,h.2.2.1⟩
theorem KC (h:kW s)(ch:Int)(fee:lv):kW (qU s ch fee).1/\(qU s ch fee).1.all=s.all:=by
  unfold qU
  split
  · exact⟨h,rfl⟩
  · rename_i d
    have d:=Decidable.not_not.1 d
    split
    · exact⟨h,rfl⟩
    · rename_i t hg
      split
      · exact⟨h,rfl⟩
      · rename_i c
        have c:=Decidable.not_not.1 c
        split
        · exact⟨h,rfl⟩
        · rename_i c3
          obtain⟨e1,e2,e3,e4⟩:=h.seat hg
          obtain⟨e,i,pn⟩:=zq e3
          have l:t.h 0=t.h0:=rfl
          have m:t.h 1=t.h1:=rfl
          have n:fee.ix 0=fee.a:=rfl
          have o:fee.ix 1=fee.b:=rfl
          have ha:(⟨xq s.own t fee 2,pJ ch s.ls,s.cs,s.lh,s.ck,pK s.lost fee 2⟩:qp).all=s.all:=by
            have:=sJ (f:=fun(_:Int) (s:Seat)=>s.h0+s.h1) h.keys hg
            unfold qp.all vW
            simp only[xq,pK]
            rw[uj (by rw[oo];exact i),uj e,this]
            omega
          refine⟨⟨by simp only[vP];exact h.len,?_,?_,uZ h.keys,fun x hx=>KA (F5 h c x hx) (h.holds x hx),h.hkeys,by have:=h.lost;simp only[pK];omega,by rw[ha];exact h.tot⟩,ha⟩
          · have q:(pI s.own t 0 (-t.h 0) (fee.ix 0)).getD (t.p 1).toNat 0=s.own.getD (t.p 1).toNat 0:=vO (j:=0) (k:=1) e.1 i.1 pn
            have u:=h.ownB (t.p 0).toNat
            have v:=h.ownB (t.p 1).toNat
            simp only[xq]
            refine vX (vX h.own ?_) ?_
            · omega
            · rw[q];omega
          · intro x hx
            have:=h.seats x (AR hx).1
            simpa only[vP]using this
theorem AV {t:Seat}{i:Nat}{v:Int}(hi:i<2):(t.setH i v).h0+(t.setH i v).h1=t.h0+t.h1-t.h i+v:=by
  have:i=0\/i=1:=by omega
  rcases this with rfl|rfl
  · simp[Seat.setH,Seat.h];omega
  · simp[Seat.setH,Seat.h]
theorem Dw {n:Nat}{t:Seat}{i:Nat}{v:Int}(h:nN n t)(hv:0<=v/\v<=1125899906842624):nN n (t.setH i v):=by
  obtain⟨b,c,d,e,f⟩:=h
  unfold Seat.setH
  split
  · exact⟨b,c,d,hv,f⟩
  · exact⟨b,c,d,e,hv⟩
theorem Dx (t:Seat)(i:Nat)(v:Int):(t.setH i v).ch=t.ch:=by unfold Seat.setH;split<;>rfl
theorem Jl {t:Seat}{n:Nat}(h:nN n t)(i:Nat):(0<=t.h i/\t.h i<=1125899906842624)/\t.h i<=t.h0+t.h1:=by
  obtain⟨_,_,_,b,c⟩:=h
  unfold Seat.h
  split<;>omega
theorem Ey (h:kW s){ch:Int}{t u:Seat}(hg:jW ch s.ls=some t)(hu:nN s.own.length u)(hc:u.ch=t.ch){lh:HM}{ck:Nat}(hh:∀x∈lh,wU s.ls x.2.1 x.2.2)(hk:(mW lh).Nodup)(hs:u.h0+u.h1+uM lh=t.h0+t.h1+uM s.lh):
    kW ⟨s.own,oq ch u s.ls,s.cs,lh,ck,s.lost⟩/\(⟨s.own,oq ch u s.ls,s.cs,lh,ck,s.lost⟩:qp).all=s.all:=by
  have e:=h.seat hg
  have ha:(⟨s.own,oq ch u s.ls,s.cs,lh,ck,s.lost⟩:qp).all=s.all:=by
    have:=Er (f:=fun(_:Int) (s:Seat)=>s.h0+s.h1) (u:=u) h.keys hg
    unfold qp.all vW
    simp only
    rw[this]
    omega
  refine⟨⟨h.len,h.own,?_,by rw[Ji];exact h.keys,fun x hx=>Ex ⟨t,hg⟩ (hh x hx),hk,h.lost,by rw[ha];exact h.tot⟩,ha⟩
  intro x hx
  rcases LX hx with⟨b,c⟩|⟨b,c⟩
  · rw[b,c]
    exact⟨by rw[hc];exact e.1,e.2.1,hu⟩
  · exact h.seats x b
theorem Py (lh:HM)(b:Nat)(k:lX)(x:wJ):uM (lh++[(b,k,x)])=uM lh+x.am:=by unfold uM;rw[Eo,Ep]
theorem KD (h:kW s)(ch side id am:Int)(pt:Nat):kW (qz s ch side id am pt).1/\(qz s ch side id am pt).1.all=s.all:=by
  unfold qz
  split
  · exact⟨h,rfl⟩
  · rename_i c
    have c:=Decidable.not_not.1 c
    split
    · exact⟨h,rfl⟩
    · rename_i t hg
      split
      · exact⟨h,rfl⟩
      · rename_i c2
        have hn:jW (⟨ch,side,id⟩:lX) s.lh=none:=by simpa using c2
        split
        · exact⟨h,rfl⟩
        · rename_i c3
          obtain⟨⟨d,e⟩,j,⟨f,i⟩,_⟩:=c
          obtain⟨e1,e2,e3,e4⟩:=h.seat hg
          have b:=Jl e3 side.toNat
          refine Ey h hg (Dw e3 (by omega)) (Dx _ _ _) ?_ (wT h.hkeys hn) (by rw[AV (by omega),Py];simp only;omega)
          intro x hx
          rcases List.mem_append.1 hx with hx|hx
          · exact h.holds x hx
          · simp only[List.mem_singleton]at hx
            subst hx
            exact⟨⟨d,e⟩,⟨f,i⟩,t,hg⟩
theorem Jm (h:kW s){ch side id:Int}{x:wJ}{t:Seat}{to:Int}(hx:jW (⟨ch,side,id⟩:lX) s.lh=some x)(ht:jW ch s.ls=some t)(hto:0<=to/\to<=1):kW (Jj s ch side id x t to)/\(Jj s ch side id x t to).all=s.all:=by
  obtain⟨e1,e2,e3,e4⟩:=h.seat ht
  obtain⟨⟨_,⟨c,d⟩,_⟩,e⟩:=h.hold hx
  have b:=Jl e3 to.toNat
  have hp:=h.parts
  have htot:=h.tot
  have hl:=h.lost
  unfold qp.all at htot
  have hd:uM (pJ (⟨ch,side,id⟩:lX) s.lh)=uM s.lh-x.am:=sJ (f:=fun(_:lX) (y:wJ)=>y.am) h.hkeys hx
  exact Ey h ht (Dw e3 (by omega)) (Dx _ _ _) (fun y hy=>h.holds y (AR hy).1) (uZ h.hkeys) (by rw[AV (by omega),hd];omega)
theorem F6 (h:kW s){ch side id:Int}{x:wJ}(hx:jW (⟨ch,side,id⟩:lX) s.lh=some x):jW ch s.ls=some ((jW ch s.ls).getD jM)/\0<=side/\side<=1:=by
  obtain⟨⟨b,_,t,c⟩,_⟩:=h.hold hx
  simp only at c b
  rw[c]
  exact⟨rfl,b⟩
theorem Jn (h:kW s)(ch side id:Int)(sec:Nat):kW (qi s ch side id sec).1/\(qi s ch side id sec).1.all=s.all:=by
  unfold qi
  split
  · exact⟨h,rfl⟩
  · rename_i x hx
    split
    · exact⟨h,rfl⟩
    · have q:=F6 h hx
      exact Jm h hx q.1 (by omega)
theorem Ng (h:kW s)(ch side id:Int):kW (AU s ch side id).1/\(AU s ch side id).1.all=s.all:=by
  unfold AU
  split
  · exact⟨h,rfl⟩
  · rename_i x hx
    have q:=F6 h hx
    exact Jm h hx q.1 (by omega)
theorem SL {n:Nat}{t:Seat}{g:xn}(h:nN n t)(hs:t.h0+t.h1<=1125899906842624)(hg:sH g)(hf:¬t.h g.side.toNat<g.am):nN n (Ap t g)/\(Ap t g).h0+(Ap t g).h1=t.h0+t.h1/\(Ap t g).ch=t.ch:=by
  obtain⟨⟨c,d⟩,f,i⟩:=hg
  have b:=Jl h g.side.toNat
  have j:=Jl h (1-g.side).toNat
  have hsum:t.h g.side.toNat+t.h (1-g.side).toNat=t.h0+t.h1:=by
    have:g.side=0\/g.side=1:=by omega
    rcases this with e|e
    · rw[e];rfl
    · rw[e];simp[Seat.h];omega
  have hne:(t.setH g.side.toNat (t.h g.side.toNat-g.am)).h (1-g.side).toNat=t.h (1-g.side).toNat:=by
    have:g.side=0\/g.side=1:=by omega
    rcases this with e|e
    · rw[e];rfl
    · rw[e];rfl
  unfold Ap
  refine⟨Dw (Dw h (by omega)) (by rw[hne];omega),?_,by rw[Dx,Dx]⟩
  rw[AV (by omega),AV (by omega),hne]
  omega
theorem Vo (ls:SM)(g:xn):uA (ls,0) g=if¬sH g then((ls,1):SM×Int)else match jW g.ch ls with
    |none=>(ls,5)
    |some s=>if s.h g.side.toNat<g.am then(ls,8)else(oq g.ch (Ap s g) ls,0):=by unfold uA;rw[if_neg (by simp)]
theorem Ho (jU:List xn):∀{s:qp},kW s->kW ⟨s.own,(jU.foldl uA (s.ls,0)).1,s.cs,s.lh,s.ck,s.lost⟩/\(⟨s.own,(jU.foldl uA (s.ls,0)).1,s.cs,s.lh,s.ck,s.lost⟩:qp).all=s.all:=by
  induction jU with
  |nil=>intro s h;exact⟨h,rfl⟩
  |cons g jU ih=>
    intro s h
    rw[List.foldl_cons]
    have Vp:∀(e:Int) (ls:SM),e≠0->∀l:List xn,l.foldl uA (ls,e)=(ls,e):=by
      intro e ls he l
      induction l with
      |nil=>rfl
      |cons a l ih=>rw[List.foldl_cons];unfold uA;rw[if_pos (by exact he)];exact ih
    rw[Vo]
    by_cases hg:sH g
    · rw[if_neg (not_not_intro hg)]
      cases hl:jW g.ch s.ls with
      |none=>simp only;rw[Vp 5 _ (by omega)];exact⟨h,rfl⟩
      |some t=>
        simp only
        by_cases hf:t.h g.side.toNat<g.am
        · rw[if_pos hf,Vp 8 _ (by omega)];exact⟨h,rfl⟩
        · rw[if_neg hf]
          obtain⟨e1,e2,e3,e4⟩:=h.seat hl
          have hp:=h.parts
          have htot:=h.tot
          have hlo:=h.lost
          unfold qp.all at htot
          have q:=SL e3 (by omega) hg hf
          have k:=Ey h hl q.1 q.2.2 (lh:=s.lh) (ck:=s.ck) h.holds h.hkeys (by rw[q.2.1])
          have:=ih k.1
          simp only at this
          exact⟨this.1,this.2.trans k.2⟩
    · rw[if_pos hg,Vp 1 _ (by omega)];exact⟨h,rfl⟩
theorem Pz (h:kW s)(jU:List xn):kW (Ev s jU).1/\(Ev s jU).1.all=s.all:=by
  unfold Ev
  split
  · exact⟨h,rfl⟩
  · exact Ho jU h
theorem Vq (t:Seat)(d:lv):o8 t d 2=⟨t.ch,t.p0,t.p1,t.h0+d.a,t.h1+d.b⟩:=by
  simp[o8,Seat.setH,Seat.h,lv.ix]
theorem Jo (h:kW s)(ch:Int)(d fee:lv):kW (nV s ch d fee).1/\(nV s ch d fee).1.all=s.all:=by
  unfold nV
  split
  · exact⟨h,rfl⟩
  · rename_i c
    have c:=Decidable.not_not.1 c
    split
    · exact⟨h,rfl⟩
    · rename_i t hg
      split
      · exact⟨h,rfl⟩
      · rename_i c2
        obtain⟨e1,e2,e3,e4⟩:=h.seat hg
        obtain⟨e,i,pn⟩:=zq e3
        have z:t.h 0=t.h0:=rfl
        have A:t.h 1=t.h1:=rfl
        have B:fee.ix 0=fee.a:=rfl
        have C:fee.ix 1=fee.b:=rfl
        have z0:d.ix 0=d.a:=rfl
        have z1:d.ix 1=d.b:=rfl
        have s0:=c 0 (by omega)
        have s1:=c 1 (by omega)
        unfold xH at c2
        have hp:=h.parts
        have htot:=h.tot
        have hlo:=h.lost
        unfold qp.all at htot
        rw[Vq]
        have D:=h.ownB (t.p 0).toNat
        have F:=h.ownB (t.p 1).toNat
        have H:=Es h.own (t.p 0).toNat
        have I:s.own.getD (t.p 0).toNat 0+s.own.getD (t.p 1).toNat 0<=s.own.sum:=by
          have r:=Es (l:=s.own.set (t.p 0).toNat 0) (Ew h.own (Int.le_refl _)) (t.p 1).toNat
          rw[wR _ _ _ (by omega)]at r
          rw[List.getD_eq_getElem?_getD,List.getElem?_set_ne (by omega),<-List.getD_eq_getElem?_getD]at r
          omega
        have ha:(⟨M5 s.own ⟨t.ch,t.p0,t.p1,t.h0+d.a,t.h1+d.b⟩ d fee 2,oq ch ⟨t.ch,t.p0,t.p1,t.h0+d.a,t.h1+d.b⟩ s.ls,s.cs,s.lh,s.ck,pK s.lost fee 2⟩:qp).all=s.all:=by
          have:=Er (f:=fun(_:Int) (s:Seat)=>s.h0+s.h1) (u:=(⟨t.ch,t.p0,t.p1,t.h0+d.a,t.h1+d.b⟩:Seat)) h.keys hg
          unfold qp.all vW
          simp only[M5,pK]
          rw[uj (t:=(⟨t.ch,t.p0,t.p1,t.h0+d.a,t.h1+d.b⟩:Seat)) (j:=1) (by rw[oo];exact i),uj (t:=(⟨t.ch,t.p0,t.p1,t.h0+d.a,t.h1+d.b⟩:Seat)) (j:=0) e,this]
          simp only
          omega
        have hok:nN s.own.length ⟨t.ch,t.p0,t.p1,t.h0+d.a,t.h1+d.b⟩:=by
          obtain⟨m,n,o,J,K⟩:=e3
          refine⟨m,n,o,?_,?_⟩
          · simp only;omega
          · simp only;omega
        refine⟨⟨by simp only[Ar];exact h.len,?_,?_,by simp only[Ji];exact h.keys,fun x hx=>Ex ⟨t,hg⟩ (h.holds x hx),h.hkeys,by have:=h.lost;simp only[pK];omega,by rw[ha];exact h.tot⟩,ha⟩
        · have q:(pI s.own ⟨t.ch,t.p0,t.p1,t.h0+d.a,t.h1+d.b⟩ 0 (d.ix 0) (fee.ix 0)).getD (t.p 1).toNat 0=s.own.getD (t.p 1).toNat 0:=vO (s:=⟨t.ch,t.p0,t.p1,t.h0+d.a,t.h1+d.b⟩) (j:=0) (k:=1) e.1 i.1 pn
          simp only[M5]
          have v:(⟨t.ch,t.p0,t.p1,t.h0+d.a,t.h1+d.b⟩:Seat).p 0=t.p 0:=rfl
          have y:(⟨t.ch,t.p0,t.p1,t.h0+d.a,t.h1+d.b⟩:Seat).p 1=t.p 1:=rfl
          refine vX (vX h.own ?_) ?_
          · rw[v];omega
          · rw[y,q];omega
        · intro x hx
          simp only[Ar]
          rcases LX hx with⟨k1,k2⟩|⟨k1,k2⟩
          · rw[k1,k2];exact⟨e1,e2,hok⟩
          · exact h.seats x k1
theorem rO:∀(n:Nat) (p v:Int),0<=p->p<n->((List.range n).map fun i:Nat=>if(p=(i:Int))then v else 0).sum=v
  |0,p,v,h0,h1=>by omega
  |n+1,p,v,h0,h1=>by
    rw[List.range_succ,List.map_append,List.sum_append]
    by_cases e:p=(n:Int)
    · have hz:∀m:Nat,m<=n->((List.range m).map fun i:Nat=>if(p=(i:Int))then v else 0).sum=0:=by
        intro m
        induction m with
        |zero=>intro _;rfl
        |succ m ih=>
          intro hm
          rw[List.range_succ,List.map_append,List.sum_append,ih (by omega)]
          simp only[List.map_cons,List.map_nil,List.sum_cons,List.sum_nil]
          rw[if_neg (by omega)]
          rfl
      rw[hz n (Nat.le_refl _)]
      simp[e]
    · rw[rO n p v h0 (by omega)]
      simp[e]
theorem qI (n:Nat)(f g:Nat->Int):((List.range n).map fun i=>f i+g i).sum=((List.range n).map f).sum+((List.range n).map g).sum:=by
  induction n with
  |zero=>rfl
  |succ n ih=>simp only[List.range_succ,List.map_append,List.sum_append,ih,List.map_cons,List.map_nil,List.sum_cons,List.sum_nil];omega
theorem y8:∀(own:List Int),((List.range own.length).map fun i:Nat=>tJ own (i:Int)).sum=own.sum:=by
  intro own
  have h:∀k,k<=own.length->((List.range k).map fun i:Nat=>tJ own (i:Int)).sum=(own.take k).sum:=by
    intro k
    induction k with
    |zero=>intro _;rfl
    |succ k ih=>
      intro hk
      rw[List.range_succ,List.map_append,List.sum_append,ih (by omega),qG (by omega)]
      simp only[List.map_cons,List.map_nil,List.sum_cons,List.sum_nil,tJ]
      rw[if_pos (by omega)]
      simp
  have:=h own.length (Nat.le_refl _)
  rwa [List.take_length]at this
theorem xR {κ β:Type}(n:Nat)(f:Nat->κ->β->Int):∀l:List (Nat×κ×β),((List.range n).map fun i=>lJ (f i) l).sum=lJ (fun k v=>((List.range n).map fun i=>f i k v).sum) l
  |[]=>by
    have:∀n:Nat,((List.range n).map fun i=>lJ (f i) []).sum=0:=by
      intro n
      induction n with
      |zero=>rfl
      |succ n ih=>rw[List.range_succ,List.map_append,List.sum_append,ih];simp[lJ]
    rw[this];rfl
  |x::l=>by
    have:=xR n f l
    simp only[ky]
    rw[qI,this]
theorem pR {κ β:Type}{f g:κ->β->Int}:∀{l:List (Nat×κ×β)},(∀x∈l,f x.2.1 x.2.2=g x.2.1 x.2.2)->lJ f l=lJ g l
  |[],_=>rfl
  |x::l,h=>by rw[ky,ky,h x List.mem_cons_self,pR fun y hy=>h y (List.mem_cons_of_mem _ hy)]
theorem AX {κ β:Type}(f g:κ->β->Int):∀l:List (Nat×κ×β),lJ (fun k v=>f k v+g k v) l=lJ f l+lJ g l
  |[]=>rfl
  |x::l=>by rw[ky,ky,ky,AX f g l];omega
theorem F7 {κ β μ ν:Type}(f:κ->β->μ->ν->Int):∀(l:List (Nat×κ×β)) (m:List (Nat×μ×ν)),lJ (fun k v=>lJ (f k v) m) l=lJ (fun c d=>lJ (fun k v=>f k v c d) l) m
  |[],m=>by
    induction m with
    |nil=>rfl
    |cons y m ih=>rw[ky,<-ih];rfl
  |x::l,m=>by
    rw[ky,F7 f l m]
    rw[<-AX]
    exact pR fun y _=>(ky (fun k v=>f k v y.2.1 y.2.2) x l).symm
theorem PD {ls:SM}(hn:(mW ls).Nodup)(ch v:Int)(h:∃t,jW ch ls=some t):lJ (fun k _=>if ch=k then v else 0) ls=v:=by
  obtain⟨t,ht⟩:=h
  have b:=sJ (f:=fun(k:Int) (_:Seat)=>if ch=k then v else 0) hn ht
  have c:lJ (fun(k:Int) (_:Seat)=>if ch=k then v else 0) (pJ ch ls)=0:=by
    have:lJ (fun(k:Int) (_:Seat)=>if ch=k then v else 0) (pJ ch ls)=lJ (fun _ _=>0) (pJ ch ls):=pR fun x hx=>if_neg fun e=>(AR hx).2 e.symm
    rw[this]
    have:∀l:SM,lJ (fun(_:Int) (_:Seat)=>(0:Int)) l=0:=by
      intro l
      induction l with
      |nil=>rfl
      |cons x l ih=>rw[ky,ih];rfl
    exact this _
  rw[c,if_pos rfl]at b
  omega
theorem F8 (h:kW s):sQ s.own s.ls s.lh s.own.length=s.own.sum+vW s.ls+uM s.lh:=by
  unfold sQ nM
  rw[qI,y8,xR]
  have e1:lJ (fun k v=>((List.range s.own.length).map fun i:Nat=>mX s.lh (i:Int) k v).sum) s.ls=lJ (fun k v=>(v.h0+v.h1)+(kE s.lh k 0+kE s.lh k 1)) s.ls:=by
    refine pR fun x hx=>?_
    obtain⟨_,_,d,e,_⟩:=h.seats x hx
    unfold mX
    rw[qI,rO _ _ _ d.1 d.2,rO _ _ _ e.1 e.2]
    omega
  rw[e1,AX]
  have e2:lJ (fun(k:Int) (_:Seat)=>kE s.lh k 0+kE s.lh k 1) s.ls=uM s.lh:=by
    have:lJ (fun(k:Int) (_:Seat)=>kE s.lh k 0+kE s.lh k 1) s.ls=lJ (fun(k:Int) (_:Seat)=>lJ (fun a b=>if a.ch=k then b.am else 0) s.lh) s.ls:=by
      refine pR fun x hx=>?_
      unfold kE
      rw[<-AX]
      refine pR fun y hy=>?_
      have:=(h.holds y hy).1
      unfold mR
      have q:y.2.1.side=0\/y.2.1.side=1:=by omega
      rcases q with q|q<;>by_cases c:y.2.1.ch=x.2.1<;>simp[q,c]
    rw[this,F7]
    unfold uM
    exact pR fun y hy=>PD h.keys _ _ (h.holds y hy).2.2
  rw[e2]
  unfold vW
  omega
theorem Ez (h:kW s)(p:Int):tJ s.own p<=nM s.own s.ls s.lh p/\0<=tJ s.own p:=by
  have b:0<=lJ (mX s.lh p) s.ls:=mF fun x hx=>by
    obtain⟨_,_,_,_,_,c,d⟩:=h.seats x hx
    have e:=(h.F4 x.2.1 0).1
    have f:=(h.F4 x.2.1 1).1
    unfold mX
    split<;>split<;>omega
  have i:0<=tJ s.own p:=by
    unfold tJ
    split
    · exact(h.ownB _).1
    · exact Int.le_refl _
  unfold nM
  omega
theorem Jp (h:kW s)(p:Int):nM s.own s.ls s.lh p<=1125899906842624:=by
  have j:lJ (mX s.lh p) s.ls<=vW s.ls+uM s.lh:=by
    have e:lJ (fun(k:Int) (v:Seat)=>(v.h0+v.h1)+(kE s.lh k 0+kE s.lh k 1)) s.ls=vW s.ls+uM s.lh:=by
      have ht:=F8 h
      unfold sQ nM at ht
      rw[qI,y8,xR]at ht
      have e1:lJ (fun k v=>((List.range s.own.length).map fun i:Nat=>mX s.lh (i:Int) k v).sum) s.ls=lJ (fun k v=>(v.h0+v.h1)+(kE s.lh k 0+kE s.lh k 1)) s.ls:=by
        refine pR fun x hx=>?_
        obtain⟨_,_,b,c,_⟩:=h.seats x hx
        unfold mX
        rw[qI,rO _ _ _ b.1 b.2,rO _ _ _ c.1 c.2]
        omega
      rw[e1]at ht
      omega
    rw[<-e]
    have hle:∀l:SM,(∀x∈l,x∈s.ls)->lJ (mX s.lh p) l<=lJ (fun(k:Int) (v:Seat)=>(v.h0+v.h1)+(kE s.lh k 0+kE s.lh k 1)) l:=by
      intro l
      induction l with
      |nil=>intro _;exact Int.le_refl _
      |cons x l ih=>
        intro hl
        have:=ih fun y hy=>hl y (List.mem_cons_of_mem _ hy)
        obtain⟨_,_,_,_,_,d,f⟩:=h.seats x (hl x List.mem_cons_self)
        have m:=(h.F4 x.2.1 0).1
        have n:=(h.F4 x.2.1 1).1
        rw[ky,ky]
        have:mX s.lh p x.2.1 x.2.2<=(x.2.2.h0+x.2.2.h1)+(kE s.lh x.2.1 0+kE s.lh x.2.1 1):=by
          unfold mX
          split<;>split<;>omega
        omega
    exact hle s.ls fun _ hx=>hx
  have o:tJ s.own p<=s.own.sum:=by
    unfold tJ
    split
    · exact Es h.own _
    · exact h.parts.1
  have d:=h.tot
  have f:=h.lost
  unfold qp.all at d
  unfold nM
  omega
theorem PE {own:List Int}(h:Am own):kW ⟨own,[],0,[],0,0⟩/\(⟨own,[],0,[],0,0⟩:qp).all=own.sum:=by
  obtain⟨b,c,d⟩:=h
  have ha:(⟨own,[],0,[],0,0⟩:qp).all=own.sum:=by simp[qp.all,vW,uM,lJ]
  exact⟨⟨b,c,fun x hx=>by simp at hx,by simp[mW],fun x hx=>by simp at hx,by simp[mW],Int.le_refl _,by rw[ha];exact d⟩,ha⟩
end
end Go.Lsp

namespace Go.Lsp
set_option linter.unusedSectionVars false
open Go.rZ Go.Num Go.Sx
abbrev BM:=List (Nat×Int×Bool)
def Marks (lg:BM)(ks:List Int):Prop:=(∀x,jW x lg=if x∈ks then some true else none)/\lg.length<=ks.length/\(lg.length=ks.length↔ks.Nodup)
theorem Marks.nil:Marks [] []:=⟨fun x=>by simp[Em],Nat.le_refl _,by simp⟩
theorem zt {ks:List Int}{k:Int}:(ks++[k]).Nodup↔ks.Nodup/\k∉ks:=by
  rw[List.nodup_append]
  constructor
  · rintro⟨c,_,d⟩;exact⟨c,fun h=>d k h k (by simp) rfl⟩
  · rintro⟨c,f⟩
    refine⟨c,by simp,fun a ha b hb e=>?_⟩
    simp at hb
    subst hb
    subst e
    exact f ha
theorem Marks.new {lg:BM}{ks:List Int}{k:Int}{b:Nat}(h:Marks lg ks)(hn:jW k lg=none):Marks (lg++[(b,k,true)]) (ks++[k]):=by
  obtain⟨c,f,d⟩:=h
  have hk:k∉ks:=fun hh=>by rw[c k,if_pos hh]at hn;cases hn
  refine⟨fun x=>?_,by simp;omega,?_⟩
  · rw[ui hn,c x]
    by_cases e:x=k
    · simp[e]
    · simp[e]
  · rw[zt,<-d]
    simp only[List.length_append,List.length_cons,List.length_nil]
    constructor
    · intro h;exact⟨by omega,hk⟩
    · rintro⟨h,_⟩;omega
theorem Marks.old {lg:BM}{ks:List Int}{k:Int}{v:Bool}(h:Marks lg ks)(hs:jW k lg=some v):Marks (lg.map fun y=>if y.2.1=k then(y.1,k,true)else y) (ks++[k]):=by
  obtain⟨b,c,d⟩:=h
  have hk:k∈ks:=by
    by_cases q:k∈ks
    · exact q
    · rw[b k,if_neg q]at hs;cases hs
  refine⟨fun x=>?_,by simp;omega,?_⟩
  · rw[Jh ⟨v,hs⟩,b x]
    by_cases e:x=k
    · simp[e,hk]
    · simp[e]
  · rw[zt]
    simp only[List.length_map,List.length_append,List.length_cons,List.length_nil]
    constructor
    · intro h;omega
    · rintro⟨_,h⟩;exact absurd hk h
theorem Marks.val {lg:BM}{ks:List Int}{k:Int}{v:Bool}(h:Marks lg ks)(hs:jW k lg=some v):v=true/\k∈ks:=by
  rw[h.1 k]at hs
  split at hs
  · injection hs with hs;exact⟨hs.symm,by assumption⟩
  · cases hs
theorem Marks.not {lg:BM}{ks:List Int}{k:Int}(h:Marks lg ks)(hs:jW k lg=none):k∉ks:=fun q=>by
  rw[h.1 k,if_pos q]at hs;cases hs
theorem ru {α:Type}{l:List α}{z:α}{k:Nat}(h:k<l.length):l.take (k+1)=l.take k++[l.getD k z]:=by
  rw[List.take_add_one]
  simp[List.getD,h]
theorem sK {α:Type}{l:List α}{z:α}{k:Nat}(h:k<l.length):l.getD k z∈l:=by
  have:l.getD k z=l[k]:=by simp[List.getD,h]
  rw[this];exact List.getElem_mem h
def chans (ss:List Seat):List Int:=ss.map (·.ch)
theorem uB {ss:List Seat}{k:Nat}(h:k<ss.length):chans (ss.take (k+1))=chans (ss.take k)++[(ss.getD k jM).ch]:=by unfold chans;rw[ru (z:=jM) h];simp
def nW (n:Nat)(ss:List Seat):Prop:=(chans ss).Nodup/\∀s∈ss,vM n s
instance UC (n : Nat) (ss : List Seat) : Decidable (nW n ss) := by unfold nW; infer_instance
theorem tT {n:Nat}{ss:List Seat}{k:Nat}(h:k<ss.length):nW n (ss.take (k+1))↔nW n (ss.take k)/\(ss.getD k jM).ch∉chans (ss.take k)/\vM n (ss.getD k jM):=by
  unfold nW
  rw[uB h,zt,ru (z:=jM) h]
  constructor
  · rintro⟨⟨c,d⟩,b⟩
    exact⟨⟨c,fun s hs=>b s (List.mem_append_left _ hs)⟩,d,b _ (by simp)⟩
  · rintro⟨⟨c,d⟩,b,e⟩
    refine⟨⟨c,b⟩,fun s hs=>?_⟩
    rcases List.mem_append.1 hs with hs|hs
    · exact d s hs
    · simp only[List.mem_singleton]at hs;rw[hs];exact e
def xx (n:Nat)(old:List Int)(ss:List Seat)(fee:List Int):Prop:=(old.Nodup/\ss.length<=40/\fee.length=n)/\nW n ss/\∀x∈fee,nu x=true
instance WG (n : Nat) (old : List Int) (ss : List Seat) (fee : List Int) : Decidable (xx n old ss fee) := by unfold xx; infer_instance
def rX (l:List Int)(s:Seat):Nat->List Int
  |0=>l
  |k+1=>(rX l s k).set (s.p k).toNat ((rX l s k).getD (s.p k).toNat 0+s.h k)
def sS (l:List Int)(s:Seat):Nat->List Int
  |0=>l
  |k+1=>(sS l s k).set (s.p k).toNat ((sS l s k).getD (s.p k).toNat 0-s.h k)
theorem uC (l:List Int)(s:Seat):∀k,(rX l s k).length=l.length
  |0=>rfl
  |k+1=>by rw[rX,List.length_set,uC l s k]
theorem uD (l:List Int)(s:Seat):∀k,(sS l s k).length=l.length
  |0=>rfl
  |k+1=>by rw[sS,List.length_set,uD l s k]
theorem PG (l:List Int)(i j:Nat)(v:Int):(l.set i v).getD j 0=if j=i/\i<l.length then v else l.getD j 0:=by
  simp only[List.getD_eq_getElem?_getD,List.getElem?_set]
  by_cases h:i=j
  · subst h
    by_cases b:i<l.length
    · simp[b]
    · simp[b]
  · simp[h,Ne.symm h]
theorem AY {l:List Int}{s:Seat}{lo hi:Int}(h0:0<=s.h0/\s.h0<=1125899906842624)(h1:0<=s.h1/\s.h1<=1125899906842624)(h:∀i,lo<=l.getD i 0/\l.getD i 0<=hi):∀k,k<=2->∀i,lo<=(rX l s k).getD i 0/\(rX l s k).getD i 0<=hi+1125899906842624*k
  |0,_,i=>by have:=h i;rw[rX];omega
  |k+1,hk,i=>by
    have a:=AY h0 h1 h k (by omega) i
    have b:=AY h0 h1 h k (by omega) (s.p k).toNat
    have c:0<=s.h k/\s.h k<=1125899906842624:=by unfold Seat.h;split<;>assumption
    rw[rX,PG]
    split<;>omega
theorem AZ {l:List Int}{s:Seat}{lo hi:Int}(h0:0<=s.h0/\s.h0<=1125899906842624)(h1:0<=s.h1/\s.h1<=1125899906842624)(h:∀i,lo<=l.getD i 0/\l.getD i 0<=hi):∀k,k<=2->∀i,lo-1125899906842624*k<=(sS l s k).getD i 0/\(sS l s k).getD i 0<=hi
  |0,_,i=>by have:=h i;rw[sS];omega
  |k+1,hk,i=>by
    have a:=AZ h0 h1 h k (by omega) i
    have b:=AZ h0 h1 h k (by omega) (s.p k).toNat
    have c:0<=s.h k/\s.h k<=1125899906842624:=by unfold Seat.h;split<;>assumption
    rw[sS,PG]
    split<;>omega
def nJ (ls:SM)(k:Int):Seat:=(jW k ls).getD jM
def l9 (n:Nat)(ls:SM)(old:List Int):List Int:=old.foldl (fun l ch=>rX l (nJ ls ch) 2) (List.replicate n 0)
def nQ (l:List Int)(ss:List Seat):List Int:=ss.foldl (fun l s=>sS l s 2) l
theorem rz (n:Nat)(ls:SM)(old:List Int):(l9 n ls old).length=n:=by
  have:∀(old:List Int) (l:List Int),(old.foldl (fun l ch=>rX l (nJ ls ch) 2) l).length=l.length:=by
    intro old
    induction old with
    |nil=>intro l;rfl
    |cons c old ih=>intro l;rw[List.foldl_cons,ih,uC]
  unfold l9
  rw[this,List.length_replicate]
theorem yD (l:List Int)(ss:List Seat):(nQ l ss).length=l.length:=by
  induction ss generalizing l with
  |nil=>rfl
  |cons s ss ih=>
    have e:nQ l (s::ss)=nQ (sS l s 2) ss:=rfl
    rw[e,ih,uD]
theorem zu {n:Nat}{ls:SM}{old:List Int}{k:Nat}(h:k<old.length):l9 n ls (old.take (k+1))=rX (l9 n ls (old.take k)) (nJ ls (old.getD k 0)) 2:=by
  unfold l9;rw[ru (z:=0) h,List.foldl_append];rfl
theorem zw {l:List Int}{ss:List Seat}{k:Nat}(h:k<ss.length):nQ l (ss.take (k+1))=sS (nQ l (ss.take k)) (ss.getD k jM) 2:=by
  unfold nQ;rw[ru (z:=jM) h,List.foldl_append];rfl
def nO (ls:SM)(old:List Int):SM:=old.foldl (fun l ch=>pJ ch l) ls
theorem Jq {ls:SM}{old:List Int}{k:Nat}(h:k<old.length):nO ls (old.take (k+1))=pJ (old.getD k 0) (nO ls (old.take k)):=by
  unfold nO;rw[ru (z:=0) h,List.foldl_append];rfl
def KE (st:SM×Nat)(s:Seat):SM×Nat:=match jW s.ch st.1 with
  |none=>(st.1++[(st.2,s.ch,s)],st.2+1)
  |some _=>(oq s.ch s st.1,st.2)
def su (st:SM×Nat)(ss:List Seat):SM×Nat:=ss.foldl KE st
theorem CY {st:SM×Nat}{ss:List Seat}{k:Nat}(h:k<ss.length):su st (ss.take (k+1))=KE (su st (ss.take k)) (ss.getD k jM):=by
  unfold su;rw[ru (z:=jM) h,List.foldl_append];rfl
theorem F9 {lm:SM}{cm:Nat}{s:Seat}(h:jW s.ch lm=none):KE (lm,cm) s=(lm++[(cm,s.ch,s)],cm+1):=by unfold KE;simp only[h]
theorem Nh {lm:SM}{cm:Nat}{s v:Seat}(h:jW s.ch lm=some v):KE (lm,cm) s=(oq s.ch s lm,cm):=by unfold KE;simp only[h]
def A7 (ls:SM)(ch:Int):Prop:=jW ch ls=none
instance WH (ls : SM) (ch : Int) : Decidable (A7 ls ch) := by unfold A7; infer_instance
def A8 (lh:HM)(ch:Int):Prop:=¬kE lh ch 0+kE lh ch 1=0
instance Xt (lh : HM) (ch : Int) : Decidable (A8 lh ch) := by unfold A8; infer_instance
def There (ls:SM)(old:List Int)(s:Seat):Prop:=¬jW s.ch ls=none/\s.ch∉old
instance WI (ls : SM) (old : List Int) (s : Seat) : Decidable (There ls old s) := by unfold There; infer_instance
def LZ (n:Nat)(ls:SM)(old:List Int)(ss:List Seat):List Int:=nQ (l9 n ls old) ss
def rP (n:Nat)(ls:SM)(lh:HM)(old:List Int)(ss:List Seat)(fee:List Int):Int:=
  if¬xx n old ss fee then 1 else if∃ch∈old,A7 ls ch then 5 else if∃ch∈old,A8 lh ch then 14 else if∃s∈ss,There ls old s then 4 else if LZ n ls old ss≠fee then 8 else 0
def y9 (ls:SM)(cs:Nat)(old:List Int)(ss:List Seat):SM×Nat:=su (nO ls old,cs) ss
def sI (s:qp)(old:List Int)(ss:List Seat)(fee:List Int):qp×Int:=
  if rP s.own.length s.ls s.lh old ss fee≠0 then(s,rP s.own.length s.ls s.lh old ss fee)
  else(⟨s.own,(y9 s.ls s.cs old ss).1,(y9 s.ls s.cs old ss).2,s.lh,s.ck,s.lost+fee.sum⟩,0)
theorem Vr {n:Nat}{ls:SM}{lh:HM}{old:List Int}{ss:List Seat}{fee:List Int}(h:rP n ls lh old ss fee=0):xx n old ss fee/\(∀ch∈old,∃t,jW ch ls=some t)/\(∀ch∈old,kE lh ch 0+kE lh ch 1=0)/\(∀s∈ss,jW s.ch ls=none\/s.ch∈old)/\LZ n ls old ss=fee:=by
  unfold rP at h
  split at h
  · cases h
  · rename_i c1
    split at h
    · cases h
    · rename_i c2
      split at h
      · cases h
      · rename_i d
        split at h
        · cases h
        · rename_i c4
          split at h
          · cases h
          · rename_i e
            refine⟨Decidable.not_not.1 c1,fun ch hc=>?_,fun ch hc=>?_,fun s hs=>?_,Decidable.not_not.1 e⟩
            · cases hg:jW ch ls with
              |none=>exact absurd ⟨ch,hc,hg⟩ c2
              |some t=>exact⟨t,rfl⟩
            · exact Decidable.not_not.1 fun hh=>d ⟨ch,hc,hh⟩
            · by_cases b:jW s.ch ls=none
              · exact .inl b
              · by_cases c:s.ch∈old
                · exact .inr c
                · exact absurd ⟨s,hs,b,c⟩ c4
theorem EA {ls:SM}(x:Int):∀old:List Int,jW x (nO ls old)=if x∈old then none else jW x ls:=by
  intro old
  induction old generalizing ls with
  |nil=>simp[nO]
  |cons c old ih=>
    have:nO ls (c::old)=nO (pJ c ls) old:=rfl
    rw[this,ih,AQ]
    by_cases b:x∈old<;>by_cases d:x=c<;>simp[b,d]
theorem PH {l:List Int}{s:Seat}(h0:0<=s.p 0/\s.p 0<l.length)(h1:0<=s.p 1/\s.p 1<l.length):(rX l s 2).sum=l.sum+s.h0+s.h1:=by
  have b:s.h 0=s.h0:=rfl
  have e1:s.h 1=s.h1:=rfl
  simp only[rX]
  rw[wR _ _ _ (by rw[List.length_set];omega),wR _ _ _ (by omega)]
  omega
theorem PI {l:List Int}{s:Seat}(h0:0<=s.p 0/\s.p 0<l.length)(h1:0<=s.p 1/\s.p 1<l.length):(sS l s 2).sum=l.sum-s.h0-s.h1:=by
  have b:s.h 0=s.h0:=rfl
  have e1:s.h 1=s.h1:=rfl
  simp only[sS]
  rw[wR _ _ _ (by rw[List.length_set];omega),wR _ _ _ (by omega)]
  omega
theorem Ni {n:Nat}{ls ls0:SM}:∀(old:List Int) (l:List Int),l.length=n->old.Nodup->(mW ls).Nodup->(∀ch∈old,jW ch ls=jW ch ls0)->(∀ch∈old,∃t,jW ch ls=some t/\nN n t)->
    (old.foldl (fun l ch=>rX l (nJ ls0 ch) 2) l).length=n/\(old.foldl (fun l ch=>rX l (nJ ls0 ch) 2) l).sum+vW (nO ls old)=l.sum+vW ls:=by
  intro old
  induction old generalizing ls with
  |nil=>intro l hl _ _ _ _;exact⟨hl,rfl⟩
  |cons c old ih=>
    intro l hl hn hk he ht
    rw[List.nodup_cons]at hn
    obtain⟨t,b,d⟩:=ht c List.mem_cons_self
    obtain⟨i,j,_⟩:=zq d
    have hs:nJ ls0 c=t:=by unfold nJ;rw[<-he c List.mem_cons_self,b];rfl
    have hd:=sJ (f:=fun(_:Int) (s:Seat)=>s.h0+s.h1) hk b
    have hne:∀x∈old,x≠c:=fun x hx e=>hn.1 (by rw[<-e];exact hx)
    have:=ih (ls:=pJ c ls) (rX l t 2) (by rw[uC,hl]) hn.2 (uZ hk) (fun x hx=>by rw[AQ,if_neg (hne x hx)];exact he x (List.mem_cons_of_mem _ hx)) (fun x hx=>by rw[AQ,if_neg (hne x hx)];exact ht x (List.mem_cons_of_mem _ hx))
    rw[List.foldl_cons,hs]
    refine⟨this.1,?_⟩
    have e1:nO ls (c::old)=nO (pJ c ls) old:=rfl
    rw[e1,this.2,PH (by rw[hl];exact i) (by rw[hl];exact j)]
    unfold vW
    omega
theorem KF:∀(ss:List Seat) (st:SM×Nat),(chans ss).Nodup->(∀s∈ss,jW s.ch st.1=none)->(mW st.1).Nodup->
    (mW (su st ss).1).Nodup/\vW (su st ss).1=vW st.1+(ss.map fun s=>s.h0+s.h1).sum/\(∀x∈(su st ss).1,x∈st.1\/∃s∈ss,x.2.1=s.ch/\x.2.2=s)/\(∀c,jW c (su st ss).1=(match ss.find? (fun s=>decide (s.ch=c))with |some s=>some s|none=>jW c st.1)):=by
  intro ss
  induction ss with
  |nil=>intro st _ _ hk;exact⟨hk,by simp[su],fun x hx=> .inl hx,fun c=>rfl⟩
  |cons s ss ih=>
    intro st hn hg hk
    obtain⟨ls,cs⟩:=st
    unfold chans at hn
    rw[List.map_cons,List.nodup_cons]at hn
    have b:=hg s List.mem_cons_self
    simp only at b hk
    have e:su (ls,cs) (s::ss)=su (ls++[(cs,s.ch,s)],cs+1) ss:=by
      show(s::ss).foldl KE (ls,cs)=_
      rw[List.foldl_cons,F9 b];rfl
    rw[e]
    have hne:∀t∈ss,t.ch≠s.ch:=fun t ht e=>hn.1 (by rw[<-e];exact List.mem_map_of_mem ht)
    obtain⟨i1,i2,i3,i4⟩:=ih (ls++[(cs,s.ch,s)],cs+1) hn.2 (fun t ht=>by simp only;rw[ui b,if_neg (hne t ht)];exact hg t (List.mem_cons_of_mem _ ht)) (wT hk b)
    refine⟨i1,?_,?_,?_⟩
    · rw[i2]
      unfold vW
      simp only[Eo,Ep,List.map_cons,List.sum_cons]
      omega
    · intro x hx
      rcases i3 x hx with hx|⟨t,ht,q⟩
      · rcases List.mem_append.1 hx with hx|hx
        · exact .inl hx
        · simp only[List.mem_singleton]at hx
          exact .inr ⟨s,List.mem_cons_self,by rw[hx],by rw[hx]⟩
      · exact .inr ⟨t,List.mem_cons_of_mem _ ht,q⟩
    · intro c
      rw[i4,List.find?_cons]
      by_cases hc:s.ch=c
      · subst hc
        have:ss.find? (fun t=>decide (t.ch=s.ch))=none:=by
          rw[List.find?_eq_none]
          intro t ht
          have:=hne t ht
          simpa using this
        simp only[decide_true]
        rw[this]
        simp only
        rw[ui b,if_pos rfl]
      · simp only[hc,decide_false]
        cases ss.find? (fun s=>decide (s.ch=c))with
        |some t=>rfl
        |none=>
          simp only
          rw[ui b,if_neg (fun q=>hc q.symm)]
theorem Nj {n:Nat}:∀(ss:List Seat) (l:List Int),l.length=n->(∀s∈ss,vM n s)->(nQ l ss).length=n/\(nQ l ss).sum=l.sum-(ss.map fun s=>s.h0+s.h1).sum:=by
  intro ss
  induction ss with
  |nil=>intro l hl _;exact⟨hl,by simp[nQ]⟩
  |cons s ss ih=>
    intro l hl hm
    obtain⟨d,f,_⟩:=hm s List.mem_cons_self
    have:=ih (sS l s 2) (by rw[uD,hl]) fun t ht=>hm t (List.mem_cons_of_mem _ ht)
    have e:nQ l (s::ss)=nQ (sS l s 2) ss:=rfl
    rw[e]
    refine⟨this.1,?_⟩
    have b:s.p 0=s.p0:=rfl
    have c:s.p 1=s.p1:=rfl
    rw[this.2,PI (by rw[hl,b];omega) (by rw[hl,c];omega)]
    simp only[List.map_cons,List.sum_cons]
    omega
theorem KG {ls:SM}{x:Nat×Int×Seat}:∀{old:List Int},x∈nO ls old->x∈ls/\x.2.1∉old:=by
  intro old
  induction old generalizing ls with
  |nil=>intro h;exact⟨h,by simp⟩
  |cons c old ih=>
    intro h
    have e:nO ls (c::old)=nO (pJ c ls) old:=rfl
    rw[e]at h
    obtain⟨b,d⟩:=ih h
    obtain⟨f,i⟩:=AR b
    exact⟨f,by rw[List.mem_cons];rintro(q|q);exact i q;exact d q⟩
theorem Jr {ls:SM}:∀{old:List Int},(mW ls).Nodup->(mW (nO ls old)).Nodup:=by
  intro old
  induction old generalizing ls with
  |nil=>exact id
  |cons c old ih=>
    intro h
    have e:nO ls (c::old)=nO (pJ c ls) old:=rfl
    rw[e]
    exact ih (uZ h)
variable {s:qp}
theorem PK (h:kW s)(old:List Int)(ss:List Seat)(fee:List Int):kW (sI s old ss fee).1/\(sI s old ss fee).1.all=s.all:=by
  unfold sI
  split
  · exact⟨h,rfl⟩
  · rename_i c
    have c:=Decidable.not_not.1 c
    obtain⟨⟨⟨j,J,K⟩,⟨k,i⟩,l⟩,m,o,v,y⟩:=Vr c
    have hg:=Ni (n:=s.own.length) (ls0:=s.ls) old (List.replicate s.own.length 0) (by simp) j h.keys (fun _ _=>rfl) (fun ch hc=>by obtain⟨t,ht⟩:=m ch hc;exact⟨t,ht,(h.seat ht).2.2.1⟩)
    have hz:(List.replicate s.own.length (0:Int)).sum=0:=by
      have:∀n:Nat,(List.replicate n (0:Int)).sum=0:=fun n=>by
        induction n with
        |zero=>rfl
        |succ n ih=>rw[List.replicate_succ,List.sum_cons,ih];rfl
      exact this _
    have hc:=Nj (n:=s.own.length) ss (l9 s.own.length s.ls old) hg.1 i
    have hnone:∀x∈ss,jW x.ch (nO s.ls old)=none:=fun x hx=>by
      rw[EA]
      split
      · rfl
      · rcases v x hx with q|q
        · exact q
        · contradiction
    obtain⟨z,A,B,C⟩:=KF ss (nO s.ls old,s.cs) k hnone (Jr h.keys)
    have abM:fee.sum=(l9 s.own.length s.ls old).sum-(ss.map fun s=>s.h0+s.h1).sum:=by rw[<-hc.2];exact congrArg List.sum y.symm
    have hgs:(l9 s.own.length s.ls old).sum+vW (nO s.ls old)=vW s.ls:=by
      have:=hg.2
      rw[hz]at this
      unfold l9
      omega
    have ha:(⟨s.own,(y9 s.ls s.cs old ss).1,(y9 s.ls s.cs old ss).2,s.lh,s.ck,s.lost+fee.sum⟩:qp).all=s.all:=by
      unfold qp.all y9
      simp only
      rw[A]
      simp only
      omega
    have hfn:0<=fee.sum:=Kz fun x hx=>by have:=l x hx;simp[nu]at this;omega
    refine⟨⟨h.len,h.own,?_,z,?_,h.hkeys,by have:=h.lost;simp only;omega,by rw[ha];exact h.tot⟩,ha⟩
    · intro x hx
      rcases B x hx with hx|⟨t,ht,b,d⟩
      · exact h.seats x (KG hx).1
      · obtain⟨e,f,D,F,H⟩:=i t ht
        rw[b,d]
        exact⟨rfl,⟨D,F⟩,⟨e.1,e.2.1⟩,⟨f.1,f.2.1⟩,H,e.2.2,f.2.2⟩
    · intro x hx
      obtain⟨b,d,t,I⟩:=h.holds x hx
      refine⟨b,d,?_⟩
      have hno:x.2.1.ch∉old:=fun hh=>F5 h (o _ hh) x hx rfl
      show∃t,jW x.2.1.ch (su (nO s.ls old,s.cs) ss).1=some t
      rw[C]
      cases ss.find? (fun s=>decide (s.ch=x.2.1.ch))with
      |some u=>exact⟨u,rfl⟩
      |none=>simp only;rw[EA,if_neg hno];exact⟨t,I⟩
section
variable {n:Nat}{ls:SM}{lh:HM}{old:List Int}{ss:List Seat}{fee:List Int}{bd b held:Bool}{B:Prop}{k:Nat}
theorem Js (hk:k<ss.length)(h:bd=true↔¬(B/\nW n (ss.take k)))(q:bd=true):true=true↔¬(B/\nW n (ss.take (k+1))):=
  ⟨fun _ hh=>h.1 q ⟨hh.1,((tT hk).1 hh.2).1⟩,fun _=>rfl⟩
theorem Nk (hk:k<ss.length)(q:(ss.getD k jM).ch∈chans (ss.take k)):true=true↔¬(B/\nW n (ss.take (k+1))):=
  ⟨fun _ hh=>((tT hk).1 hh.2).2.1 q,fun _=>rfl⟩
theorem PL (hk:k<ss.length)(h:bd=true↔¬(B/\nW n (ss.take k)))(q:¬bd=true)(q2:(ss.getD k jM).ch∉chans (ss.take k))(hb:b=true↔vM n (ss.getD k jM)):(!b)=true↔¬(B/\nW n (ss.take (k+1))):=by
  have hq:B/\nW n (ss.take k):=Classical.not_not.1 fun hh=>q (h.2 hh)
  constructor
  · intro c d
    have:=hb.2 ((tT hk).1 d.2).2.2
    rw[this]at c;cases c
  · intro c
    cases e:b
    · rfl
    · exact absurd ⟨hq.1,(tT hk).2 ⟨hq.2,q2,hb.1 e⟩⟩ c
theorem Vs (h:bd=true↔¬((old.Nodup/\ss.length<=40/\fee.length=n)/\nW n ss))(q:¬bd=true)(hb:b=true↔∃x∈fee,nu x=false)(q2:¬b=true):xx n old ss fee:=by
  obtain⟨c,d⟩:=Classical.not_not.1 fun hh=>q (h.2 hh)
  refine⟨c,d,fun x hx=>?_⟩
  cases e:nu x
  · exact absurd (hb.2 ⟨x,hx,e⟩) q2
  · rfl
theorem PN (h:¬xx n old ss fee):rP n ls lh old ss fee=1:=by unfold rP;rw[if_pos h]
theorem SN (h:bd=true↔¬((old.Nodup/\ss.length<=40/\fee.length=n)/\nW n ss))(q:bd=true):rP n ls lh old ss fee=1:=PN fun hh=>h.1 q ⟨hh.1,hh.2.1⟩
theorem SQ (hb:b=true↔∃x∈fee,nu x=false)(q2:b=true):rP n ls lh old ss fee=1:=PN fun hh=>by
  obtain⟨x,hx,e⟩:=hb.1 q2
  rw[hh.2.2 x hx]at e;cases e
theorem Vt (h:xx n old ss fee)(hk:k<old.length)(h5:jW (old.getD k 0) ls=none):rP n ls lh old ss fee=5:=by
  unfold rP
  rw[if_neg (not_not_intro h),if_pos ⟨_,sK hk,h5⟩]
theorem Nl (h5:∀i,i<k->∃t,jW (old.getD i 0) ls=some t)(hk:old.length<=k):¬∃ch∈old,A7 ls ch:=by
  rintro⟨ch,hc,hg⟩
  obtain⟨i,hi,rfl⟩:=List.getElem_of_mem hc
  obtain⟨t,ht⟩:=h5 i (by omega)
  have e:old.getD i 0=old[i]:=by simp[List.getD,hi]
  rw[e]at ht
  unfold A7 at hg
  rw[hg]at ht;cases ht
theorem Nn (h:held=true↔∃i,i<k/\A8 lh (old.getD i 0))(q:held=true):true=true↔∃i,i<k+1/\A8 lh (old.getD i 0):=
  ⟨fun _=>by obtain⟨i,c,b⟩:=h.1 q;exact⟨i,by omega,b⟩,fun _=>rfl⟩
theorem Np (h:held=true↔∃i,i<k/\A8 lh (old.getD i 0))(q:¬held=true):(!(decide (kE lh (old.getD k 0) 0+kE lh (old.getD k 0) 1=0)))=true↔∃i,i<k+1/\A8 lh (old.getD i 0):=by
  rw[Bool.not_eq_true',decide_eq_false_iff_not]
  constructor
  · intro b;exact⟨k,by omega,b⟩
  · rintro⟨i,b,c⟩
    by_cases e:i=k
    · subst e;exact c
    · exact absurd (h.2 ⟨i,by omega,c⟩) q
theorem SS (h:xx n old ss fee)(h5:¬∃ch∈old,A7 ls ch)(hk:k<=old.length)(hh:held=true↔∃i,i<k/\A8 lh (old.getD i 0))(q:held=true):rP n ls lh old ss fee=14:=by
  obtain⟨i,c,b⟩:=hh.1 q
  unfold rP
  rw[if_neg (not_not_intro h),if_neg h5,if_pos ⟨_,sK (by omega),b⟩]
theorem PO (hk:old.length<=k)(hh:held=true↔∃i,i<k/\A8 lh (old.getD i 0))(q:¬held=true):¬∃ch∈old,A8 lh ch:=by
  rintro⟨ch,hc,hg⟩
  obtain⟨i,hi,rfl⟩:=List.getElem_of_mem hc
  refine q (hh.2 ⟨i,by omega,?_⟩)
  have e:old.getD i 0=old[i]:=by simp[List.getD,hi]
  rw[e];exact hg
theorem Vu (h:xx n old ss fee)(h5:¬∃ch∈old,A7 ls ch)(Xu:¬∃ch∈old,A8 lh ch)(hk:k<ss.length)(h4:There ls old (ss.getD k jM)):rP n ls lh old ss fee=4:=by
  unfold rP
  rw[if_neg (not_not_intro h),if_neg h5,if_neg Xu,if_pos ⟨_,sK hk,h4⟩]
theorem Nq (h4:∀i,i<k->¬There ls old (ss.getD i jM))(hk:ss.length<=k):¬∃s∈ss,There ls old s:=by
  rintro⟨s,hc,hg⟩
  obtain⟨i,hi,rfl⟩:=List.getElem_of_mem hc
  refine h4 i (by omega) ?_
  have e:ss.getD i jM=ss[i]:=by simp[List.getD,hi]
  rw[e];exact hg
theorem Vv (h:xx n old ss fee)(h5:¬∃ch∈old,A7 ls ch)(Xu:¬∃ch∈old,A8 lh ch)(h4:¬∃s∈ss,There ls old s)(h8:¬nQ (l9 n ls old) ss=fee):rP n ls lh old ss fee=8:=by
  unfold rP
  rw[if_neg (not_not_intro h),if_neg h5,if_neg Xu,if_neg h4,if_pos (show LZ n ls old ss≠fee from h8)]
theorem SV (h:xx n old ss fee)(h5:¬∃ch∈old,A7 ls ch)(Xu:¬∃ch∈old,A8 lh ch)(h4:¬∃s∈ss,There ls old s)(h8:nQ (l9 n ls old) ss=fee):rP n ls lh old ss fee=0:=by
  unfold rP
  rw[if_neg (not_not_intro h),if_neg h5,if_neg Xu,if_neg h4,if_neg (not_not_intro (show LZ n ls old ss=fee from h8))]
theorem Ma (hs:∀x∈ls,nN n x.2.2):∀k,k<=old.length->(∀i,i<k->∃t,jW (old.getD i 0) ls=some t)->∀i,0<=(l9 n ls (old.take k)).getD i 0/\(l9 n ls (old.take k)).getD i 0<=2251799813685248*k
  |0,_,_,i=>by
    have:(l9 n ls (old.take 0))=List.replicate n 0:=rfl
    rw[this]
    simp only[List.getD_eq_getElem?_getD,List.getElem?_replicate]
    split<;>simp
  |k+1,hk,ht,i=>by
    have ih:=Ma hs k (by omega) fun i hi=>ht i (by omega)
    obtain⟨t,htt⟩:=ht k (by omega)
    obtain⟨b,hb⟩:=oQ htt
    have so:nN n t:=hs _ hb
    have e:nJ ls (old.getD k 0)=t:=by unfold nJ;rw[htt];rfl
    rw[zu (by omega),e]
    have:=AY so.2.2.2.1 so.2.2.2.2 ih 2 (Nat.le_refl _) i
    omega
theorem Mc {l:List Int}{H:Int}(hm:∀s∈ss,vM n s)(hl:∀i,0<=l.getD i 0/\l.getD i 0<=H):∀k,k<=ss.length->∀i,-(2251799813685248*k)<=(nQ l (ss.take k)).getD i 0/\(nQ l (ss.take k)).getD i 0<=H
  |0,_,i=>by
    have:nQ l (ss.take 0)=l:=rfl
    rw[this]
    have:=hl i
    omega
  |k+1,hk,i=>by
    have ih:=Mc hm hl k (by omega)
    obtain⟨b,c,_⟩:=hm _ (sK (z:=jM) (show k<ss.length by omega))
    rw[zw (by omega)]
    have:=AZ b.2.2 c.2.2 ih 2 (Nat.le_refl _) i
    omega
theorem PQ {t:Seat}(h:vM n t):nN n t:=⟨⟨h.1.1,h.1.2.1⟩,⟨h.2.1.1,h.2.1.2.1⟩,h.2.2.2.2,h.1.2.2,h.2.1.2.2⟩
theorem Jt (h:∀x∈fee,nu x=true):∀k,k<=fee.length->0<=(fee.take k).sum/\(fee.take k).sum<=1125899906842624*k
  |0,_=>by simp
  |k+1,hk=>by
    have ih:=Jt h k (by omega)
    have c:=h _ (sK (z:=0) (show k<fee.length by omega))
    simp only[nu,decide_eq_true_eq]at c
    rw[qG (by omega)]
    omega
theorem SY (h:∀x∈fee,nu x=true)(hk:k<fee.length):0<=fee.getD k 0/\fee.getD k 0<=1125899906842624:=by
  have c:=h _ (sK (z:=0) hk)
  simpa only[nu,decide_eq_true_eq]using c
end
end Go.Lsp

namespace Go.Lsp
set_option linter.unusedSectionVars false
open Go.rZ Go.Num Go.Sx
theorem Ci:∀(n:Nat) (l:List Int),l.Nodup->(∀x∈l,0<=x/\x<n)->l.length<=n
  |0,l,hn,hb=>by
    cases l with
    |nil=>simp
    |cons x l=>have:=hb x List.mem_cons_self;omega
  |n+1,l,hn,hb=>by
    by_cases h:(n:Int)∈l
    · have:=Ci n (l.erase (n:Int)) (hn.erase _) fun x hx=>by
        have b:=(hn.mem_erase_iff).1 hx
        have c:=hb x b.2
        have:=b.1
        omega
      rw[List.length_erase_of_mem h]at this
      omega
    · have:=Ci n l hn fun x hx=>by
        have c:=hb x hx
        have:x≠(n:Int):=fun e=>h (by rw[<-e];exact hx)
        omega
      omega
def KH (x:Int):List Int->List Int
  |[]=>[x]
  |y::l=>if x<=y then x::y::l else y::KH x l
def PR:List Int->List Int
  |[]=>[]
  |x::l=>KH x (PR l)
theorem Cj (x:Int):∀l:List Int,(KH x l).Perm (x::l)
  |[]=> .refl _
  |y::l=>by
    unfold KH
    split
    · exact .refl _
    · exact((Cj x l).cons y).trans (.swap x y l)
theorem Ck:∀l:List Int,(PR l).Perm l
  |[]=> .refl _
  |x::l=>(Cj x _).trans ((Ck l).cons x)
theorem Ju (x:Int):∀l:List Int,l.Pairwise (· <= ·)->(KH x l).Pairwise (· <= ·)
  |[],_=>by simp[KH]
  |y::l,h=>by
    have h2:=List.pairwise_cons.1 h
    unfold KH
    split
    · rename_i hxy
      refine List.pairwise_cons.2 ⟨fun z hz=>?_,h⟩
      rcases List.mem_cons.1 hz with rfl|hz
      · exact hxy
      · exact Int.le_trans hxy (h2.1 z hz)
    · rename_i hxy
      refine List.pairwise_cons.2 ⟨fun z hz=>?_,Ju x l h2.2⟩
      rcases List.mem_cons.1 ((Cj x l).mem_iff.1 hz)with rfl|hz
      · omega
      · exact h2.1 z hz
theorem Jv:∀l:List Int,(PR l).Pairwise (· <= ·)
  |[]=> .nil
  |x::l=>Ju x _ (Jv l)
theorem Jw:∀{a b:List Int},a.Perm b->a.Pairwise (· <= ·)->b.Pairwise (· <= ·)->a=b
  |[],b,h,_,_=>(List.nil_perm.1 h).symm
  |x::a,[],h,_,_=>by have:=h.length_eq;simp at this
  |x::a,y::b,h,h1,h2=>by
    have f:=List.pairwise_cons.1 h1
    have i:=List.pairwise_cons.1 h2
    have e:x=y:=by
      have c:x∈y::b:=h.mem_iff.1 List.mem_cons_self
      have d:y∈x::a:=h.mem_iff.2 List.mem_cons_self
      have j:y<=x:=by
        rcases List.mem_cons.1 c with rfl|c
        · exact Int.le_refl _
        · exact i.1 x c
      have k:x<=y:=by
        rcases List.mem_cons.1 d with rfl|d
        · exact Int.le_refl _
        · exact f.1 y d
      omega
    subst e
    rw[Jw (List.perm_cons x|>.1 h) f.2 i.2]
def Cm (ls:SM):List Seat:=(PR (mW ls)).map (nJ ls)
theorem EB (ls:SM):(Cm ls).length=ls.length:=by
  unfold Cm mW
  rw[List.length_map,(Ck _).length_eq,List.length_map]
section
variable {s:qp}
theorem kW.few (h:kW s):s.ls.length<=40:=by
  have:=Ci 40 (mW s.ls) h.keys fun x hx=>by
    unfold mW at hx
    obtain⟨y,hy,rfl⟩:=List.mem_map.1 hx
    exact(h.seats y hy).2.1
  unfold mW at this
  rwa [List.length_map]at this
end
end Go.Lsp

namespace Go.Fv
open Go.rZ Go.Num Go.Lsp Go.Sx
def Md (a b:BV):Prop:=a.fr<b.fr\/(a.fr=b.fr/\a.id<b.id)
instance Zz (a b : BV) : Decidable (Md a b) := by unfold Md; infer_instance
def yP (cs:List BV):Int:=(cs.map (·.am)).sum
def ZA (cs:List BV)(k:Int):List BV:=cs.filter fun c=>decide (c.fr=k)
def UD (fr id:Int)(c:BV):Bool:=decide (c.fr=fr)&&decide (c.id=id)
theorem zb {fr id:Int}{c:BV}:UD fr id c=true↔c.fr=fr/\c.id=id:=by simp[UD]
def A9 (cs:List BV)(fr id:Int):Option BV:=cs.find? (UD fr id)
def EC (cs:List BV)(fr id:Int):List BV:=cs.filter fun c=> !UD fr id c
structure vI where
  no:Int
  h0:Int
  h1:Int
  cs:List BV
  rt:Int
def vI.h (s:vI)(i:Int):Int:=if i=0 then s.h0 else s.h1
def vI.setH (s:vI)(i v:Int):vI:=if i=0 then{s with h0:=v}else{s with h1:=v}
def Xv (c:BV):Prop:=(0<=c.fr/\c.fr<=1)/\(1<=c.id/\c.id<=1048576)/\(1<=c.am/\c.am<=1125899906842624)/\(1<=c.ex/\c.ex<=1048576)/\right c.pt=true/\c.pt≠1
def u7 (rt:Int)(k:Nat):Int:=rt*(68+8*(k:Int))+660
structure ED (Wy op:Int)(s:vI):Prop where
  qV:0<=s.no/\s.no<=1048576
  Z9:0<=s.h0/\s.h0<=1125899906842624
  h1_:0<=s.h1/\s.h1<=1125899906842624
  rt_:0<=s.rt/\s.rt<=1000
  len:s.cs.length<=16
  fine:∀c∈s.cs,Xv c
  ord:s.cs.Pairwise Md
  tot:s.h0+s.h1+yP s.cs=Wy
  top:Wy<=1125899906842624
  pays:u7 s.rt s.cs.length<=s.h op
variable {Wy op:Int}{s:vI}{c:BV}{fr id:Int}{cs:List BV}
theorem Ba (a b:List BV):yP (a++b)=yP a+yP b:=by simp[yP]
theorem Gb (c:BV)(l:List BV):yP (c::l)=c.am+yP l:=by simp[yP]
theorem Me:∀{l:List BV},l.Pairwise Md->∀a∈l,∀b∈l,a.fr=b.fr->a.id=b.id->a=b
  |[],_,a,ha,_,_,_,_=>by cases ha
  |x::l,h,a,ha,b,hb,e1,e2=>by
    rw[List.pairwise_cons]at h
    rcases List.mem_cons.1 ha with q1|q1
    · rcases List.mem_cons.1 hb with q2|q2
      · rw[q1,q2]
      · have:=h.1 b q2;rw[<-q1]at this;unfold Md at this;omega
    · rcases List.mem_cons.1 hb with q2|q2
      · have:=h.1 a q1;rw[<-q2]at this;unfold Md at this;omega
      · exact Me h.2 a q1 b q2 e1 e2
theorem Gc {l:List BV}(h:l.Pairwise Md)(hc:c∈l):A9 l c.fr c.id=some c:=by
  unfold A9
  cases hf:l.find? (UD c.fr c.id)with
  |none=>exact absurd (zb.2 ⟨rfl,rfl⟩) (List.find?_eq_none.1 hf c hc)
  |some d=>
    have b:=zb.1 (List.find?_some hf)
    rw[Me h d (List.mem_of_find?_eq_some hf) c hc b.1 b.2]
theorem PS {l:List BV}(h:A9 l fr id=some c):c∈l/\c.fr=fr/\c.id=id:=⟨List.mem_of_find?_eq_some h,zb.1 (List.find?_some h)⟩
theorem Hq {l:List BV}:A9 l fr id=none↔∀c∈l,¬(c.fr=fr/\c.id=id):=by
  unfold A9
  rw[List.find?_eq_none]
  exact⟨fun h c hc e=>h c hc (zb.2 e),fun h c hc e=>h c hc (zb.1 e)⟩
theorem Gf {l:List BV}(h:l.Pairwise Md)(hc:c∈l):∃a b,l=a++c::b/\EC l c.fr c.id=a++b:=by
  obtain⟨a,b,rfl⟩:=List.append_of_mem hc
  refine⟨a,b,rfl,?_⟩
  have hne:∀d∈a++b,UD c.fr c.id d=false:=fun d hd=>by
    rw[Bool.eq_false_iff]
    intro he
    obtain⟨e1,e2⟩:=zb.1 he
    rw[List.pairwise_append,List.pairwise_cons]at h
    rcases List.mem_append.1 hd with hd|hd
    · have:=h.2.2 d hd c (List.mem_cons_self ..);unfold Md at this;omega
    · have:=h.2.1.1 d hd;unfold Md at this;omega
  have hs:UD c.fr c.id c=true:=zb.2 ⟨rfl,rfl⟩
  unfold EC
  rw[List.filter_append,List.filter_cons,hs,if_neg (by simp),List.filter_eq_self.2 fun d hd=>by rw[hne d (List.mem_append_left _ hd)];rfl,List.filter_eq_self.2 fun d hd=>by rw[hne d (List.mem_append_right _ hd)];rfl]
def M3 (s:vI)(c:BV)(to:Int):vI:={s with cs:=EC s.cs c.fr c.id}.setH to (s.h to+c.am)
theorem S9 (s:vI)(i v:Int):(s.setH i v).no=s.no/\(s.setH i v).cs=s.cs/\(s.setH i v).rt=s.rt:=by unfold vI.setH;split<;>exact⟨rfl,rfl,rfl⟩
theorem GZ {i:Int}(s:vI)(v:Int)(hi:0<=i/\i<=1):(s.setH i v).h0+(s.setH i v).h1=s.h0+s.h1-s.h i+v/\∀j,0<=j/\j<=1->(s.setH i v).h j=if j=i then v else s.h j:=by
  have:i=0\/i=1:=by omega
  rcases this with rfl|rfl
  · refine⟨by show v+s.h1=s.h0+s.h1-s.h0+v;omega,fun j hj=>?_⟩
    by_cases e:j=0
    · simp[vI.setH,vI.h,e]
    · simp[vI.setH,vI.h,e]
  · refine⟨by show s.h0+v=s.h0+s.h1-s.h1+v;omega,fun j hj=>?_⟩
    by_cases e:j=0
    · simp[vI.setH,vI.h,e]
    · have:j=1:=by omega
      simp[vI.setH,vI.h,this]
theorem ED.hB (h:ED Wy op s)(i:Int):0<=s.h i/\s.h i<=1125899906842624:=by unfold vI.h;split;exact h.Z9;exact h.h1_
def aaa (cs:List BV)(c:BV)(k:Nat):List BV:=cs.take k++c::cs.drop k
def rX (s:vI)(c:BV)(k:Nat):vI:={s with cs:=aaa s.cs c k}.setH c.fr (s.h c.fr-c.am)
theorem Nr (h:cs.Pairwise Md)(hc:c∈cs)(fr id:Int):A9 (EC cs c.fr c.id) fr id=if c.fr=fr/\c.id=id then none else A9 cs fr id:=by
  have ho:(EC cs c.fr c.id).Pairwise Md:=h.filter _
  split
  · rename_i e
    refine Hq.2 fun d hd q=>?_
    have:=(List.mem_filter.1 hd).2
    rw[zb.2 ⟨by rw[q.1,e.1],by rw[q.2,e.2]⟩]at this
    cases this
  · rename_i e
    cases hf:A9 cs fr id with
    |none=>exact Hq.2 fun d hd=>Hq.1 hf d (List.mem_filter.1 hd).1
    |some d=>
      obtain⟨i,b,f⟩:=PS hf
      rw[<-b,<-f]
      refine Gc ho (List.mem_filter.2 ⟨i,?_⟩)
      cases hb:UD c.fr c.id d
      · rfl
      · exact absurd ⟨by rw[<-b];exact(zb.1 hb).1.symm,by rw[<-f];exact(zb.1 hb).2.symm⟩ e
theorem Ta (h:cs.Pairwise Md)(hc:c∈cs)(q:Int):yP (ZA (EC cs c.fr c.id) q)=yP (ZA cs q)-if c.fr=q then c.am else 0:=by
  obtain⟨a,b,e1,e2⟩:=Gf h hc
  rw[e2,e1]
  unfold ZA
  rw[List.filter_append,List.filter_append,List.filter_cons,Ba,Ba]
  split
  · rename_i e;rw[if_pos (by simpa using e),Gb];omega
  · rename_i e;rw[if_neg (by simpa using e)];omega
theorem PT (h:cs.Pairwise Md)(hc:c∈cs):yP (EC cs c.fr c.id)=yP cs-c.am:=by
  obtain⟨a,b,e1,e2⟩:=Gf h hc
  rw[e2,e1,Ba,Ba,Gb];omega
structure KI (s:vI)(L:qp):Prop where
  own:L.own=[0,0]
  ls:∃b,L.ls=[(b,0,⟨0,0,1,s.h0,s.h1⟩)]
  lost:L.lost=0
  get:∀side id,jW (⟨0,side,id⟩:lX) L.lh=(A9 s.cs side id).map (fun c=>(⟨c.am,c.pt⟩:wJ))
  held:∀k,kE L.lh 0 k=yP (ZA s.cs k)
  all:uM L.lh=yP s.cs
variable {L:qp}
theorem KI.seat (h:KI s L):jW 0 L.ls=some ⟨0,0,1,s.h0,s.h1⟩:=by
  obtain⟨b,e⟩:=h.ls
  rw[e,yC,if_pos rfl]
theorem aab (s:vI){i:Int}(hi:0<=i/\i<=1):(⟨0,0,1,s.h0,s.h1⟩:Seat).h i.toNat=s.h i:=by
  have:i=0\/i=1:=by omega
  rcases this with rfl|rfl<;>rfl
theorem Ns (s:vI){i:Int}(hi:0<=i/\i<=1)(v:Int):(⟨0,0,1,s.h0,s.h1⟩:Seat).setH i.toNat v=⟨0,0,1,(s.setH i v).h0,(s.setH i v).h1⟩:=by
  have:i=0\/i=1:=by omega
  rcases this with rfl|rfl<;>rfl
theorem Tc {b:Nat}{t u:Seat}:oq (0:Int) u [(b,(0:Int),t)]=[(b,0,u)]:=by simp[oq]
theorem KI.end_ (h:KI s L)(hr:ED Wy op s)(hg:kW L)(hc:c∈s.cs){to:Int}(ht:0<=to/\to<=1):KI (M3 s c to) (Jj L 0 c.fr c.id ⟨c.am,c.pt⟩ ⟨0,0,1,s.h0,s.h1⟩ to):=by
  have hf:=Gc hr.ord hc
  have hx:jW (⟨0,c.fr,c.id⟩:lX) L.lh=some ⟨c.am,c.pt⟩:=by rw[h.get,hf];rfl
  obtain⟨b,els⟩:=h.ls
  obtain⟨k1,k2,d⟩:=S9 {s with cs:=EC s.cs c.fr c.id} to (s.h to+c.am)
  have kc:(M3 s c to).cs=EC s.cs c.fr c.id:=by unfold M3;exact k2
  unfold Jj
  refine⟨h.own,⟨b,?_⟩,h.lost,fun side id=>?_,fun q=>?_,?_⟩
  · simp only
    rw[els,Tc,aab s ht,Ns s ht]
    have e:∀i v,(({s with cs:=EC s.cs c.fr c.id}:vI).setH i v).h0=(s.setH i v).h0/\(({s with cs:=EC s.cs c.fr c.id}:vI).setH i v).h1=(s.setH i v).h1:=fun i v=>by unfold vI.setH;split<;>exact⟨rfl,rfl⟩
    unfold M3
    rw[(e _ _).1,(e _ _).2]
  · simp only
    rw[AQ,kc,Nr hr.ord hc,h.get]
    have:((⟨0,c.fr,c.id⟩:lX)=⟨0,side,id⟩)↔(c.fr=side/\c.id=id):=by rw[lX.mk.injEq];exact⟨fun q=>q.2,fun q=>⟨rfl,q⟩⟩
    by_cases e:c.fr=side/\c.id=id
    · rw[if_pos e]
      first|rw[if_pos (this.2 e)];rfl|(rw[if_pos (this.2 e).symm];rfl)
    · rw[if_neg e]
      first|rw[if_neg (fun q=>e (this.1 q))]|rw[if_neg (fun q=>e (this.1 q.symm))]
  · show lJ _ _=_
    have hk:=sJ (f:=mR 0 q) hg.hkeys hx
    rw[hk,kc,Ta hr.ord hc]
    have:=h.held q
    unfold kE at this
    rw[this]
    unfold mR
    simp
  · show lJ _ _=_
    have hk:=sJ (f:=fun _ (h:wJ)=>h.am) hg.hkeys hx
    rw[hk,kc,PT hr.ord hc]
    have:=h.all
    unfold uM at this
    rw[this]
theorem KI.seen (h:KI s L):nJ L.ls 0=⟨0,0,1,s.h0,s.h1⟩/\(jW 0 L.ls).isSome=true:=by
  unfold nJ
  rw[h.seat]
  exact⟨rfl,rfl⟩
end Go.Fv

