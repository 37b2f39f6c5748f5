/- SplitTells: for every input the law answers true and leaves its arguments as they were. -/
import Derived.Test.YtkaedikifgpkeaaGreatDoorSplitTellsH
import Derived.Maps.RangeRun
set_option linter.unusedVariables false
set_option linter.unusedSimpArgs false
namespace Go.Sx
set_option linter.unusedSectionVars false
open Go Go.RowKit
open Go.ChangeMaps (setBlock)
section
variable {κ β:Type}[DecidableEq κ]{kf:κ->Value}{vf:β->Value}
def rC (kf:κ->Value)(vf:β->Value)(x:Nat×κ×β):MapEntry:={key:=kf x.2.1,val:=vf x.2.2,born:=x.1}
structure R6 (l:List (Nat×κ×β))(clock:Nat):Prop where
  keys:(l.map fun x=>x.2.1).Nodup
  PH:(l.map fun x=>x.1).Nodup
  old:∀x∈l,x.1<clock
def kM (w:World)(kf:κ->Value)(vf:β->Value)(g:Nat)(l:List (Nat×κ×β))(clock:Nat):Prop:=w.heap[g]? =some (.map (l.map (rC kf vf)).toArray clock)/\R6 l clock
def lh (key:κ):List (Nat×κ×β)->Nat->Option (Nat×β)
  |[],_=>none
  |x::l,i=>if key=x.2.1 then some (i,x.2.2)else lh key l (i+1)
def gB (key:κ)(l:List (Nat×κ×β)):Option β:=(lh key l 0).map (·.2)
theorem wy (key:κ):∀(l:List (Nat×κ×β)) (i:Nat),lh key l i=none↔∀x∈l,x.2.1≠key
  |[],_=>by simp[lh]
  |x::l,i=>by
    simp only[lh,List.mem_cons,forall_eq_or_imp]
    split
    · rename_i h;simp[h]
    · rename_i h;rw[wy key l (i+1)];exact⟨fun hh=>⟨fun he=>h he.symm,hh⟩,fun hh=>hh.2⟩
theorem BN (key:κ):∀(l:List (Nat×κ×β)) (i j:Nat) (u:β),lh key l i=some (j,u)->∃x,i<=j/\l[j-i]? =some x/\x.2.1=key/\x.2.2=u
  |[],_,_,_,h=>by simp[lh]at h
  |x::l,i,j,u,h=>by
    simp only[lh]at h
    split at h
    · rename_i hk
      injection h with h
      injection h with h1 h2
      subst h1 h2
      exact⟨x,Nat.le_refl _,by simp,hk.symm,rfl⟩
    · obtain⟨y,h1,h2,h3,h4⟩:=BN key l (i+1) j u h
      exact⟨y,by omega,by rw[show j-i=(j-(i+1))+1 by omega];simpa using h2,h3,h4⟩
theorem yz {key:κ}{l:List (Nat×κ×β)}:gB key l=none↔∀x∈l,x.2.1≠key:=by
  unfold gB
  rw[Option.map_eq_none_iff]
  exact wy key l 0
theorem PI {key:κ}{l:List (Nat×κ×β)}{u:β}(h:gB key l=some u):∃j,lh key l 0=some (j,u):=by
  unfold gB at h
  cases hf:lh key l 0 with
  |none=>rw[hf]at h;cases h
  |some p=>rw[hf]at h;injection h with h;exact⟨p.1,by rw[<-h]⟩
theorem xA (key:κ):∀(l:List (Nat×κ×β)),gB key l=(l.find? (fun x=>decide (x.2.1=key))).map (fun x=>x.2.2):=by
  have:∀(l:List (Nat×κ×β)) i,(lh key l i).map (·.2)=(l.find? (fun x=>decide (x.2.1=key))).map (fun x=>x.2.2):=by
    intro l
    induction l with
    |nil=>intro i;rfl
    |cons x l ih=>
      intro i
      simp only[lh,List.find?_cons]
      by_cases h:key=x.2.1
      · simp[h]
      · rw[if_neg h,ih];simp[show¬x.2.1=key from fun e=>h e.symm]
  exact fun l=>this l 0
theorem pQ {key k:κ}{l:List (Nat×κ×β)}{b:Nat}{u:β}(hn:gB k l=none):gB key (l++[(b,k,u)])=if key=k then some u else gB key l:=by
  rw[xA,xA,List.find?_append]
  by_cases h:key=k
  · subst h
    rw[if_pos rfl]
    have:l.find? (fun x=>decide (x.2.1=key))=none:=by
      rw[List.find?_eq_none];intro x hx;simpa using(yz.1 hn) x hx
    simp[this]
  · rw[if_neg h]
    simp[show¬k=key from fun e=>h e.symm]
theorem rD {key k:κ}{u:β}:∀{l:List (Nat×κ×β)},(∃v,gB k l=some v)->gB key (l.map fun y=>if y.2.1=k then(y.1,k,u)else y)=if key=k then some u else gB key l:=by
  intro l hv
  rw[xA,xA,List.find?_map]
  have e:((fun x:Nat×κ×β=>decide (x.2.1=key))∘fun y:Nat×κ×β=>if y.2.1=k then(y.1,k,u)else y)=fun x=>decide (x.2.1=key):=by
    funext y
    simp only[Function.comp]
    split
    · rename_i h;simp[h]
    · rfl
  rw[e]
  by_cases h:key=k
  · subst h
    rw[if_pos rfl]
    obtain⟨v,hv⟩:=hv
    rw[xA]at hv
    cases hf:l.find? (fun x=>decide (x.2.1=key))with
    |none=>rw[hf]at hv;cases hv
    |some p=>
      have:=List.find?_some hf
      simp only[decide_eq_true_eq]at this
      simp[this]
  · rw[if_neg h]
    cases hf:l.find? (fun x=>decide (x.2.1=key))with
    |none=>rfl
    |some p=>
      have:=List.find?_some hf
      simp only[decide_eq_true_eq]at this
      simp[show¬p.2.1=k from fun e=>h (this.symm.trans e)]
theorem En {α γ:Type}(f:α->γ):∀(l:List α),(l.map f).Nodup->∀{a b:α},a∈l->b∈l->f a=f b->a=b
  |[],_,a,b,h,_,_=>by cases h
  |x::l,hn,a,b,ha,hb,he=>by
    simp only[List.map_cons,List.nodup_cons]at hn
    rcases List.mem_cons.1 ha with rfl|ha2<;>rcases List.mem_cons.1 hb with rfl|hb2
    · rfl
    · exact absurd (he▸List.mem_map_of_mem hb2) hn.1
    · exact absurd (he▸List.mem_map_of_mem ha2) hn.1
    · exact En f l hn.2 ha2 hb2 he
theorem H7 {α γ:Type}[DecidableEq γ](f:α->γ)(y:α):∀(l:List α) (i:Nat) (x:α),(l.map f).Nodup->l[i]? =some x->l.set i y=l.map fun z=>if f z=f x then y else z
  |[],_,_,_,h=>by simp at h
  |a::l,0,x,hn,h=>by
    simp at h
    subst h
    simp only[List.map_cons,List.nodup_cons]at hn
    simp only[List.set_cons_zero,List.map_cons,if_true]
    congr 1
    rw[eq_comm]
    have:l.map (fun z=>if f z=f a then y else z)=l.map id:=List.map_congr_left fun z hz=>by
      rw[if_neg (fun he=>hn.1 (by rw[<-he];exact List.mem_map_of_mem hz))];rfl
    rw[this,List.map_id]
  |a::l,i+1,x,hn,h=>by
    simp only[List.map_cons,List.nodup_cons]at hn
    have h':l[i]? =some x:=by simpa using h
    have hne:f a≠f x:=fun he=>hn.1 (by rw[he];exact List.mem_map_of_mem (List.mem_of_getElem? h'))
    rw[List.set_cons_succ,H7 f y l i x hn.2 h',List.map_cons,if_neg hne]
theorem R6.filter {l:List (Nat×κ×β)}{clock:Nat}(h:R6 l clock)(p:Nat×κ×β->Bool):R6 (l.filter p) clock:=
  ⟨h.keys.sublist (List.Sublist.map _ List.filter_sublist),h.PH.sublist (List.Sublist.map _ List.filter_sublist),fun x hx=>h.old x (List.mem_filter.1 hx).1⟩
theorem R6.push {l:List (Nat×κ×β)}{clock:Nat}(h:R6 l clock)(key:κ)(u:β)(hn:∀x∈l,x.2.1≠key):R6 (l++[(clock,key,u)]) (clock+1):=by
  refine⟨?_,?_,?_⟩
  · rw[List.map_append,List.nodup_append]
    refine⟨h.keys,by simp,?_⟩
    intro a ha b hb
    obtain⟨x,hx,rfl⟩:=List.mem_map.1 ha
    simp at hb
    subst hb
    exact hn x hx
  · rw[List.map_append,List.nodup_append]
    refine⟨h.PH,by simp,?_⟩
    intro a ha b hb
    obtain⟨x,hx,rfl⟩:=List.mem_map.1 ha
    simp at hb
    subst hb
    have:=h.old x hx
    omega
  · intro x hx
    rcases List.mem_append.1 hx with hx|hx
    · have:=h.old x hx;omega
    · simp at hx;subst hx;simp
theorem R6.set {l:List (Nat×κ×β)}{clock:Nat}(h:R6 l clock)(k:κ)(u:β):R6 (l.map fun y=>if y.2.1=k then(y.1,k,u)else y) clock:=by
  have b:(l.map fun y=>if y.2.1=k then(y.1,k,u)else y).map (fun x=>x.2.1)=l.map fun x=>x.2.1:=by
    rw[List.map_map];apply List.map_congr_left;intro y _;simp only[Function.comp];split
    · rename_i he;exact he.symm
    · rfl
  have c:(l.map fun y=>if y.2.1=k then(y.1,k,u)else y).map (fun x=>x.1)=l.map fun x=>x.1:=by
    rw[List.map_map];apply List.map_congr_left;intro y _;simp only[Function.comp];split<;>rfl
  refine⟨by rw[b];exact h.keys,by rw[c];exact h.PH,fun x hx=>?_⟩
  obtain⟨y,hy,rfl⟩:=List.mem_map.1 hx
  have:=h.old y hy
  split<;>exact this
variable {P:Program}{env:Env}{n:Nat}{d:Option Nat}{T:TypeId}{p:String}{af:Array Edge}{g:Option (Nat×Bool)}{w w':World}{K:Value->World->Prop}
structure BO (P:Program)(kt:Nat)(kf:κ->Value):Prop where
  check:∀(b:Bool) (key:κ) (w:World),(Instr.checkKey b 10000 kt (kf key)).run P w= .ok () w
  find:∀(key:κ) (l:List (Nat×κ×Value)) (w:World),(Instr.findKey kt (kf key) (l.map (rC kf id))).run P w= .ok (lh key l 0) w
theorem Eo (key:κ)(f:β->Value):∀(l:List (Nat×κ×β)) (i:Nat),lh key (l.map fun x=>(x.1,x.2.1,f x.2.2)) i=(lh key l i).map fun x=>(x.1,f x.2)
  |[],_=>rfl
  |x::l,i=>by
    simp only[List.map_cons,lh]
    split
    · rfl
    · exact Eo key f l (i+1)
theorem BO.get {kt:Nat}(h:BO P kt kf)(key:κ)(l:List (Nat×κ×β))(w:World):(Instr.findKey kt (kf key) (l.map (rC kf vf))).run P w= .ok ((lh key l 0).map fun x=>(x.1,vf x.2)) w:=by
  have:=h.find key (l.map fun x=>(x.1,x.2.1,vf x.2.2)) w
  rw[Eo,List.map_map]at this
  exact this
theorem BO.int {kt:Nat}(hu:P.underlying kt=some (.int .i64)):BO P kt (fun x:Int=>Value.int .i64 x):=by
  have hc:∀(b:Bool) (key:Int) (w:World) (m:Nat),(Instr.checkKey b (m+1) kt (.int .i64 key)).run P w= .ok () w:=fun b key w m=>by unfold Instr.checkKey;simp[run_underlying hu]
  refine⟨fun b key w=>hc b key w 9999,fun key l w=>?_⟩
  have hf:∀(l:List (Nat×Int×Value)) (i:Nat),Instr.findNow (.int .i64) (.int .i64 key) (l.map (rC (fun x:Int=>Value.int .i64 x) id)) i=some (lh key l i):=by
    intro l
    induction l with
    |nil=>intro i;rfl
    |cons x l ih=>
      intro i
      simp only[List.map_cons,Instr.findNow,rC,Instr.sameNow,if_true,lh]
      by_cases hk:key=x.2.1
      · simp[hk]
      · have:(key==x.2.1)=false:=by simpa using hk
        rw[this,if_neg hk]
        exact ih (i+1)
  simp only[Instr.findKey,Sem.run_bind,run_underlying hu,Result.andThen_ok,hf]
  rfl
theorem BO.struct {kt:Nat}{fs:Array Field}(hu:P.underlying kt=some (.struct fs))(hc:∀(b:Bool) (key:κ) (w:World),(Instr.checkKey b 10000 kt (kf key)).run P w= .ok () w)(ha:∀k,∃cs,kf k= .agg cs)(he:∀a b,vM P 10000 kt (kf a) (kf b) (decide (a=b))):BO P kt kf:=by
  refine⟨hc,fun key l w=>?_⟩
  have hs:∀(l:List (Nat×κ×Value)) (i:Nat) (w:World),(Instr.findAsking kt (kf key) (l.map (rC kf id)) i).run P w= .ok (lh key l i) w:=by
    intro l
    induction l with
    |nil=>intro i w;simp[Instr.findAsking,lh]
    |cons x l ih=>
      intro i w
      simp only[List.map_cons,Instr.findAsking,Sem.run_bind,Op.equal,Op.maxDepth,rC,he key x.2.1 w,Result.andThen_ok,lh]
      by_cases hk:key=x.2.1
      · simp[hk]
      · simp only[hk,decide_false,Bool.false_eq_true,if_false]
        exact ih (i+1) w
  cases l with
  |nil=>simp[Instr.findKey,run_underlying hu,Instr.findNow,lh]
  |cons x l=>
    have:=hs (x::l) 0 w
    obtain⟨cs,hk⟩:=ha key
    simp only[Instr.findKey,Sem.run_bind,run_underlying hu,Result.andThen_ok,List.map_cons,Instr.findNow,rC,Instr.sameNow]
    exact this
theorem Ch.LQ (w:World)(g:Nat)(o:Obj):Ch w (setBlock w g o) (some g):=⟨rfl,rfl,rfl,by simp[setBlock],fun k _ hk=>by
  simp only[setBlock]
  rw[Array.getElem?_setIfInBounds_ne (fun he=>hk (by rw[he]))]⟩
theorem xB {w:World}{g:Nat}{o o':Obj}(h:w.heap[g]? =some o):(setBlock w g o').heap[g]? =some o':=by
  have:=(Array.getElem?_eq_some_iff.1 h).1
  simp[setBlock,this]
variable {gb clock:Nat}{l:List (Nat×κ×β)}
theorem kM.ch {r:Option Nat}(h:kM w kf vf gb l clock)(hc:Ch w w' r)(hne:r≠some gb):kM w' kf vf gb l clock:=⟨(hc.block gb (Array.getElem?_eq_some_iff.1 h.1).1 (Ne.symm hne)).trans h.1,h.2⟩
theorem kM.cn {r:Nat}(h:kM w kf vf gb l clock)(hc:Ch w w' (some r))(hne:r≠gb):kM w' kf vf gb l clock:=h.ch hc (fun e=>hne (Option.some.inj e))
theorem kM.le (h:kM w kf vf gb l clock)(hl:Le w w'):kM w' kf vf gb l clock:=h.ch (hl.ch none) (by simp)
theorem kM.lt (h:kM w kf vf gb l clock):gb<w.heap.size:=(Array.getElem?_eq_some_iff.1 h.1).1
theorem Ef.PK {t:TypeId}(kf:κ->Value)(vf:β->Value)(h:∀gb w',w.heap.size<=gb->kM w' kf vf gb [] 0->Le w w'->K (.map (some gb)) w'):Ef P env n ⟨d,.makeMap t none,T,p,af,g⟩ w K:=
  .of_run (v:= .map (some w.heap.size)) (w':=w.alloc (.map #[] 0)) (fun a ha=>by simp[execOp,Instr.makeMap,newObj,Sem.run]) (h _ _ (Nat.le_refl _) ⟨heap_alloc_new w _,⟨by simp,by simp,by simp⟩⟩ (Le.alloc w _))
theorem Rd.LU {t kt et:Nat}{x y:Operand}{key:κ}{z:Value}(ht:P.underlying t=some (.map kt et))(hk:BO P kt kf)(he:Zr P et z)(hx:ev env x=some (.map (some gb)))(hy:ev env y=some (kf key))(hM:kM w kf vf gb l clock):
    Rd P w env n ⟨d,.lookup t x y true,T,p,af,g⟩ (.tuple #[((gB key l).map vf).getD z,.bool (gB key l).isSome]):=fun a ha w' hle=>by
  have hM':=(hM.le hle).1
  have hf:=hk.get (vf:=vf) key l w'
  have hc:=hk.check (l.map (rC kf vf)).toArray.isEmpty key w'
  simp only[execOp,ha.eval hx,ha.eval hy,Instr.lookup,Sem.run_bind,run_underlying ht,getObj,Sem.run,hM',Result.andThen,Sem.run_pure]
  rw[hc]
  simp only[]
  rw[hf]
  unfold gB
  cases hfi:lh key l 0 with
  |none=>simp[he.run]
  |some q=>simp
theorem LV {es:Array MapEntry}{ck:Nat}(h:w.heap[gb]? =some (.map es ck))(o:Obj):(setObj gb o).run P w= .ok () (setBlock w gb o):=by
  simp[setObj,Sem.run,h,setBlock]
theorem Ef.xC {t kt et:Nat}{x y z:Operand}{key:κ}{u:β}(ht:P.underlying t=some (.map kt et))(hk:BO P kt kf)(hx:ev env x=some (.map (some gb)))(hy:ev env y=some (kf key))(hz:ev env z=some (vf u))(hM:kM w kf vf gb l clock)
    (hn:gB key l=none)(h:∀w',kM w' kf vf gb (l++[(clock,key,u)]) (clock+1)->Ch w w' (some gb)->K undef w'):Ef P env n ⟨d,.mapUpdate t x y z,T,p,af,g⟩ w K:=by
  have hf:=hk.get (vf:=vf) key l w
  have hc:=hk.check false key w
  have hn':lh key l 0=none:=by rw[wy];exact yz.1 hn
  rw[hn']at hf
  refine .rZ (w':=setBlock w gb (.map ((l++[(clock,key,u)]).map (rC kf vf)).toArray (clock+1))) (fun a ha=>?_) (h _ ⟨xB hM.1,hM.2.push key u (yz.1 hn)⟩ (Ch.LQ _ _ _))
  have hset:=fun o=>LV (P:=P) hM.1 o
  simp only[execOp,ha.eval hx,ha.eval hy,ha.eval hz,Instr.mapUpdate,Sem.run_bind,run_underlying ht,getObj,Sem.run,hM.1,Result.andThen,Sem.run_pure]
  rw[hc]
  simp only[]
  rw[hf]
  simp[hset,rC]
theorem Ef.xD {t kt et:Nat}{x y z:Operand}{key:κ}{u v:β}(ht:P.underlying t=some (.map kt et))(hk:BO P kt kf)(hx:ev env x=some (.map (some gb)))(hy:ev env y=some (kf key))(hz:ev env z=some (vf u))(hM:kM w kf vf gb l clock)(hst:∀w:World,(Instr.keyThatStays (kf key) (kf key)).run P w= .ok (kf key) w)
    (hn:gB key l=some v)(h:∀w',kM w' kf vf gb (l.map fun y=>if y.2.1=key then(y.1,key,u)else y) clock->Ch w w' (some gb)->K undef w'):Ef P env n ⟨d,.mapUpdate t x y z,T,p,af,g⟩ w K:=by
  have hf:=hk.get (vf:=vf) key l w
  have hc:=hk.check false key w
  obtain⟨j,hj⟩:=PI hn
  obtain⟨e,_,b,c,k⟩:=BN key l 0 j v hj
  rw[Nat.sub_zero]at b
  rw[hj]at hf
  have hset:=fun o=>LV (P:=P) hM.1 o
  have hm:=H7 (fun x:Nat×κ×β=>x.2.1) (e.1,key,u) l j e hM.2.keys b
  have hjl:j<l.length:=(List.getElem?_eq_some_iff.1 b).1
  have f:(l.map fun y=>if y.2.1=key then(y.1,key,u)else y)=l.set j (e.1,key,u):=by
    rw[hm,c]
    apply List.map_congr_left
    intro y hy
    by_cases hyk:y.2.1=key
    · rw[if_pos hyk,if_pos hyk]
      rw[En (fun x:Nat×κ×β=>x.2.1) l hM.2.keys hy (List.mem_of_getElem? b) (hyk.trans c.symm)]
    · rw[if_neg hyk,if_neg hyk]
  have hmod:(l.map (rC kf vf)).toArray.modify j (fun e=>{e with key:=kf key,val:=vf u})=((l.map fun y=>if y.2.1=key then(y.1,key,u)else y).map (rC kf vf)).toArray:=by
    rw[f]
    apply Array.ext'
    rw[Array.toList_modify,List.map_set]
    simp only
    apply List.ext_getElem?
    intro i
    rw[List.getElem?_modify,List.getElem?_set,List.getElem?_map]
    by_cases hij:j=i
    · subst hij
      have Td:l[j]=e:=(List.getElem?_eq_some_iff.1 b).2
      simp[b,hjl,rC,Td]
    · simp[hij]
  refine .rZ (w':=setBlock w gb (.map ((l.map fun y=>if y.2.1=key then(y.1,key,u)else y).map (rC kf vf)).toArray clock)) (fun a ha=>?_) (h _ ⟨xB hM.1,hM.2.set key u⟩ (Ch.LQ _ _ _))
  have hkey:(((l.map (rC kf vf)).toArray[j]?).map (·.key)).getD (kf key)=kf key:=by simp[b,rC,c]
  simp only[execOp,ha.eval hx,ha.eval hy,ha.eval hz,Instr.mapUpdate,Sem.run_bind,run_underlying ht,getObj,Sem.run,hM.1,Result.andThen,Sem.run_pure]
  rw[hc]
  simp only[]
  rw[hf]
  simp only[Option.map_some]
  rw[hkey]
  have hst':=hst w
  simp only[Sem.run_bind,hst',Result.andThen_ok,hmod,hset]
end
end Go.Sx

