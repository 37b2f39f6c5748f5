/- LedgerSides: for every input the law answers true and leaves its arguments as they were. -/
import Derived.Test.YtkpmaajniagncaaGreatDoorLedgerSidesI
import Derived.Laws.Pointers
set_option linter.unusedVariables false
set_option linter.unusedSimpArgs false
namespace Go.Sx
set_option linter.unusedSectionVars false
open Go Go.RowKit
structure iX (w w':World)(F:Nat->Prop):Prop where
 os:w'.os=w.os
 tape:w'.tape=w.tape
 output:w'.output=w.output
 size:w.heap.size<=w'.heap.size
 block:∀k,k<w.heap.size->¬F k->w'.heap[k]? =w.heap[k]?
section
variable {w w' w'':World}{F G:Nat->Prop}
theorem iX.refl (w:World)(F:Nat->Prop):iX w w F:=⟨rfl,rfl,rfl,Nat.le_refl _,fun _ _ _=>rfl⟩
theorem Le.ji (h:Le w w')(F:Nat->Prop):iX w w' F:=⟨h.os,h.tape,h.output,h.size,fun k hk _=>Below.block h k hk⟩
theorem iX.le (h:iX w w' F)(k:Le w' w''):iX w w'' F:=⟨k.os.trans h.os,k.tape.trans h.tape,k.output.trans h.output,Nat.le_trans h.size k.size,fun i hi hF=>(Below.block k i (Nat.lt_of_lt_of_le hi h.size)).trans (h.block i hi hF)⟩
theorem iX.trans (h:iX w w' F)(k:iX w' w'' F):iX w w'' F:=⟨k.os.trans h.os,k.tape.trans h.tape,k.output.trans h.output,Nat.le_trans h.size k.size,fun i hi hF=>(k.block i (Nat.lt_of_lt_of_le hi h.size) hF).trans (h.block i hi hF)⟩
theorem iX.sub (h:iX w w' F)(k:iX w' w'' G)(hG:∀i,G i->i<w.heap.size->F i):iX w w'' F:=⟨k.os.trans h.os,k.tape.trans h.tape,k.output.trans h.output,Nat.le_trans h.size k.size,fun i hi hF=>(k.block i (Nat.lt_of_lt_of_le hi h.size) (fun hg=>hF (hG i hg hi))).trans (h.block i hi hF)⟩
theorem iX.ch {r:Option Nat}(h:iX w w' F)(k:Ch w' w'' r)(hr:∀i,r=some i->i<w.heap.size->F i):iX w w'' F:=⟨k.os.trans h.os,k.tape.trans h.tape,k.output.trans h.output,Nat.le_trans h.size k.size,fun i hi hF=>(k.block i (Nat.lt_of_lt_of_le hi h.size) (fun he=>hF (hr i he.symm hi))).trans (h.block i hi hF)⟩
theorem Ch.ji {r:Option Nat}(k:Ch w w' r)(hr:∀i,r=some i->F i):iX w w' F:=⟨k.os,k.tape,k.output,k.size,fun i hi hF=>k.block i hi (fun he=>hF (hr i he.symm))⟩
theorem iX.mono (h:iX w w' F)(hG:∀i,F i->i<w.heap.size->G i):iX w w' G:=⟨h.os,h.tape,h.output,h.size,fun i hi hn=>h.block i hi (fun hF=>hn (hG i hF hi))⟩
theorem Le.jP (h:Le w w')(k:iX w' w'' F)(hF:∀i,F i->w.heap.size<=i):Le w w'':=⟨k.os.trans h.os,k.tape.trans h.tape,k.output.trans h.output,Nat.le_trans h.size k.size,fun i hi=>(k.block i (Nat.lt_of_lt_of_le hi h.size) (fun hf=>by have:=hF i hf;omega)).trans (Below.block h i hi)⟩
theorem ik.ji {g:Nat}{t:TypeId}{cs:Array Value}(h:ik w g t cs)(hc:iX w w' F)(hne:¬F g):ik w' g t cs:=(hc.block g h.lt hne).trans h
variable {e s n c:Nat}{A:Option Addr}{xs:List Value}
theorem Own.ji {base:Nat}(h:Own w base e s A n c xs)(hc:iX w w' F)(hne:∀g,rowOf A c=some g->¬F g):Own w' base e s A n c xs:=by
 refine⟨h.1,?_⟩
 rcases h.2 with d|⟨g,cur,rfl,hb,hg,hnc,hcm,hcs,htake⟩
 ·exact .inl d
 ·by_cases f:c=0
  ·left;omega
  ·refine .inr ⟨g,cur,rfl,hb,?_,hnc,hcm,hcs,htake⟩
   exact ik.ji (w:=w) hg hc (hne g (uO g 0 c f))
theorem iy.ji {α:Type}{base:Nat}{f:α->List Value}{m:Nat}{xs:List α}(h:iy w base e f s A m c xs)(hc:iX w w' F)(hne:∀g,rowOf A c=some g->¬F g):iy w' base e f s A m c xs:=⟨h.1,h.2.ji hc hne⟩
theorem jk.ji {κ β:Type}[DecidableEq κ]{kf:κ->Value}{vf:β->Value}{g clock:Nat}{l:List (Nat×κ×β)}(h:jk w kf vf g l clock)(hc:iX w w' F)(hne:¬F g):jk w' kf vf g l clock:=⟨(hc.block g h.lt hne).trans h.1,h.2⟩
theorem Sl.keep (h:Sl w s A n xs)(hb:∀g,lN A=some g->g<w.heap.size->w'.heap[g]? =w.heap[g]?):Sl w' s A n xs:=
 ⟨h.1,fun j u hu=>by
  obtain⟨ad,rfl,hcell⟩:=h.2 j u hu
  refine⟨ad,rfl,?_⟩
  have hlt:=block_lt_of_cell hcell
  rw[add_block]at hlt
  rw[<-hcell]
  refine World.cell?_of_block ?_
  rw[add_block]
  exact hb _ Z hlt⟩
end
section
variable {P:Program}{env:Env}{n:Nat}{d:Option Nat}{T:TypeId}{p:String}{af:Array Edge}{g:Option (Nat×Bool)}{w:World}{K:Value->World->Prop}{t ty:TypeId}{x:Operand}{ad:Option Addr}
theorem Any.Lc (ht:P.underlying t=some (.pointer (P.pointee t)))(hx:ev env x=some (.pointer ad)):Any P env n ⟨d,.binOp .eql t x (.const (.pointer none)) ty,T,p,af,g⟩ (.bool ad.isNone):= .bin hx Z (fun w=>by simp[eqGuard]) (fun w=>run_eql_pointer_nil w t ad ht)
theorem Any.uE (ht:P.underlying t=some (.pointer (P.pointee t)))(hx:ev env x=some (.pointer ad)):Any P env n ⟨d,.binOp .neq t x (.const (.pointer none)) ty,T,p,af,g⟩ (.bool !ad.isNone):= .bin hx Z (fun w=>by simp[eqGuard]) (fun w=>run_neq_pointer_nil w t ad ht)
theorem aaq (o:Option Bool):(o.map Value.bool).getD (.bool false)= .bool (o.getD false):=by cases o<;>rfl
end
open Go.ChangeMaps (setBlock)
section
variable {κ β:Type}[DecidableEq κ]{kf:κ->Value}{vf:β->Value}{P:Program}{env:Env}{n:Nat}{d:Option Nat}{T:TypeId}{p:String}{af:Array Edge}{g:Option (Nat×Bool)}{w w':World}{K:Value->World->Prop}{gb clock r:Nat}{l:List (Nat×κ×β)}{seen:Array Nat}
def Jl (w:World)(r gb clock:Nat)(seen:Array Nat):Prop:=w.heap[r]? =some (.mapIter (some gb) clock seen clock)
theorem Jl.lt (h:Jl w r gb clock seen):r<w.heap.size:=(Array.getElem?_eq_some_iff.1 h).1
theorem Jl.ch {q:Option Nat}(h:Jl w r gb clock seen)(hc:Ch w w' q)(hne:q≠some r):Jl w' r gb clock seen:=(hc.block r h.lt (Ne.symm hne)).trans h
theorem Jl.cn {q:Nat}(h:Jl w r gb clock seen)(hc:Ch w w' (some q))(hne:q≠r):Jl w' r gb clock seen:=h.ch hc (fun e=>hne (Option.some.inj e))
theorem Jl.le (h:Jl w r gb clock seen)(hl:Le w w'):Jl w' r gb clock seen:=h.ch (hl.ch none) (by simp)
theorem Jl.ji {F:Nat->Prop}(h:Jl w r gb clock seen)(hc:iX w w' F)(hne:¬F r):Jl w' r gb clock seen:=(hc.block r h.lt hne).trans h
variable {x:Operand}
theorem Ef.WH {t kt et:Nat}(ht:P.underlying t=some (.map kt et))(hx:ev env x=some (.map (some gb)))(hM:jk w kf vf gb l clock)
  (h:∀r w',w.heap.size<=r->Jl w' r gb clock #[]->Le w w'->K (.pointer (some ⟨r,0,none⟩)) w'):Ef P env n ⟨d,.range t x,T,p,af,g⟩ w K:=
 .of_run (v:= .pointer (some ⟨w.heap.size,0,none⟩)) (w':=w.alloc (.mapIter (some gb) clock #[] clock)) (fun a ha=>by
  simp[execOp,ha.eval hx,Instr.range,run_underlying ht,getObj,Sem.run,hM.1,Result.andThen,newObj]) (h _ _ (Nat.le_refl _) (heap_alloc_new w _) (Le.alloc w _))
def wh (l:List (Nat×κ×β))(seen:Array Nat):List (Nat×κ×β):=l.filter fun x=> !seen.contains x.1
theorem E9 (l:List (Nat×κ×β))(seen:Array Nat):(leftOf (l.map (lv kf vf)).toArray seen).toList=(wh l seen).map (lv kf vf):=by
 unfold leftOf wh
 simp only[Array.toList_filter,List.filter_map]
 rfl
theorem Ef.ach (hx:ev env x=some (.pointer (some ⟨r,0,none⟩)))(hM:jk w kf vf gb l clock)(hr:Jl w r gb clock seen)
  (h0:wh l seen=[]->K (.tuple #[.bool false]) w)
  (h1:∀e w',e∈wh l seen->Jl w' r gb clock (seen.push e.1)->Ch w w' (some r)->K (.tuple #[.bool true,kf e.2.1,vf e.2.2]) w'):Ef P env n ⟨d,.next x false,T,p,af,g⟩ w K:=by
 have hold:∀y∈(l.map (lv kf vf)).toArray.toList,y.born<clock:=fun y hy=>by
  simp only[List.mem_map]at hy
  obtain⟨e,he,rfl⟩:=hy
  exact hM.2.old e he
 rcases run_next_at (P:=P) w T r gb clock clock seen (l.map (lv kf vf)).toArray clock hr hM.1 hold (Nat.le_refl _)with⟨hs,hrun⟩|⟨e,he,i,c,hrun⟩
 ·have hu:wh l seen=[]:=by
   have:=E9 (kf:=kf) (vf:=vf) l seen
   have f:(leftOf (l.map (lv kf vf)).toArray seen).toList.length=0:=by simpa using hs
   rw[this,List.length_map]at f
   exact List.eq_nil_of_length_eq_zero f
  exact .of_run (fun a ha=>by simp[execOp,ha.eval hx,hrun]) (h0 hu)
 ·rw[E9]at he
  obtain⟨e',he',rfl⟩:=List.mem_map.1 he
  refine .of_run (w':=setBlock i r (.mapIter (some gb) clock (seen.push e'.1) clock)) (fun a ha=>by simp[execOp,ha.eval hx,hrun];exact⟨⟨rfl,rfl⟩,rfl⟩) (h1 e' _ he' (nA (o:= .mapIter (some gb) clock seen clock) (by rcases c with rfl|rfl<;>exact hr)) ?_)
  rcases c with rfl|rfl
  ·exact Ch.uC _ _ _
  ·exact((Le.drew w).ch _).trans (Ch.uC _ _ _)
variable {e:Nat×κ×β}
theorem Ef.WI (hx:ev env x=some (.pointer (some ⟨r,0,none⟩)))(hM:jk w kf vf gb l clock)(hr:Jl w r gb clock (seen.push e.1))(he:e∈l)
  (h:K (.tuple #[kf e.2.1,vf e.2.2]) w):Ef P env n ⟨d,.entry x,T,p,af,g⟩ w K:=by
 have hrun:=run_entry_at (P:=P) w r gb clock seen (l.map (lv kf vf)).toArray clock (lv kf vf e) hr hM.1 (by simp only;exact List.mem_map_of_mem he) (by
  simp only[List.map_map]
  exact hM.2.Hg)
 exact .of_run (fun a ha=>by simp[execOp,ha.eval hx,hrun];exact⟨rfl,rfl⟩) h
theorem NJ (l:List (Nat×κ×β)):wh l #[]=l:=by
 unfold wh
 rw[List.filter_eq_self]
 intro x _
 simp
theorem JV (hw:Vp l clock){e:Nat×κ×β}(he:e∈wh l seen):(wh l seen).Perm (e::wh l (seen.push e.1)):=by
 have hb:(l.map fun x=>x.1).Nodup:=hw.Hg
 unfold wh at*
 induction l with
 |nil=>simp at he
 |cons a l ih=>
  simp only[List.map_cons,List.nodup_cons]at hb
  have hwl:Vp l clock:=⟨(List.nodup_cons.1 hw.keys).2,hb.2,fun x hx=>hw.old x (List.mem_cons_of_mem _ hx)⟩
  by_cases ha:a.1∈seen
  ·have d:a.1∈seen.push e.1:=by simp[ha]
   rw[List.filter_cons,if_neg (by simp[ha]),List.filter_cons,if_neg (by simp[d])]
   refine ih hwl ?_ hb.2
   rw[List.filter_cons,if_neg (by simp[ha])]at he
   exact he
  ·rw[List.filter_cons,if_pos (by simp[ha])]at he ⊢
   by_cases hae:a.1=e.1
   ·have f:a=e:=by
     rcases List.mem_cons.1 he with h|h
     ·exact h.symm
     ·exact absurd (List.mem_map.2 ⟨e,(List.mem_filter.1 h).1,hae.symm⟩) hb.1
    subst f
    have i:(l.filter fun x=> !(seen.push a.1).contains x.1)=l.filter fun x=> !seen.contains x.1:=by
     apply List.filter_congr
     intro x hx
     have:x.1≠a.1:=fun h=>hb.1 (List.mem_map.2 ⟨x,hx,h⟩)
     simp[Array.contains_eq_mem,Array.mem_push,this]
    have c:a.1∈seen.push a.1:=by simp
    rw[List.filter_cons,if_neg (by simp[c]),i]
   ·have c:¬a.1∈seen.push e.1:=by simp[ha,hae]
    rw[List.filter_cons,if_pos (by simp[c])]
    have j:e∈l.filter fun x=> !seen.contains x.1:=by
     rcases List.mem_cons.1 he with h|h
     ·exact absurd (by rw[h]) hae
     ·exact h
    exact((ih hwl j hb.2).cons a).trans (List.Perm.swap e a _)
theorem HZ (he:e∈wh l seen):e∈l:=(List.mem_filter.1 he).1
theorem jk.clone (h:jk w kf vf gb l clock):jk (w.alloc (.map (l.map (lv kf vf)).toArray clock)) kf vf w.heap.size l clock:=⟨heap_alloc_new w _,h.2⟩
end
open Go.ChangeMaps (setBlock)
section
variable {P:Program}{env:Env}{n:Nat}{d:Option Nat}{T:TypeId}{p:String}{af:Array Edge}{g:Option (Nat×Bool)}{w w':World}{K:Value->World->Prop}{α:Type}
theorem Vec.ji {f:α->List Value}{s:Nat}{A:Option Addr}{m:Nat}{xs:List α}{F:Nat->Prop}(h:Vec w f s A m xs)(hc:iX w w' F)(hne:∀g,lN A=some g->0<m->g<w.heap.size->¬F g):Vec w' f s A m xs:=by
 by_cases c:0<m
 ·exact⟨h.1,h.2.keep (fun g hg hlt=>hc.block g hlt (hne g hg c hlt))⟩
 ·have hm:m=0:=by omega
  subst hm
  have hx:xs=[]:=List.eq_nil_of_length_eq_zero h.1
  subst hx
  exact⟨rfl,Sl.nil _ _ _⟩
def Ld (i:Int):Int:=if i= -9223372036854775808 then i else-i
variable {x:Operand}{i:Int}
theorem Any.Ld {t ty:TypeId}(ht:P.underlying t=some (.int .i64))(hx:ev env x=some (J i))(hb: -9223372036854775808<=i/\i<=9223372036854775807):Any P env n ⟨d,.unOp .neg t x,ty,p,af,g⟩ (J (Ld i)):=fun a ha w=>by
 have h:IntKind.i64.wrap (-i)=Sx.Ld i:=by
  unfold Sx.Ld
  split
  ·rename_i e;subst e;rfl
  ·exact IntWalk.i64_in _ (by omega)
 simp[execOp,ha.eval hx,Op.unary,Op.intArith,h]
theorem optG (o:Option α):o=none\/∃v,o=some v:=by cases o<;>simp
variable {t e:Nat}{y:Operand}{v:Value}
theorem Any.xQ {len:Nat}{cs:Array Value}(j:Nat)(ht:P.underlying t=some (.array len e))(hs:Sz P e 1)(he:mY P e)(hx:ev env x=some (.agg cs))(hy:ev env y=some (J i))(hi:i=(j:Int))(hj:j<len)(hv:cs[j]? =some v):Any P env n ⟨d,.index t x y,T,p,af,g⟩ v:=fun a ha w=>by
 subst hi
 have:=kR (P:=P) he hv w
 simp[execOp,ha.eval hx,ha.eval hy,Instr.index,run_underlying ht,asIntOf,hs.run,hj,this]
theorem Any.adn {i:Nat}{fs:Array Field}{f:Field}{cs:Array Value}(ht:P.underlying t=some (.struct fs))(hf:fs[i]? =some f)(he:mY P f.type)(hx:ev env x=some (.agg cs))(hv:cs[f.offset]? =some v):Any P env n ⟨d,.field t x i,T,p,af,g⟩ v:=fun a ha w=>by
 have:=kR (P:=P) he hv w
 simp[execOp,ha.eval hx,Instr.field,run_underlying ht,hf,asAgg,this]
theorem Any.aci {len:Nat}{gb o:Nat}{k:IntKind}(j:Nat)(ht:P.underlying t=some (.array len e))(hs:Sz P e 1)(hx:ev env x=some (.pointer (some ⟨gb,o,none⟩)))(hy:ev env y=some (.int k i))
  (hi:i=(j:Int))(hj:j<len):Any P env n ⟨d,.indexAddr t x y,T,p,af,g⟩ (.pointer (some ⟨gb,o+j,none⟩)):=by
 have:=Any.ac4 (P:=P) (n:=n) (d:=d) (T:=T) (p:=p) (af:=af) (g:=g) j ht hs hx hy hi hj
 rwa [Nat.mul_one]at this
end
section
variable {κ β:Type}[DecidableEq κ]{kf:κ->Value}{vf:β->Value}{P:Program}{env:Env}{n:Nat}{d:Option Nat}{T:TypeId}{p:String}{af:Array Edge}{g:Option (Nat×Bool)}{w w':World}{K:Value->World->Prop}{gb clock:Nat}{l:List (Nat×κ×β)}{t kt et:Nat}{x y:Operand}{key:κ}{v:β}
theorem Ef.TL (ht:P.underlying t=some (.map kt et))(hk:wT P kt kf)(hx:ev env x=some (.map (some gb)))(hy:ev env y=some (kf key))(hM:jk w kf vf gb l clock)(hst:∀w:World,(Instr.keyThatStays (kf key) (kf key)).run P w= .ok (kf key) w)
  (hn:iO key l=some v)(h:∀b w',(b,key,v)∈l->jk w' kf vf gb l clock->Ch w w' (some gb)->K (.tuple #[vf v,J (b:Int)]) w'):Ef P env n ⟨d,.mapEntry t x y,T,p,af,g⟩ w K:=by
 have hf:=hk.get (vf:=vf) key l w
 have hc:=hk.check false key w
 obtain⟨j,hj⟩:=Hl hn
 obtain⟨e,_,c,f,k⟩:=uT key l 0 j v hj
 rw[Nat.sub_zero]at c
 rw[hj]at hf
 have hset:=fun o=>xN (P:=P) hM.1 o
 have hje:e=(e.1,key,v):=by rw[<-f,<-k]
 have hmem:(e.1,key,v)∈l:=by rw[<-hje];exact List.mem_of_getElem? c
 have hmod:(l.map (lv kf vf)).toArray.modify j (fun e=>{e with key:=kf key})=(l.map (lv kf vf)).toArray:=by
  apply Array.ext'
  rw[Array.toList_modify]
  simp only
  apply List.ext_getElem?
  intro i
  rw[List.getElem?_modify,List.getElem?_map]
  by_cases hij:j=i
  ·subst hij
   rw[c,hje]
   simp[lv]
  ·simp[hij]
 refine .of_run (v:= .tuple #[vf v,J (e.1:Int)]) (w':=setBlock w gb (.map (l.map (lv kf vf)).toArray clock)) (fun a ha=>?_) (h e.1 _ hmem ⟨nA hM.1,hM.2⟩ (Ch.uC _ _ _))
 have hkey:(((l.map (lv kf vf)).toArray[j]?).map (·.key)).getD (kf key)=kf key:=by simp[c,lv,f]
 have hborn:(((l.map (lv kf vf)).toArray[j]?).map (fun x=>(x.born:Int))).getD 0=(e.1:Int):=by simp[c,lv]
 simp only[execOp,ha.eval hx,ha.eval hy,Instr.mapEntry,Sem.run_bind,run_underlying ht,getObj,Sem.run,hM.1,Result.andThen,Sem.run_pure]
 rw[hc]
 simp only[]
 rw[hf]
 simp only[Option.map_some]
 rw[hkey]
 have hst':=hst w
 simp only[Sem.run_bind,hst',Result.andThen_ok,hmod,hset,hborn,goInt,Sem.run_pure]
theorem Ef.TM {z:β}(ht:P.underlying t=some (.map kt et))(hk:wT P kt kf)(hz:Zr P et (vf z))(hx:ev env x=some (.map (some gb)))(hy:ev env y=some (kf key))(hM:jk w kf vf gb l clock)
  (hn:iO key l=none)(h:∀w',jk w' kf vf gb (l++[(clock,key,z)]) (clock+1)->Ch w w' (some gb)->K (.tuple #[vf z,J (clock:Int)]) w'):Ef P env n ⟨d,.mapEntry t x y,T,p,af,g⟩ w K:=by
 have hf:=hk.get (vf:=vf) key l w
 have hc:=hk.check false key w
 have hn':nz key l 0=none:=by rw[sP];exact oU.1 hn
 rw[hn']at hf
 have hset:=fun o=>xN (P:=P) hM.1 o
 refine .of_run (v:= .tuple #[vf z,J (clock:Int)]) (w':=setBlock w gb (.map ((l++[(clock,key,z)]).map (lv kf vf)).toArray (clock+1))) (fun a ha=>?_) (h _ ⟨nA hM.1,hM.2.push key z (oU.1 hn)⟩ (Ch.uC _ _ _))
 simp only[execOp,ha.eval hx,ha.eval hy,Instr.mapEntry,Sem.run_bind,run_underlying ht,getObj,Sem.run,hM.1,Result.andThen,Sem.run_pure]
 rw[hc]
 simp only[]
 rw[hf]
 simp[hset,lv,hz.run,goInt]
theorem Ef.Fa {z:Operand}{b:Nat}{u:β}(hx:ev env x=some (.map (some gb)))(hy:ev env y=some (J (b:Int)))(hz:ev env z=some (vf u))(hM:jk w kf vf gb l clock)(hm:(b,key,v)∈l)
  (h:∀w',jk w' kf vf gb (l.map fun y=>if y.2.1=key then(y.1,key,u)else y) clock->Ch w w' (some gb)->K undef w'):Ef P env n ⟨d,.entryStore t x y z,T,p,af,g⟩ w K:=by
 obtain⟨j,hjl,hje⟩:=List.getElem_of_mem hm
 have c:l[j]? =some (b,key,v):=by rw[List.getElem?_eq_getElem hjl,hje]
 have hset:=fun o=>xN (P:=P) hM.1 o
 have f:(l.map fun y=>if y.2.1=key then(y.1,key,u)else y)=l.set j (b,key,u):=by
  have hmm:=Hm (fun x:Nat×κ×β=>x.2.1) (b,key,u) l j (b,key,v) hM.2.keys c
  rw[hmm]
  apply List.map_congr_left
  intro y hy
  by_cases hyk:y.2.1=key
  ·rw[if_pos hyk,if_pos hyk,DD (fun x:Nat×κ×β=>x.2.1) l hM.2.keys hy hm hyk]
  ·rw[if_neg hyk,if_neg hyk]
 have hfi:(l.map (lv kf vf)).toArray.findIdx? (fun e=>(e.born:Int)==(b:Int))=some j:=by
  rw[Array.findIdx?_eq_some_iff_getElem]
  refine⟨by simpa using hjl,?_,?_⟩
  ·simp[lv,hje]
  ·intro i hi
   have hil:i<l.length:=by omega
   simp only[List.getElem_toArray,List.getElem_map,lv,beq_iff_eq,Int.natCast_inj]
   intro hh
   have hb:=hM.2.Hg
   have k:(l.map fun x=>x.1)[i]'(by simpa using hil)=(l.map fun x=>x.1)[j]'(by simpa using hjl):=by simp[hje,hh]
   have:=(List.getElem_inj hb).1 k
   omega
 have hmod:(l.map (lv kf vf)).toArray.modify j (fun e=>{e with val:=vf u})=((l.map fun y=>if y.2.1=key then(y.1,key,u)else y).map (lv kf vf)).toArray:=by
  rw[f]
  apply Array.ext'
  rw[Array.toList_modify,List.map_set]
  simp only
  apply List.ext_getElem?
  intro i
  rw[List.getElem?_modify,List.getElem?_set,List.getElem?_map]
  by_cases hij:j=i
  ·subst hij
   simp[c,hjl,lv,hje]
  ·simp[hij]
 refine .rR (w':=setBlock w gb (.map ((l.map fun y=>if y.2.1=key then(y.1,key,u)else y).map (lv kf vf)).toArray clock)) (fun a ha=>?_) (h _ ⟨nA hM.1,hM.2.set key u⟩ (Ch.uC _ _ _))
 simp only[execOp,ha.eval hx,ha.eval hy,ha.eval hz,Instr.entryStore,Sem.run_bind,getObj,Sem.run,hM.1,Result.andThen,Sem.run_pure,asInt]
 have hb:(asIntOf (J (b:Int))).run P w= .ok (IntKind.i64,(b:Int)) w:=Z
 rw[hb]
 simp only[hfi,hmod,hset]
end
section
variable {κ β:Type}[DecidableEq κ]{kf:κ->Value}{vf:β->Value}{P:Program}{env:Env}{n:Nat}{d:Option Nat}{T:TypeId}{p:String}{af:Array Edge}{g:Option (Nat×Bool)}{w w':World}{K:Value->World->Prop}{gb clock:Nat}{l:List (Nat×κ×β)}{t:TypeId}{x:Operand}{v:Value}
theorem Any.afa {dd:TypeDesc}(ht:P.underlying t=some dd)(hd:(match dd with | .interface _=>false|_=>true)=true)(hx:ev env x=some v):Any P env n ⟨d,.makeInterface t x,T,p,af,g⟩ (.iface t v):=fun a ha w=>by
 cases dd<;>simp_all [execOp,ha.eval hx,Instr.makeInterface,run_underlying ht]
variable {kt et:TypeId}
theorem Rd.aar {s:TypeId}(ht:P.underlying t=some (.map kt et))(hx:ev env x=some (.iface t v)):Rd P w env n ⟨d,.typeAssert x s t false,T,p,af,g⟩ v:=fun a ha w' _=>by
 simp[execOp,ha.eval hx,Instr.typeAssert,run_underlying ht]
theorem Any.ado {ty:TypeId}{r:Option Nat}(ht:P.underlying t=some (.map kt et))(hx:ev env x=some (.map r)):Any P env n ⟨d,.binOp .eql t x (.const (.map none)) ty,T,p,af,g⟩ (.bool r.isNone):= .bin hx Z (fun w=>by simp[eqGuard]) (fun w=>run_eql_map_nil w t kt et r ht)
theorem Ef.adp {f:FuncId}{fn:Func}{ats:Array TypeId}(hf:P.funcs[f]? =some fn)(hname:(fn.name== "runtime.NumGoroutine")=false)(hb:fn.body.isNone=true)(hn:Extern.findNext fn=none)(he:Extern.find fn=some Extern.MapsClone.clone)
  (hx:ev env x=some (.iface t (.map (some gb))))(hM:jk w kf vf gb l clock)(h:∀g' w',w.heap.size<=g'->jk w' kf vf g' l clock->Le w w'->K (.iface t (.map (some g'))) w'):Ef P env n ⟨d,.call ⟨.value (.func f),#[x],ats⟩,T,p,af,g⟩ w K:=by
 refine .of_run (v:= .iface t (.map (some w.heap.size))) (w':=w.alloc (.map (l.map (lv kf vf)).toArray clock)) (fun a ha=>?_) (h _ _ (Nat.le_refl _) hM.clone (Le.alloc w _))
 have hfo:=ha.eval (show ev env (.func f)=some (.func (.func f) #[] #[])from Z)
 have hr:=run_callFunc_extern hf hname hb hn he (args:=#[.iface t (.map (some gb))]) (w:=w)
 have hcr:(Extern.MapsClone.clone #[.iface t (.map (some gb))]).run P w= .ok (.iface t (.map (some w.heap.size))) (w.alloc (.map (l.map (lv kf vf)).toArray clock)):=by
  show(((getObj gb)>>=fun o=>(match o with | .map entries clock=>(do pure (Value.iface t (.map (some (<-newObj (.map entries clock))))))|_=>stuck "maps.clone: a map expected")):Sem Value).run P w=_
  simp[getObj,Sem.run,hM.1,Result.andThen,newObj]
 rw[hcr]at hr
 simp[execOp,resolve,Deferred.ofValue,invoke,ha.eval hx,hfo,hr]
end
section
variable {P:Program}{w w':World}
def wo (w:World)(base:Nat)(e s:Nat)(A:Option Addr)(n c:Nat)(xs:List Value):Prop:=
 xs.length=n*s/\((n=0/\c=0)\/∃(g o:Nat) (cur:Array Value),A=some ⟨g,o,none⟩/\base<=g/\w.heap[g]? =some (.cells cur e (0,0))/\n<=c/\c<=maxLen/\cur.size=o+c*s/\(cur.toList.drop o).take (n*s)=xs)
variable {base e s:Nat}{A:Option Addr}{n c:Nat}{xs:List Value}
theorem Own.q (h:Own w base e s A n c xs):wo w base e s A n c xs:=by
 refine⟨h.1,h.2.imp id ?_⟩
 rintro⟨g,cur,rfl,d,f,i,j,l,k⟩
 exact⟨g,0,cur,rfl,d,f,i,j,by omega,by simpa using k⟩
theorem wo.sl (h:wo w base e s A n c xs):Sl w s A n xs:=by
 refine⟨h.1,fun j u hu=>?_⟩
 rcases h.2 with⟨rfl,_⟩|⟨g,o,cur,rfl,hb,hg,hnc,hcm,hcs,htake⟩
 ·have:=h.1
  rw[Nat.zero_mul]at this
  rw[List.eq_nil_of_length_eq_zero this]at hu
  simp at hu
 ·refine⟨_,rfl,?_⟩
  have hj:j<n*s:=by
   have:=(List.getElem?_eq_some_iff.1 hu).1
   rw[h.1]at this;exact this
  rw[<-htake,List.getElem?_take_of_lt hj,List.getElem?_drop]at hu
  rw[Addr.add_lit,cell_of_row w g (o+j) cur e (0,0) hg]
  simpa using hu
theorem wo.cap (h:wo w base e s A n c xs):n<=c/\c<=maxLen:=by
 rcases h.2 with⟨rfl,rfl⟩|⟨g,o,cur,rfl,hb,hg,hnc,hcm,hcs,htake⟩
 ·exact⟨Nat.le_refl _,Nat.zero_le _⟩
 ·exact⟨hnc,hcm⟩
theorem wo.blk (h:wo w base e s A n c xs){g:Nat}(hg:rowOf A c=some g):base<=g/\∃cur,ik w g e cur:=by
 rcases h.2 with⟨rfl,rfl⟩|⟨g',o,cur,rfl,hb,hh,hnc,hcm,hcs,htake⟩
 ·rw[jI]at hg;cases hg
 ·unfold rowOf at hg
  split at hg
  ·cases hg
  ·cases hg
   exact⟨hb,cur,hh⟩
theorem wo.ji {F:Nat->Prop}(h:wo w base e s A n c xs)(hc:iX w w' F)(hne:∀g,rowOf A c=some g->¬F g):wo w' base e s A n c xs:=by
 refine⟨h.1,?_⟩
 rcases h.2 with d|⟨g,o,cur,rfl,hb,hg,hnc,hcm,hcs,htake⟩
 ·exact .inl d
 ·by_cases f:c=0
  ·left;omega
  ·refine .inr ⟨g,o,cur,rfl,hb,?_,hnc,hcm,hcs,htake⟩
   exact ik.ji (w:=w) hg hc (hne g (by unfold rowOf;rw[if_neg f];rfl))
theorem wo.mono {base':Nat}(h:wo w base e s A n c xs)(hb:base'<=base):wo w base' e s A n c xs:=by
 refine⟨h.1,h.2.imp id ?_⟩
 rintro⟨g,o,cur,hv,hbg,hr⟩
 exact⟨g,o,cur,hv,Nat.le_trans hb hbg,hr⟩
theorem wo.pop (h:wo w base e s A (n+1) c xs):wo w base e s (mZ A c 1 s) n (c-1) (xs.drop s):=by
 have hl:=h.1
 rw[Nat.succ_mul]at hl
 refine⟨by rw[List.length_drop,hl];omega,?_⟩
 rcases h.2 with⟨f,_⟩|⟨g,o,cur,rfl,hb,hg,hnc,hcm,hcs,htake⟩
 ·omega
 ·by_cases d:c=1
  ·left;omega
  ·right
   have hcc:c*s=s+(c-1)*s:=by
    have:c=(c-1)+1:=by omega
    rw[this,Nat.succ_mul];simp;omega
   refine⟨g,o+s,cur,by unfold mZ;rw[if_neg d];simp[Addr.add_lit],hb,hg,by omega,by omega,by omega,?_⟩
   rw[<-htake,List.drop_take,List.drop_drop,Nat.succ_mul,Nat.add_sub_cancel]
end
section
variable {P:Program}{env:Env}{n:Nat}{d:Option Nat}{T:TypeId}{p:String}{af:Array Edge}{g:Option (Nat×Bool)}{w w':World}{K:Value->World->Prop}{t tx e s k c m:Nat}{A:Option Addr}{xs news:List Value}
theorem Lf {base ty b:Nat}{z:Value}{x:Value}(ht:P.underlying t=some (.slice e))(hel:El P e s b z)(hO:wo w base e s A k c xs)(hS:Src P s tx x m news w)
  (hb:(k+m)*b<=140737488355328)(hl:k+m<=maxLen)(hbase:base<=w.heap.size):
  ∃A' c' w',(Builtin.append_ #[t,tx] ty #[.slice A k c,x]).run P w= .ok (.slice A' (k+m) c') w'/\wo w' base e s A' (k+m) c' (xs++news)/\Ch w w' (rowOf A c)/\At w A c A' c':=by
 obtain⟨i,hi,hz,hsz,hby,hzs,hpos⟩:=hel
 subst hsz hby
 have hlen:(xs++news).length=(k+m)*i.size:=by rw[List.length_append,hO.1,hS.newsLen,Nat.add_mul]
 have l:k+m<=9223372036854775807:=by simp only[maxLen]at hl;omega
 have hcap:=hO.cap
 by_cases hroom:k+m<=c
 ·rcases hO.2 with⟨rfl,rfl⟩|⟨gb,o,cur,rfl,hbg,hg,hnc,hcm,hcs,htake⟩
  ·have:m=0:=by omega
   subst this
   have hn:news=[]:=List.eq_nil_of_length_eq_zero (by simpa using hS.newsLen)
   subst hn
   refine⟨A,0,w,?_,by simpa using hO,Ch.refl _ _,At.refl _ _ _⟩
   cases A<;>rcases hS.kind with⟨e',hk⟩|hk<;>simp[Builtin.append_,run_underlying ht,run_underlying hk,sizeOf,typeInfo,hi,hS.len,hS.cells,storeCells]
  ·have n:k*i.size+news.length<=c*i.size:=by rw[hS.newsLen,<-Nat.add_mul];exact Nat.mul_le_mul_right _ hroom
   have hfit:o+k*i.size+news.length<=cur.size:=by omega
   have hst:=run_storeCells_at P gb (o+k*i.size) e news 0 cur w hg (by simpa using hfit) hS.one
   simp only[Nat.add_zero]at hst
   have hrun:(Builtin.append_ #[t,tx] ty #[.slice (some ⟨gb,o,none⟩) k c,x]).run P w= .ok (.slice (some ⟨gb,o,none⟩) (k+m) c) (w.setRow gb (cur.toList.take (o+k*i.size)++news++cur.toList.drop (o+k*i.size+news.length)).toArray):=by
    rcases hS.kind with⟨e',hk⟩|hk<;>simp[Builtin.append_,run_underlying ht,run_underlying hk,sizeOf,typeInfo,hi,hS.len,hroom,hS.cells,Addr.add_lit,hst]
   by_cases d:c=0
   ·subst d
    have f:k=0/\m=0:=by omega
    obtain⟨rfl,rfl⟩:=f
    have hn:news=[]:=List.eq_nil_of_length_eq_zero (by simpa using hS.newsLen)
    subst hn
    refine⟨_,_,_,hrun,⟨hlen,.inl ⟨rfl,rfl⟩⟩,?_,At.refl _ _ _⟩
    simp only[Nat.zero_mul,Nat.add_zero,List.append_nil,List.length_nil,List.take_append_drop,Array.toArray_toList]
    rw[setRow_self w gb cur e (0,0) hg]
    exact Ch.refl _ _
   ·refine⟨_,_,_,hrun,⟨hlen,.inr ⟨gb,o,(cur.toList.take (o+k*i.size)++news++cur.toList.drop (o+k*i.size+news.length)).toArray,rfl,hbg,setRow_heap w gb cur _ e (0,0) hg,hroom,hcm,?_,?_⟩⟩,
     ⟨rfl,rfl,rfl,by simp,fun q _ hq=>setRow_other w gb q _ (fun e=>hq (by unfold rowOf;rw[if_neg d,e];rfl))⟩,At.refl _ _ _⟩
    ·simp only[List.size_toArray,List.length_append,List.length_take,List.length_drop,Array.length_toList]
     omega
    ·have e1:(cur.toList.take (o+k*i.size)++news++cur.toList.drop (o+k*i.size+news.length)).toArray.toList.drop o=(cur.toList.drop o).take (k*i.size)++news++cur.toList.drop (o+k*i.size+news.length):=by
      simp only[List.append_assoc]
      rw[List.drop_append_of_le_length (by simp;omega),List.drop_take,show o+k*i.size-o=k*i.size by omega]
     rw[e1,htake,<-hlen]
     exact List.take_left
 ·have hold:(Builtin.firstCells i.size k (.slice A k c)).run P w.drew= .ok xs.toArray w.drew:=by
   have hSl:Sl w.drew i.size A k xs:=hO.sl.le (Le.drew w)
   cases A with
   |none=>
    have hx:xs=[]:=by
     cases xs with
     |nil=>rfl
     |cons u us=>obtain⟨_,he,_⟩:=hSl.2 0 u Z;cases he
    subst hx
    simp[Builtin.firstCells]
   |some ad=>exact run_firstCells_some w.drew i.size k ad k c xs hO.1 (fun j u hu=>by obtain⟨ad',he,hc⟩:=hSl.2 j u hu;injection he with he;subst he;exact hc)
  have hr:=run_append_grow_src (P:=P) w t tx ty e i z ht hi hz A k c xs hold x m news hS (by omega) (by omega) (growslice_fits (by omega) hb)
  have hge:=grownCap_ge w (k+m) c e
  have hcm:grownCap w (k+m) c e<=maxLen:=grownCap_le_maxLen w (k+m) c e hl
  refine⟨some ⟨w.heap.size,0,none⟩,_,_,hr,Own.q ⟨hlen,.inr ⟨w.heap.size,_,rfl,hbase,heap_alloc_new w.drew _,hge,hcm,?_,?_⟩⟩,⟨rfl,rfl,rfl,by simp,fun q hq _=>Below.heap_alloc w.drew _ q hq⟩,fun q hq=> .inr (Nat.le_of_eq (ru hq).symm)⟩
  ·simp only[Array.size_append,List.size_toArray,size_zeroCells,hzs,hlen,<-Nat.add_mul]
   congr 1
   omega
  ·simp only[Array.toList_append]
   rw[<-hlen]
   exact List.take_left
variable {x y:Operand}
theorem Ef.Rs {base b:Nat}{z:Value}{v:Value}(ht:P.underlying t=some (.slice e))(hel:El P e s b z)(hx:ev env x=some (.slice A k c))(hO:wo w base e s A k c xs)
  (hy:ev env y=some v)(hS:Src P s tx v m news w)(hb:(k+m)*b<=140737488355328)(hl:k+m<=maxLen)(hbase:base<=w.heap.size)
  (h:∀A' c' w',wo w' base e s A' (k+m) c' (xs++news)->Ch w w' (rowOf A c)->At w A c A' c'->K (.slice A' (k+m) c') w'):
  Ef P env n ⟨d,.call ⟨.builtin .append,#[x,y],#[t,tx]⟩,T,p,af,g⟩ w K:=by
 obtain⟨A',c',w',hr,f,i,j⟩:=Lf (ty:=T) ht hel hO hS hb hl hbase
 refine .of_run (fun a ha=>?_) (h A' c' w' f i j)
 simp[execOp,resolve,invoke,builtin,ha.eval hx,ha.eval hy,hr]
def lH {α:Type}(w:World)(base e:Nat)(f:α->List Value)(s:Nat)(A:Option Addr)(m c:Nat)(xs:List α):Prop:=xs.length=m/\wo w base e s A m c (xs.map f).flatten
variable {α:Type}{f:α->List Value}{s e base:Nat}{A:Option Addr}{m c:Nat}{xs ys:List α}
theorem iy.q (h:iy w base e f s A m c xs):lH w base e f s A m c xs:=⟨h.1,h.2.q⟩
theorem lH.nil (w:World)(base e:Nat)(f:α->List Value)(s:Nat)(A:Option Addr):lH w base e f s A 0 0 []:=(iy.nil w base e f s A).q
theorem lH.vec (h:lH w base e f s A m c xs):Vec w f s A m xs:=⟨h.1,h.2.sl⟩
theorem lH.cap (h:lH w base e f s A m c xs):m<=c/\c<=maxLen:=h.2.cap
theorem lH.row (h:lH w base e f s A m c xs){g:Nat}(hg:rowOf A c=some g):base<=g/\g<w.heap.size:=by
 obtain⟨d,cur,i⟩:=h.2.blk hg
 exact⟨d,i.lt⟩
theorem lH.qU (h:lH w base e f s A m c xs){g:Nat}(hg:rowOf A c=some g):∃cs,ik w g e cs:=(h.2.blk hg).2
theorem lH.ji {F:Nat->Prop}(h:lH w base e f s A m c xs)(hc:iX w w' F)(hne:∀g,rowOf A c=some g->¬F g):lH w' base e f s A m c xs:=⟨h.1,h.2.ji hc hne⟩
theorem lH.ch {r:Option Nat}(h:lH w base e f s A m c xs)(hc:Ch w w' r)(hne:∀g,r=some g->rowOf A c≠some g):lH w' base e f s A m c xs:=h.ji (hc.ji (F:=fun k=>r=some k) (fun i hi=>hi)) fun g d j=>hne g j d
theorem lH.le (h:lH w base e f s A m c xs)(hl:Le w w'):lH w' base e f s A m c xs:=h.ji (hl.ji (fun _=>False)) (fun _ _ hf=>hf)
theorem lH.cb (h:lH w base e f s A m c xs)(hc:Ch w w' (some k))(hne:rowOf A c≠some k):lH w' base e f s A m c xs:=h.ch hc fun q hq=>by cases hq;exact hne
theorem lH.rn (h:lH w base e f s A m c xs){g:Nat}(hg:w.heap.size<=g):rowOf A c≠some g:=fun he=>by have:=(h.row he).2;omega
theorem lH.rl (h:lH w base e f s A m c xs){g:Nat}(hg:g<base):rowOf A c≠some g:=fun he=>by have:=(h.row he).1;omega
theorem lH.mono {base':Nat}(h:lH w base e f s A m c xs)(hb:base'<=base):lH w base' e f s A m c xs:=⟨h.1,h.2.mono hb⟩
theorem lH.pop {x:α}(h:lH w base e f s A (m+1) c (x::xs))(hf:kM f s):lH w base e f s (mZ A c 1 s) m (c-1) xs:=by
 have d:=h.2.pop
 rw[List.map_cons,List.flatten_cons,List.drop_left' (hf.len x)]at d
 exact⟨by have:=h.1;simpa using this,d⟩
theorem lH.ahn {x:α}(h:lH w base e f s A m c xs)(hx:xs=x::ys)(hf:kM f s):lH w base e f s (mZ A c 1 s) (m-1) (c-1) ys:=by
 subst hx
 have hm:m=ys.length+1:=by have:=h.1;simpa using this.symm
 subst hm
 exact h.pop hf
theorem lH.kV {g:Nat}{cs:Array Value}(h:lH w base e f s A m c xs)(hB:ik w g t cs)(hne:e≠t):rowOf A c≠some g:=fun he=>by
 obtain⟨cs',hc⟩:=h.qU he
 unfold ik at hc hB
 rw[hc]at hB
 injection hB with hB
 injection hB with _ hB
 exact hne hB
theorem uF {g:Nat}(h:rowOf (mZ A c 1 s) (c-1)=some g):rowOf A c=some g:=by
 unfold rowOf mZ lN at*
 split at h
 ·cases h
 ·rename_i h1
  rw[if_neg (by omega)]at h
  rw[if_neg (by omega)]
  cases A with
  |none=>cases h
  |some ad=>
   have e1:(ad.add s).block=ad.block:=add_block ad s
   simpa[e1]using h
theorem Ef.NK {b:Nat}{z:Value}{gb:Nat}{e2:TypeId}{a:α}(ht:P.underlying t=some (.slice e))(hel:El P e s b z)(htx:P.underlying tx=some (.slice e2))(hf:kM f s)(hx:ev env x=some (.slice A m c))(hO:lH w base e f s A m c xs)
  (hy:ev env y=some (.slice (some ⟨gb,0,none⟩) 1 1))(hB:ik w gb e2 (f a).toArray)(hb:(m+1)*b<=140737488355328)(hl:m+1<=maxLen)(hbase:base<=w.heap.size)
  (h:∀A' c' w',lH w' base e f s A' (m+1) c' (xs++[a])->Ch w w' (rowOf A c)->At w A c A' c'->K (.slice A' (m+1) c') w'):
  Ef P env n ⟨d,.call ⟨.builtin .append,#[x,y],#[t,tx]⟩,T,p,af,g⟩ w K:=
 Ef.Rs ht hel hx hO.2 hy (hB.aeO htx (by simpa using hf.len a) hf.pos (by simpa using hf.one a)) hb hl hbase (fun A' c' w' i j k=>h A' c' w' ⟨by simp[hO.1],by simpa using i⟩ j k)
theorem Ef.aho {b:Nat}{z:Value}{e2:TypeId}{B:Option Addr}{c2:Nat}(ht:P.underlying t=some (.slice e))(hel:El P e s b z)(htx:P.underlying tx=some (.slice e2))(hf:kM f s)(hx:ev env x=some (.slice A m c))(hO:lH w base e f s A m c xs)
  (hy:ev env y=some (.slice B k c2))(hB:Vec w f s B k ys)(hb:(m+k)*b<=140737488355328)(hl:m+k<=maxLen)(hbase:base<=w.heap.size)
  (h:∀A' c' w',lH w' base e f s A' (m+k) c' (xs++ys)->Ch w w' (rowOf A c)->At w A c A' c'->K (.slice A' (m+k) c') w'):
  Ef P env n ⟨d,.call ⟨.builtin .append,#[x,y],#[t,tx]⟩,T,p,af,g⟩ w K:=
 Ef.Rs ht hel hx hO.2 hy (hB.2.src htx hf.pos c2 (G9 hf ys)) hb hl hbase (fun A' c' w' i j l=>h A' c' w' ⟨by simp[hO.1,hB.1],by simpa using i⟩ j l)
end
end Go.Sx
