/- LedgerSplices: for every input the law answers true and leaves its arguments as they were. -/
import Derived.Test.YtcaehidaejhdfaaGreatLedgerSplicesH
import Derived.Laws.Pointers
set_option linter.unusedVariables false
set_option linter.unusedSimpArgs false
namespace Go.Sx
set_option linter.unusedSectionVars false
open Go Go.RowKit
structure ll (w w':World)(F:Nat->Prop):Prop where
  os:w'.os=w.os
  tape:w'.tape=w.tape
  output:w'.output=w.output
  size:w.heap.size<=w'.heap.size
  block:∀k,k<w.heap.size->¬F k->w'.heap[k]? =w.heap[k]?
section
variable {w w' w'':World}{F G:Nat->Prop}
theorem ll.refl (w:World)(F:Nat->Prop):ll w w F:=⟨rfl,rfl,rfl,Nat.le_refl _,fun _ _ _=>rfl⟩
theorem Le.kX (h:Le w w')(F:Nat->Prop):ll w w' F:=⟨h.os,h.tape,h.output,h.size,fun k hk _=>Below.block h k hk⟩
theorem ll.le (h:ll w w' F)(k:Le w' w''):ll w w'' F:=⟨k.os.trans h.os,k.tape.trans h.tape,k.output.trans h.output,Nat.le_trans h.size k.size,fun i hi hF=>(Below.block k i (Nat.lt_of_lt_of_le hi h.size)).trans (h.block i hi hF)⟩
theorem ll.trans (h:ll w w' F)(k:ll w' w'' F):ll w w'' F:=⟨k.os.trans h.os,k.tape.trans h.tape,k.output.trans h.output,Nat.le_trans h.size k.size,fun i hi hF=>(k.block i (Nat.lt_of_lt_of_le hi h.size) hF).trans (h.block i hi hF)⟩
theorem ll.sub (h:ll w w' F)(k:ll w' w'' G)(hG:∀i,G i->i<w.heap.size->F i):ll w w'' F:=⟨k.os.trans h.os,k.tape.trans h.tape,k.output.trans h.output,Nat.le_trans h.size k.size,fun i hi hF=>(k.block i (Nat.lt_of_lt_of_le hi h.size) (fun hg=>hF (hG i hg hi))).trans (h.block i hi hF)⟩
theorem ll.ch {r:Option Nat}(h:ll w w' F)(k:Ch w' w'' r)(hr:∀i,r=some i->i<w.heap.size->F i):ll w w'' F:=⟨k.os.trans h.os,k.tape.trans h.tape,k.output.trans h.output,Nat.le_trans h.size k.size,fun i hi hF=>(k.block i (Nat.lt_of_lt_of_le hi h.size) (fun he=>hF (hr i he.symm hi))).trans (h.block i hi hF)⟩
theorem Ch.kX {r:Option Nat}(k:Ch w w' r)(hr:∀i,r=some i->F i):ll w w' F:=⟨k.os,k.tape,k.output,k.size,fun i hi hF=>k.block i hi (fun he=>hF (hr i he.symm))⟩
theorem ll.mono (h:ll w w' F)(hG:∀i,F i->i<w.heap.size->G i):ll w w' G:=⟨h.os,h.tape,h.output,h.size,fun i hi hn=>h.block i hi (fun hF=>hn (hG i hF hi))⟩
theorem Le.kM (h:Le w w')(k:ll w' w'' F)(hF:∀i,F i->w.heap.size<=i):Le w w'':=⟨k.os.trans h.os,k.tape.trans h.tape,k.output.trans h.output,Nat.le_trans h.size k.size,fun i hi=>(k.block i (Nat.lt_of_lt_of_le hi h.size) (fun hf=>by have:=hF i hf;omega)).trans (Below.block h i hi)⟩
theorem jL.kX {g:Nat}{t:TypeId}{cs:Array Value}(h:jL w g t cs)(hc:ll w w' F)(hne:¬F g):jL w' g t cs:=(hc.block g h.lt hne).trans h
theorem Own.kX {base e s:Nat}{A:Option Addr}{n c:Nat}{xs:List Value}(h:Own w base e s A n c xs)(hc:ll w w' F)(hne:∀g,rowOf A c=some g->¬F g):Own w' base e s A n c xs:=by
  refine⟨h.1,?_⟩
  rcases h.2 with b|⟨g,cur,rfl,hb,hg,hnc,hcm,hcs,htake⟩
  · exact .inl b
  · by_cases d:c=0
    · left;omega
    · refine .inr ⟨g,cur,rfl,hb,?_,hnc,hcm,hcs,htake⟩
      exact jL.kX (w:=w) hg hc (hne g (uu g 0 c d))
theorem jO.kX {α:Type}{base e:Nat}{f:α->List Value}{s:Nat}{A:Option Addr}{m c:Nat}{xs:List α}(h:jO w base e f s A m c xs)(hc:ll w w' F)(hne:∀g,rowOf A c=some g->¬F g):jO w' base e f s A m c xs:=⟨h.1,h.2.kX hc hne⟩
theorem kH.kX {κ β:Type}[DecidableEq κ]{kf:κ->Value}{vf:β->Value}{g clock:Nat}{l:List (Nat×κ×β)}(h:kH w kf vf g l clock)(hc:ll w w' F)(hne:¬F g):kH w' kf vf g l clock:=⟨(hc.block g h.lt hne).trans h.1,h.2⟩
theorem Sl.keep {s:Nat}{A:Option Addr}{n:Nat}{xs:List Value}(h:Sl w s A n xs)(hb:∀g,lU A=some g->g<w.heap.size->w'.heap[g]? =w.heap[g]?):Sl w' s A n xs:=
  ⟨h.1,fun j u hu=>by
    obtain⟨ad,rfl,hcell⟩:=h.2 j u hu
    refine⟨ad,rfl,?_⟩
    have hlt:=block_lt_of_cell hcell
    rw[add_block]at hlt
    rw[<-hcell]
    refine World.cell?_of_block ?_
    rw[add_block]
    exact hb _ rfl hlt⟩
end
section
variable {P:Program}{env:Env}{n:Nat}{d:Option Nat}{T:TypeId}{p:String}{af:Array Edge}{g:Option (Nat×Bool)}{w:World}{K:Value->World->Prop}
theorem Any.PU {t ty:TypeId}{x:Operand}{ad:Option Addr}(ht:P.underlying t=some (.pointer (P.pointee t)))(hx:ev env x=some (.pointer ad)):Any P env n ⟨d,.binOp .eql t x (.const (.pointer none)) ty,T,p,af,g⟩ (.bool ad.isNone):= .bin hx rfl (fun w=>by simp[eqGuard]) (fun w=>run_eql_pointer_nil w t ad ht)
theorem Any.Hr {t ty:TypeId}{x:Operand}{ad:Option Addr}(ht:P.underlying t=some (.pointer (P.pointee t)))(hx:ev env x=some (.pointer ad)):Any P env n ⟨d,.binOp .neq t x (.const (.pointer none)) ty,T,p,af,g⟩ (.bool !ad.isNone):= .bin hx rfl (fun w=>by simp[eqGuard]) (fun w=>run_neq_pointer_nil w t ad ht)
theorem Td (o:Option Bool):(o.map Value.bool).getD (.bool false)= .bool (o.getD false):=by cases o<;>rfl
end
end Go.Sx

namespace Go.Sx
set_option linter.unusedSectionVars false
open Go Go.RowKit
open Go.ChangeMaps (setBlock)
section
variable {κ β:Type}[DecidableEq κ]{kf:κ->Value}{vf:β->Value}
variable {P:Program}{env:Env}{n:Nat}{d:Option Nat}{T:TypeId}{p:String}{af:Array Edge}{g:Option (Nat×Bool)}{w w':World}{K:Value->World->Prop}
variable {gb clock r:Nat}{l:List (Nat×κ×β)}{seen:Array Nat}
def FE (w:World)(r gb clock:Nat)(seen:Array Nat):Prop:=w.heap[r]? =some (.mapIter (some gb) clock seen clock)
theorem FE.lt (h:FE w r gb clock seen):r<w.heap.size:=(Array.getElem?_eq_some_iff.1 h).1
theorem FE.ch {q:Option Nat}(h:FE w r gb clock seen)(hc:Ch w w' q)(hne:q≠some r):FE w' r gb clock seen:=(hc.block r h.lt (Ne.symm hne)).trans h
theorem FE.cn {q:Nat}(h:FE w r gb clock seen)(hc:Ch w w' (some q))(hne:q≠r):FE w' r gb clock seen:=h.ch hc (fun e=>hne (Option.some.inj e))
theorem FE.le (h:FE w r gb clock seen)(hl:Le w w'):FE w' r gb clock seen:=h.ch (hl.ch none) (by simp)
theorem FE.kX {F:Nat->Prop}(h:FE w r gb clock seen)(hc:ll w w' F)(hne:¬F r):FE w' r gb clock seen:=(hc.block r h.lt hne).trans h
theorem Ef.PV {t kt et:Nat}{x:Operand}(ht:P.underlying t=some (.map kt et))(hx:ev env x=some (.map (some gb)))(hM:kH w kf vf gb l clock)
    (h:∀r w',w.heap.size<=r->FE w' r gb clock #[]->Le w w'->K (.pointer (some ⟨r,0,none⟩)) w'):Ef P env n ⟨d,.range t x,T,p,af,g⟩ w K:=
  .of_run (v:= .pointer (some ⟨w.heap.size,0,none⟩)) (w':=w.alloc (.mapIter (some gb) clock #[] clock)) (fun a ha=>by
    simp[execOp,ha.eval hx,Instr.range,run_underlying ht,getObj,Sem.run,hM.1,Result.andThen,newObj]) (h _ _ (Nat.le_refl _) (heap_alloc_new w _) (Le.alloc w _))
def vB (l:List (Nat×κ×β))(seen:Array Nat):List (Nat×κ×β):=l.filter fun x=> !seen.contains x.1
theorem CZ (l:List (Nat×κ×β))(seen:Array Nat):(leftOf (l.map (mJ kf vf)).toArray seen).toList=(vB l seen).map (mJ kf vf):=by
  unfold leftOf vB
  simp only[Array.toList_filter,List.filter_map]
  rfl
theorem Ef.UE {x:Operand}(hx:ev env x=some (.pointer (some ⟨r,0,none⟩)))(hM:kH w kf vf gb l clock)(hr:FE w r gb clock seen)
    (h0:vB l seen=[]->K (.tuple #[.bool false]) w)
    (h1:∀e w',e∈vB l seen->FE w' r gb clock (seen.push e.1)->Ch w w' (some r)->K (.tuple #[.bool true,kf e.2.1,vf e.2.2]) w'):Ef P env n ⟨d,.next x false,T,p,af,g⟩ w K:=by
  have hold:∀y∈(l.map (mJ kf vf)).toArray.toList,y.born<clock:=fun y hy=>by
    simp only[List.mem_map]at hy
    obtain⟨e,he,rfl⟩:=hy
    exact hM.2.old e he
  rcases run_next_at (P:=P) w T r gb clock clock seen (l.map (mJ kf vf)).toArray clock hr hM.1 hold (Nat.le_refl _)with⟨hs,hrun⟩|⟨e,he,f,b,hrun⟩
  · have hu:vB l seen=[]:=by
      have:=CZ (kf:=kf) (vf:=vf) l seen
      have c:(leftOf (l.map (mJ kf vf)).toArray seen).toList.length=0:=by simpa using hs
      rw[this,List.length_map]at c
      exact List.eq_nil_of_length_eq_zero c
    exact .of_run (fun a ha=>by simp[execOp,ha.eval hx,hrun]) (h0 hu)
  · rw[CZ]at he
    obtain⟨e',he',rfl⟩:=List.mem_map.1 he
    refine .of_run (w':=setBlock f r (.mapIter (some gb) clock (seen.push e'.1) clock)) (fun a ha=>by simp[execOp,ha.eval hx,hrun];exact⟨⟨rfl,rfl⟩,rfl⟩) (h1 e' _ he' (oM (o:= .mapIter (some gb) clock seen clock) (by rcases b with rfl|rfl<;>exact hr)) ?_)
    rcases b with rfl|rfl
    · exact Ch.uY _ _ _
    · exact((Le.drew w).ch _).trans (Ch.uY _ _ _)
theorem Ef.PW {x:Operand}{e:Nat×κ×β}(hx:ev env x=some (.pointer (some ⟨r,0,none⟩)))(hM:kH w kf vf gb l clock)(hr:FE w r gb clock (seen.push e.1))(he:e∈l)
    (h:K (.tuple #[kf e.2.1,vf e.2.2]) w):Ef P env n ⟨d,.entry x,T,p,af,g⟩ w K:=by
  have hrun:=run_entry_at (P:=P) w r gb clock seen (l.map (mJ kf vf)).toArray clock (mJ kf vf e) hr hM.1 (by simp only;exact List.mem_map_of_mem he) (by
    simp only[List.map_map]
    exact hM.2.Ei)
  exact .of_run (fun a ha=>by simp[execOp,ha.eval hx,hrun];exact⟨rfl,rfl⟩) h
theorem Jy (l:List (Nat×κ×β)):vB l #[]=l:=by
  unfold vB
  rw[List.filter_eq_self]
  intro x _
  simp
theorem Gg {l:List (Nat×κ×β)}{clock:Nat}(hw:OP l clock){e:Nat×κ×β}(he:e∈vB l seen):(vB l seen).Perm (e::vB l (seen.push e.1)):=by
  have hb:(l.map fun x=>x.1).Nodup:=hw.Ei
  unfold vB at*
  induction l with
  |nil=>simp at he
  |cons a l ih=>
    simp only[List.map_cons,List.nodup_cons]at hb
    have hwl:OP l clock:=⟨(List.nodup_cons.1 hw.keys).2,hb.2,fun x hx=>hw.old x (List.mem_cons_of_mem _ hx)⟩
    by_cases ha:a.1∈seen
    · have c:a.1∈seen.push e.1:=by simp[ha]
      rw[List.filter_cons,if_neg (by simp[ha]),List.filter_cons,if_neg (by simp[c])]
      refine ih hwl ?_ hb.2
      rw[List.filter_cons,if_neg (by simp[ha])]at he
      exact he
    · rw[List.filter_cons,if_pos (by simp[ha])]at he ⊢
      by_cases hae:a.1=e.1
      · have d:a=e:=by
          rcases List.mem_cons.1 he with h|h
          · exact h.symm
          · exact absurd (List.mem_map.2 ⟨e,(List.mem_filter.1 h).1,hae.symm⟩) hb.1
        subst d
        have f:(l.filter fun x=> !(seen.push a.1).contains x.1)=l.filter fun x=> !seen.contains x.1:=by
          apply List.filter_congr
          intro x hx
          have:x.1≠a.1:=fun h=>hb.1 (List.mem_map.2 ⟨x,hx,h⟩)
          simp[Array.contains_eq_mem,Array.mem_push,this]
        have b:a.1∈seen.push a.1:=by simp
        rw[List.filter_cons,if_neg (by simp[b]),f]
      · have b:¬a.1∈seen.push e.1:=by simp[ha,hae]
        rw[List.filter_cons,if_pos (by simp[b])]
        have i:e∈l.filter fun x=> !seen.contains x.1:=by
          rcases List.mem_cons.1 he with h|h
          · exact absurd (by rw[h]) hae
          · exact h
        exact((ih hwl i hb.2).cons a).trans (List.Perm.swap e a _)
theorem EE {e:Nat×κ×β}(he:e∈vB l seen):e∈l:=(List.mem_filter.1 he).1
theorem kH.clone (h:kH w kf vf gb l clock):kH (w.alloc (.map (l.map (mJ kf vf)).toArray clock)) kf vf w.heap.size l clock:=⟨heap_alloc_new w _,h.2⟩
end
end Go.Sx

namespace Go.Sx
set_option linter.unusedSectionVars false
open Go Go.RowKit
open Go.ChangeMaps (setBlock)
section
variable {P:Program}{env:Env}{n:Nat}{d:Option Nat}{T:TypeId}{p:String}{af:Array Edge}{g:Option (Nat×Bool)}{w w':World}{K:Value->World->Prop}
theorem Vec.kX {α:Type}{f:α->List Value}{s:Nat}{A:Option Addr}{m:Nat}{xs:List α}{F:Nat->Prop}(h:Vec w f s A m xs)(hc:ll w w' F)(hne:∀g,lU A=some g->0<m->g<w.heap.size->¬F g):Vec w' f s A m xs:=by
  by_cases b:0<m
  · exact⟨h.1,h.2.keep (fun g hg hlt=>hc.block g hlt (hne g hg b hlt))⟩
  · have hm:m=0:=by omega
    subst hm
    have hx:xs=[]:=List.eq_nil_of_length_eq_zero h.1
    subst hx
    exact⟨rfl,Sl.nil _ _ _⟩
theorem Any.Te {t ty:TypeId}{x:Operand}{i:Int}(ht:P.underlying t=some (.int .i64))(hx:ev env x=some (.int .i64 i))(hb: -9223372036854775808<i/\i<=9223372036854775807):Any P env n ⟨d,.unOp .neg t x,ty,p,af,g⟩ (.int .i64 (-i)):=fun a ha w=>by
  have h:IntKind.i64.wrap (-i)= -i:=IntWalk.i64_in _ (by omega)
  simp[execOp,ha.eval hx,Op.unary,Op.intArith,h]
def Ht (i:Int):Int:=if i= -9223372036854775808 then i else-i
theorem Any.Ht {t ty:TypeId}{x:Operand}{i:Int}(ht:P.underlying t=some (.int .i64))(hx:ev env x=some (.int .i64 i))(hb: -9223372036854775808<=i/\i<=9223372036854775807):Any P env n ⟨d,.unOp .neg t x,ty,p,af,g⟩ (.int .i64 (Ht i)):=fun a ha w=>by
  have h:IntKind.i64.wrap (-i)=Sx.Ht i:=by
    unfold Sx.Ht
    split
    · rename_i e;subst e;rfl
    · exact IntWalk.i64_in _ (by omega)
  simp[execOp,ha.eval hx,Op.unary,Op.intArith,h]
theorem optG {α:Type}(o:Option α):o=none\/∃v,o=some v:=by cases o<;>simp
theorem Any.sU {t e len:Nat}{x y:Operand}{cs:Array Value}{i:Int}{v:Value}(j:Nat)(ht:P.underlying t=some (.array len e))(hs:Sz P e 1)(he:lV P e)(hx:ev env x=some (.agg cs))(hy:ev env y=some (.int .i64 i))(hi:i=(j:Int))(hj:j<len)(hv:cs[j]? =some v):Any P env n ⟨d,.index t x y,T,p,af,g⟩ v:=fun a ha w=>by
  subst hi
  have:=mr (P:=P) he hv w
  simp[execOp,ha.eval hx,ha.eval hy,Instr.index,run_underlying ht,asIntOf,hs.run,hj,this]
theorem Any.Vw {t i:Nat}{fs:Array Field}{f:Field}{x:Operand}{cs:Array Value}{v:Value}(ht:P.underlying t=some (.struct fs))(hf:fs[i]? =some f)(he:lV P f.type)(hx:ev env x=some (.agg cs))(hv:cs[f.offset]? =some v):Any P env n ⟨d,.field t x i,T,p,af,g⟩ v:=fun a ha w=>by
  have:=mr (P:=P) he hv w
  simp[execOp,ha.eval hx,Instr.field,run_underlying ht,hf,asAgg,this]
theorem Any.j3 {t e len:Nat}{x y:Operand}{gb o:Nat}{k:IntKind}{i:Int}(j:Nat)(ht:P.underlying t=some (.array len e))(hs:Sz P e 1)(hx:ev env x=some (.pointer (some ⟨gb,o,none⟩)))(hy:ev env y=some (.int k i))
    (hi:i=(j:Int))(hj:j<len):Any P env n ⟨d,.indexAddr t x y,T,p,af,g⟩ (.pointer (some ⟨gb,o+j,none⟩)):=by
  have:=Any.mP (P:=P) (n:=n) (d:=d) (T:=T) (p:=p) (af:=af) (g:=g) j ht hs hx hy hi hj
  rwa [Nat.mul_one]at this
end
section
variable {κ β:Type}[DecidableEq κ]{kf:κ->Value}{vf:β->Value}
variable {P:Program}{env:Env}{n:Nat}{d:Option Nat}{T:TypeId}{p:String}{af:Array Edge}{g:Option (Nat×Bool)}{w w':World}{K:Value->World->Prop}
variable {gb clock:Nat}{l:List (Nat×κ×β)}
theorem Ef.Nt {t kt et:Nat}{x y:Operand}{key:κ}{v:β}(ht:P.underlying t=some (.map kt et))(hk:wP P kt kf)(hx:ev env x=some (.map (some gb)))(hy:ev env y=some (kf key))(hM:kH w kf vf gb l clock)(hst:∀w:World,(Instr.keyThatStays (kf key) (kf key)).run P w= .ok (kf key) w)
    (hn:jW key l=some v)(h:∀b w',(b,key,v)∈l->kH w' kf vf gb l clock->Ch w w' (some gb)->K (.tuple #[vf v,.int .i64 ((b:Nat):Int)]) w'):Ef P env n ⟨d,.mapEntry t x y,T,p,af,g⟩ w K:=by
  have hf:=hk.get (vf:=vf) key l w
  have hc:=hk.check false key w
  obtain⟨j,hj⟩:=Ej hn
  obtain⟨e,_,c,f,k⟩:=uz key l 0 j v hj
  rw[Nat.sub_zero]at c
  rw[hj]at hf
  have hset:=fun o=>yA (P:=P) hM.1 o
  have SH:e=(e.1,key,v):=by rw[<-f,<-k]
  have hmem:(e.1,key,v)∈l:=by rw[<-SH];exact List.mem_of_getElem? c
  have hmod:(l.map (mJ kf vf)).toArray.modify j (fun e=>{e with key:=kf key})=(l.map (mJ kf vf)).toArray:=by
    apply Array.ext'
    rw[Array.toList_modify]
    simp only
    apply List.ext_getElem?
    intro i
    rw[List.getElem?_modify,List.getElem?_map]
    by_cases hij:j=i
    · subst hij
      rw[c,SH]
      simp[mJ]
    · simp[hij]
  refine .of_run (v:= .tuple #[vf v,.int .i64 ((e.1:Nat):Int)]) (w':=setBlock w gb (.map (l.map (mJ kf vf)).toArray clock)) (fun a ha=>?_) (h e.1 _ hmem ⟨oM hM.1,hM.2⟩ (Ch.uY _ _ _))
  have hkey:(((l.map (mJ kf vf)).toArray[j]?).map (·.key)).getD (kf key)=kf key:=by simp[c,mJ,f]
  have hborn:(((l.map (mJ kf vf)).toArray[j]?).map (fun x=>((x.born:Nat):Int))).getD 0=(e.1:Int):=by simp[c,mJ]
  simp only[execOp,ha.eval hx,ha.eval hy,Instr.mapEntry,Sem.run_bind,run_underlying ht,getObj,Sem.run,hM.1,Result.andThen,Sem.run_pure]
  rw[hc]
  simp only[]
  rw[hf]
  simp only[Option.map_some]
  rw[hkey]
  have hst':=hst w
  simp only[Sem.run_bind,hst',Result.andThen_ok,hmod,hset,hborn,goInt,Sem.run_pure]
theorem Ef.Nu {t kt et:Nat}{x y:Operand}{key:κ}{z:β}(ht:P.underlying t=some (.map kt et))(hk:wP P kt kf)(hz:Zr P et (vf z))(hx:ev env x=some (.map (some gb)))(hy:ev env y=some (kf key))(hM:kH w kf vf gb l clock)
    (hn:jW key l=none)(h:∀w',kH w' kf vf gb (l++[(clock,key,z)]) (clock+1)->Ch w w' (some gb)->K (.tuple #[vf z,.int .i64 ((clock:Nat):Int)]) w'):Ef P env n ⟨d,.mapEntry t x y,T,p,af,g⟩ w K:=by
  have hf:=hk.get (vf:=vf) key l w
  have hc:=hk.check false key w
  have hn':nz key l 0=none:=by rw[uy];exact rf.1 hn
  rw[hn']at hf
  have hset:=fun o=>yA (P:=P) hM.1 o
  refine .of_run (v:= .tuple #[vf z,.int .i64 ((clock:Nat):Int)]) (w':=setBlock w gb (.map ((l++[(clock,key,z)]).map (mJ kf vf)).toArray (clock+1))) (fun a ha=>?_) (h _ ⟨oM hM.1,hM.2.push key z (rf.1 hn)⟩ (Ch.uY _ _ _))
  simp only[execOp,ha.eval hx,ha.eval hy,Instr.mapEntry,Sem.run_bind,run_underlying ht,getObj,Sem.run,hM.1,Result.andThen,Sem.run_pure]
  rw[hc]
  simp only[]
  rw[hf]
  simp[hset,mJ,hz.run,goInt]
theorem Ef.C8 {t:Nat}{x y z:Operand}{key:κ}{b:Nat}{v u:β}(hx:ev env x=some (.map (some gb)))(hy:ev env y=some (.int .i64 ((b:Nat):Int)))(hz:ev env z=some (vf u))(hM:kH w kf vf gb l clock)(hm:(b,key,v)∈l)
    (h:∀w',kH w' kf vf gb (l.map fun y=>if y.2.1=key then(y.1,key,u)else y) clock->Ch w w' (some gb)->K undef w'):Ef P env n ⟨d,.entryStore t x y z,T,p,af,g⟩ w K:=by
  obtain⟨j,hjl,SH⟩:=List.getElem_of_mem hm
  have c:l[j]? =some (b,key,v):=by rw[List.getElem?_eq_getElem hjl,SH]
  have hset:=fun o=>yA (P:=P) hM.1 o
  have f:(l.map fun y=>if y.2.1=key then(y.1,key,u)else y)=l.set j (b,key,u):=by
    have hmm:=En (fun x:Nat×κ×β=>x.2.1) (b,key,u) l j (b,key,v) hM.2.keys c
    rw[hmm]
    apply List.map_congr_left
    intro y hy
    by_cases hyk:y.2.1=key
    · rw[if_pos hyk,if_pos hyk,Cg (fun x:Nat×κ×β=>x.2.1) l hM.2.keys hy hm hyk]
    · rw[if_neg hyk,if_neg hyk]
  have hfi:(l.map (mJ kf vf)).toArray.findIdx? (fun e=>(e.born:Int)==(b:Int))=some j:=by
    rw[Array.findIdx?_eq_some_iff_getElem]
    refine⟨by simpa using hjl,?_,?_⟩
    · simp[mJ,SH]
    · intro i hi
      have hil:i<l.length:=by omega
      simp only[List.getElem_toArray,List.getElem_map,mJ,beq_iff_eq,Int.natCast_inj]
      intro hh
      have hb:=hM.2.Ei
      have k:(l.map fun x=>x.1)[i]'(by simpa using hil)=(l.map fun x=>x.1)[j]'(by simpa using hjl):=by simp[SH,hh]
      have:=(List.getElem_inj hb).1 k
      omega
  have hmod:(l.map (mJ kf vf)).toArray.modify j (fun e=>{e with val:=vf u})=((l.map fun y=>if y.2.1=key then(y.1,key,u)else y).map (mJ kf vf)).toArray:=by
    rw[f]
    apply Array.ext'
    rw[Array.toList_modify,List.map_set]
    simp only
    apply List.ext_getElem?
    intro i
    rw[List.getElem?_modify,List.getElem?_set,List.getElem?_map]
    by_cases hij:j=i
    · subst hij
      simp[c,hjl,mJ,SH]
    · simp[hij]
  refine .uU (w':=setBlock w gb (.map ((l.map fun y=>if y.2.1=key then(y.1,key,u)else y).map (mJ kf vf)).toArray clock)) (fun a ha=>?_) (h _ ⟨oM hM.1,hM.2.set key u⟩ (Ch.uY _ _ _))
  simp only[execOp,ha.eval hx,ha.eval hy,ha.eval hz,Instr.entryStore,Sem.run_bind,getObj,Sem.run,hM.1,Result.andThen,Sem.run_pure,asInt]
  have hb:(asIntOf (.int .i64 ((b:Nat):Int))).run P w= .ok (IntKind.i64,((b:Nat):Int)) w:=rfl
  rw[hb]
  simp only[hfi,hmod,hset]
end
section
variable {κ β:Type}[DecidableEq κ]{kf:κ->Value}{vf:β->Value}
variable {P:Program}{env:Env}{n:Nat}{d:Option Nat}{T:TypeId}{p:String}{af:Array Edge}{g:Option (Nat×Bool)}{w w':World}{K:Value->World->Prop}
variable {gb clock:Nat}{l:List (Nat×κ×β)}
theorem Any.Xw {t:TypeId}{dd:TypeDesc}{x:Operand}{v:Value}(ht:P.underlying t=some dd)(hd:(match dd with | .interface _=>false|_=>true)=true)(hx:ev env x=some v):Any P env n ⟨d,.makeInterface t x,T,p,af,g⟩ (.iface t v):=fun a ha w=>by
  cases dd<;>simp_all [execOp,ha.eval hx,Instr.makeInterface,run_underlying ht]
theorem Rd.Tf {t s kt et:TypeId}{x:Operand}{v:Value}(ht:P.underlying t=some (.map kt et))(hx:ev env x=some (.iface t v)):Rd P w env n ⟨d,.typeAssert x s t false,T,p,af,g⟩ v:=fun a ha w' _=>by
  simp[execOp,ha.eval hx,Instr.typeAssert,run_underlying ht]
theorem Any.Vx {t ty kt et:TypeId}{x:Operand}{r:Option Nat}(ht:P.underlying t=some (.map kt et))(hx:ev env x=some (.map r)):Any P env n ⟨d,.binOp .eql t x (.const (.map none)) ty,T,p,af,g⟩ (.bool r.isNone):= .bin hx rfl (fun w=>by simp[eqGuard]) (fun w=>run_eql_map_nil w t kt et r ht)
theorem Ef.Vy {f:FuncId}{fn:Func}{t:TypeId}{x:Operand}{ats:Array TypeId}(hf:P.funcs[f]? =some fn)(hname:(fn.name== "runtime.NumGoroutine")=false)(hb:fn.body.isNone=true)(hn:Extern.findNext fn=none)(he:Extern.find fn=some Extern.MapsClone.clone)
    (hx:ev env x=some (.iface t (.map (some gb))))(hM:kH w kf vf gb l clock)(h:∀g' w',w.heap.size<=g'->kH w' kf vf g' l clock->Le w w'->K (.iface t (.map (some g'))) w'):Ef P env n ⟨d,.call ⟨.value (.func f),#[x],ats⟩,T,p,af,g⟩ w K:=by
  refine .of_run (v:= .iface t (.map (some w.heap.size))) (w':=w.alloc (.map (l.map (mJ kf vf)).toArray clock)) (fun a ha=>?_) (h _ _ (Nat.le_refl _) hM.clone (Le.alloc w _))
  have hfo:=ha.eval (show ev env (.func f)=some (.func (.func f) #[] #[])from rfl)
  have hr:=run_callFunc_extern hf hname hb hn he (args:=#[.iface t (.map (some gb))]) (w:=w)
  have hcr:(Extern.MapsClone.clone #[.iface t (.map (some gb))]).run P w= .ok (.iface t (.map (some w.heap.size))) (w.alloc (.map (l.map (mJ kf vf)).toArray clock)):=by
    show(((getObj gb)>>=fun o=>(match o with | .map entries clock=>(do pure (Value.iface t (.map (some (<-newObj (.map entries clock))))))|_=>stuck "maps.clone: a map expected")):Sem Value).run P w=_
    simp[getObj,Sem.run,hM.1,Result.andThen,newObj]
  rw[hcr]at hr
  simp[execOp,resolve,Deferred.ofValue,invoke,ha.eval hx,hfo,hr]
end
end Go.Sx

