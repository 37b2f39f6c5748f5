/- LedgerSplices: for every input the law answers true and leaves its arguments as they were. -/
import Derived.Test.YtcaehidaejhdfaaGreatLedgerSplicesE
import Derived.Lib.AppendZerosOnto
set_option linter.unusedVariables false
set_option linter.unusedSimpArgs false
namespace Go.Sx
open Go Go.RowKit
section
variable {P:Program}{env:Env}{n:Nat}{d:Option Nat}{T:TypeId}{p:String}{af:Array Edge}{g:Option (Nat×Bool)}{w:World}{K:Value->World->Prop}
def pE (P:Program)(t i off:Nat):Prop:=∃fs f s,P.underlying t=some (.struct fs)/\fs[i]? =some f/\f.offset=off/\Sz P f.type s/\0<s
theorem Any.fieldAddr {t i off:Nat}{x:Operand}{gb o:Nat}(hf:pE P t i off)(hx:ev env x=some (.pointer (some ⟨gb,o,none⟩))):Any P env n ⟨d,.fieldAddr t x i,T,p,af,g⟩ (.pointer (some ⟨gb,o+off,none⟩)):=fun a ha w=>by
  obtain⟨fs,f,s,b,c,e,j,l⟩:=hf
  have k:¬s=0:=by omega
  simp[execOp,ha.eval hx,Instr.fieldAt,run_underlying b,c,Instr.sureAddr,fieldPlace,j.run,k,e,add_lit]
theorem Any.jE {t off:Nat}{x:Operand}{gb i:Nat}(hf:pE P t i off)(hx:ev env x=some (.pointer (some ⟨gb,0,none⟩))):Any P env n ⟨d,.fieldAddr t x i,T,p,af,g⟩ (.pointer (some ⟨gb,off,none⟩)):=by
  have:=Any.fieldAddr (n:=n) (d:=d) (T:=T) (p:=p) (af:=af) (g:=g) hf hx
  rwa [Nat.zero_add]at this
def FX (P:Program)(t:Nat)(pl:List (Nat×Nat)):Prop:=∃fs:Array Field,P.underlying t=some (.struct fs)/\∀w:World,(fs.mapM (m:=Sem) fun f=>do pure (f.offset,<-sizeOf f.type)).run P w= .ok pl.toArray w
theorem Any.Vm {t:Nat}{z:Value}{pl:List (Nat×Nat)}{parts:Array (Nat×Operand)}{vs:List (Nat×Value)}{cells:Array Value}(hu:FX P t pl)(hz:Zr P t z)(hp:Pk env parts.toList=some vs)
    (hf:Instr.fill (pl.toArray[·]?) z.cells vs=some cells):Any P env n ⟨d,.build t parts,T,p,af,g⟩ (.agg cells):=fun a ha w=>by
  obtain⟨fs,b,c⟩:=hu
  have hparts:parts.map (fun(i,x)=>(i,a.eval x))=vs.toArray:=by rw[<-ha.Az hp];apply Array.ext';simp
  simp only[execOp,Instr.build,Sem.run_bind,hz.run,Result.andThen_ok,run_underlying b,c,hparts]
  rw[hf]
  simp
def OO (w:World)(k:Nat)(A:Option Addr)(m:Nat)(rows:List (List Value)):Prop:=rows.length=m/\(∀r∈rows,r.length=k)/\Sl w k A m rows.flatten
theorem OO.le {w w':World}{k:Nat}{A:Option Addr}{m:Nat}{rows:List (List Value)}(h:OO w k A m rows)(hl:Le w w'):OO w' k A m rows:=⟨h.1,h.2.1,h.2.2.le hl⟩
theorem OO.nil (w:World)(k:Nat)(A:Option Addr):OO w k A 0 []:=⟨rfl,(fun r hr=>by cases hr),⟨by simp,fun j u hu=>by simp at hu⟩⟩
theorem Ha {k:Nat}:∀(rows:List (List Value)),(∀r∈rows,r.length=k)->∀(j:Nat) (r:List Value),rows[j]? =some r->∀(i:Nat) (u:Value),r[i]? =some u->rows.flatten[j*k+i]? =some u
  |[],_,j,r,hr,_,_,_=>by simp at hr
  |q::rows,hk,0,r,hr,i,u,hu=>by
    simp at hr
    subst hr
    simp only[List.flatten_cons,Nat.zero_mul,Nat.zero_add]
    rw[List.getElem?_append_left (List.getElem?_eq_some_iff.1 hu).1]
    exact hu
  |q::rows,hk,j+1,r,hr,i,u,hu=>by
    have hq:q.length=k:=hk q (by simp)
    have ih:=Ha rows (fun q hq=>hk q (by simp[hq])) j r (by simpa using hr) i u hu
    simp only[List.flatten_cons]
    rw[List.getElem?_append_right (by rw[hq,Nat.succ_mul];omega),hq,show(j+1)*k+i-k=j*k+i by rw[Nat.succ_mul];omega]
    exact ih
theorem CU {k:Nat}:∀(rows:List (List Value)),(∀r∈rows,r.length=k)->rows.flatten.length=rows.length*k
  |[],_=>by simp
  |r::rows,h=>by
    rw[List.flatten_cons,List.length_append,CU rows (fun q hq=>h q (by simp[hq])),h r (by simp),List.length_cons,Nat.succ_mul,Nat.add_comm]
theorem OO.isSome {k:Nat}{A:Option Addr}{m:Nat}{rows:List (List Value)}(h:OO w k A m rows)(hm:0<m)(hk:0<k):A.isSome=true:=h.2.2.isSome (j:=0) hm hk
theorem Rd.Xi {t:TypeId}{x:Operand}{k:Nat}{A:Option Addr}{m j:Nat}{rows:List (List Value)}{r:List Value}(hu:mq P t k)(hx:ev env x=some (ptr A (j*k)))(hR:OO w k A m rows)(hr:rows[j]? =some r)(hp:0<k):
    Rd P w env n ⟨d,.load t x,T,p,af,g⟩ (.agg r.toArray):=by
  have hl:r.length=k:=hR.2.1 r (List.mem_of_getElem? hr)
  exact Rd.Pg r (by rw[hl];exact hu) hx hR.2.2 (fun i u hi=>Ha rows hR.2.1 j r hr i u hi) (by omega)
theorem Own.rws {base e k:Nat}{A:Option Addr}{m c:Nat}{rows:List (List Value)}(h:Own w base e k A m c rows.flatten)(hl:rows.length=m)(hk:∀r∈rows,r.length=k):OO w k A m rows:=⟨hl,hk,h.sl⟩
theorem jL.Z4 {gb:Nat}{e t e' s:TypeId}{vs:Array Value}(h:jL w gb e vs)(ht:P.underlying t=some (.slice e'))(hs:vs.size=s)(hp:0<s)(h1:∀u∈vs.toList,u.oneCell'=true):Src P s t (.slice (some ⟨gb,0,none⟩) 1 1) 1 vs.toList w:=
  (h.sl (s:=s) (n:=1) (by omega)).src ht hp 1 h1
theorem Own.nil (w:World)(base e s:Nat)(A:Option Addr):Own w base e s A 0 0 []:=⟨by simp,.inl ⟨rfl,rfl⟩⟩
theorem vz (v:Value)(m:Nat):Builtin.zeroCells #[v] m=(List.replicate m v).toArray:=by
  apply Array.ext'
  apply List.ext_getElem (by simp[Builtin.zeroCells])
  intro i b c
  simp[Builtin.zeroCells,Nat.mod_one]
theorem Cc {base t tn ty e b:Nat}{v:Value}{A:Option Addr}{k c:Nat}{xs:List Value}{kq kn:IntKind}(m:Nat)(ht:P.underlying t=some (.slice e))(htn:P.underlying tn=some (.int kn))(hel:El P e 1 b v)(hv:v.oneCell'=true)(hO:Own w base e 1 A k c xs)
    (hm:0<m)(hb:(k+m)*b<=140737488355328)(hl:k+m<=maxLen)(hbase:base<=w.heap.size):
    ∃A' c' w',(Builtin.append_ #[t,tn] ty #[.slice A k c,.int kq (m:Int)]).run P w= .ok (.slice A' (k+m) c') w'/\Own w' base e 1 A' (k+m) c' (xs++List.replicate m v)/\Ch w w' (rowOf A c)/\At w A c A' c':=by
  obtain⟨i,hi,hz,hsz,hby,hzs,hpos⟩:=hel
  subst hby
  have hvc:v.cells=#[v]:=by cases v<;>first|rfl|cases hv
  have hlen:(xs++List.replicate m v).length=(k+m)*1:=by rw[List.length_append,hO.1,List.length_replicate,Nat.mul_one,Nat.mul_one]
  have l:k+m<=9223372036854775807:=by simp only[maxLen]at hl;omega
  have hcap:=hO.cap
  have hmb:m*i.bytes<=281474976710656:=Nat.le_trans (Nat.mul_le_mul_right _ (by omega:m<=k+m)) (by omega)
  by_cases hroom:k+m<=c
  · rcases hO.2 with⟨rfl,rfl⟩|⟨gb,cur,rfl,hbg,hg,hnc,hcm,hcs,htake⟩
    · omega
    · have hfit:k+m<=cur.size:=by rw[hcs,Nat.mul_one];exact hroom
      have hst:=run_storeCells_at P gb (k*i.size) e (List.replicate m v) 0 cur w hg (by simp[hsz];omega) (fun u hu=>by rw[(List.mem_replicate.1 hu).2];exact hv)
      simp only[Nat.add_zero]at hst
      have hw:IntKind.i64.wrap (m:Int)=m:=by rw[IntKind.wrap_i64];omega
      have hneg:¬((m:Int)<0):=by omega
      have d:¬(281474976710656<(m:Int)*(i.bytes:Int)):=by rw[<-Int.natCast_mul];omega
      have hns:¬(m*i.size=0):=Nat.mul_ne_zero (by omega) (by omega)
      have hrun:(Builtin.append_ #[t,tn] ty #[.slice (some ⟨gb,0,none⟩) k c,.int kq (m:Int)]).run P w= .ok (.slice (some ⟨gb,0,none⟩) (k+m) c) (w.setRow gb (cur.toList.take (k*i.size)++List.replicate m v++cur.toList.drop (k*i.size+(List.replicate m v).length)).toArray):=by
        simp only[Builtin.append_,sizeOf,typeInfo,zeroValue,asInt,asIntOf]
        simp[run_underlying ht,run_underlying htn,hi,hz,hw,hneg,hns,d,hroom,hvc,vz,Addr.add_lit,hst]
      have f:c≠0:=by omega
      rw[hsz]at hrun
      refine⟨_,_,_,hrun,⟨hlen,.inr ⟨gb,(cur.toList.take (k*1)++List.replicate m v++cur.toList.drop (k*1+(List.replicate m v).length)).toArray,rfl,hbg,setRow_heap w gb cur _ e (0,0) hg,hroom,hcm,?_,?_⟩⟩,
          ⟨rfl,rfl,rfl,by simp,fun q _ hq=>setRow_other w gb q _ (fun e=>hq (by rw[uu _ _ _ f,e]))⟩,At.refl _ _ _⟩
      · simp only[List.size_toArray,List.length_append,List.length_take,List.length_drop,Array.length_toList,List.length_replicate]
        omega
      · rw[htake,<-hlen]
        exact List.take_left
  · have hold:(Builtin.firstCells i.size k (.slice A k c)).run P w.drew= .ok xs.toArray w.drew:=by
      have Xe:Sl w.drew i.size A k xs:=by rw[hsz];exact hO.sl.le (Le.drew w)
      cases A with
      |none=>
        have hx:xs=[]:=by
          cases xs with
          |nil=>rfl
          |cons u us=>obtain⟨_,he,_⟩:=Xe.2 0 u rfl;cases he
        subst hx
        simp[Builtin.firstCells]
      |some ad=>exact run_firstCells_some w.drew i.size k ad k c xs (by rw[hO.1,hsz]) (fun j u hu=>by obtain⟨ZU,he,hc⟩:=Xe.2 j u hu;injection he with he;subst he;exact hc)
    have hr:=Go.Lib.run_append_grow_zeros (P:=P) w t tn ty e i v kq kn ht htn hi hz A k c xs hold m hm (by omega) (by omega) (by omega) hmb (growslice_fits (by omega) hb)
    have hge:=grownCap_ge w (k+m) c e
    have hcm:grownCap w (k+m) c e<=maxLen:=grownCap_le_maxLen w (k+m) c e hl
    rw[hvc,vz,vz]at hr
    refine⟨some ⟨w.heap.size,0,none⟩,_,_,hr,⟨hlen,.inr ⟨w.heap.size,_,rfl,hbase,heap_alloc_new w.drew _,hge,hcm,?_,?_⟩⟩,⟨rfl,rfl,rfl,by simp,fun q hq _=>Below.heap_alloc w.drew _ q hq⟩,fun q hq=> .inr (Nat.le_of_eq (qY hq).symm)⟩
    · have:=hO.1
      simp only[Array.size_append,List.size_toArray,List.length_replicate]
      omega
    · simp only[Array.toList_append]
      rw[<-hlen]
      exact List.take_left
theorem Ef.SC {base t tn e b:Nat}{v:Value}{x y:Operand}{A:Option Addr}{k c:Nat}{xs:List Value}{kq kn:IntKind}{i:Int}(m:Nat)(ht:P.underlying t=some (.slice e))(htn:P.underlying tn=some (.int kn))(hel:El P e 1 b v)(hv:v.oneCell'=true)(hx:ev env x=some (.slice A k c))(hO:Own w base e 1 A k c xs)
    (hy:ev env y=some (.int kq i))(hi:i=(m:Int))(hm:0<m)(hb:(k+m)*b<=140737488355328)(hl:k+m<=maxLen)(hbase:base<=w.heap.size)
    (h:∀A' c' w',Own w' base e 1 A' (k+m) c' (xs++List.replicate m v)->Ch w w' (rowOf A c)->At w A c A' c'->K (.slice A' (k+m) c') w'):
    Ef P env n ⟨d,.call ⟨.builtin .append,#[x,y],#[t,tn]⟩,T,p,af,g⟩ w K:=by
  subst hi
  obtain⟨A',c',w',hr,f,j,l⟩:=Cc (ty:=T) (kq:=kq) m ht htn hel hv hO hm hb hl hbase
  refine .of_run (fun a ha=>?_) (h A' c' w' f j l)
  simp[execOp,resolve,invoke,builtin,ha.eval hx,ha.eval hy,hr]
theorem Rd.cap {t e:TypeId}{x:Operand}{A:Option Addr}{l c:Nat}{ats:Array TypeId}(ht:P.underlying t=some (.slice e))(ha:ats=#[t])(hx:ev env x=some (.slice A l c)):
    Rd P w env n ⟨d,.call ⟨.builtin .cap,#[x],ats⟩,T,p,af,g⟩ (.int .i64 (c:Int)):=fun a hr w' _=>by
  subst ha
  simp[execOp,resolve,invoke,builtin,hr.eval hx,Builtin.cap_,run_underlying ht,goInt]
end
end Go.Sx

namespace Go.Sx
open Go Go.RowKit
section
variable {P:Program}{ops:Array Oper}{Q:Exit->Act->World->Prop}{n:Nat}{S:World->Prop}
def SE (P:Program)(ops:Array Oper)(Q:Exit->Act->World->Prop)(S:World->Prop):List Nat->Act->World->Prop
  |[],a,w=>Q .normal a w
  |i::rest,a,w=>∃o,ops[i]? =some o/\
    if kd o.op=2 then wpOp P ops Vf i (fun a' w'=>S w'/\SE P ops Q S rest a' w') a w
    else∃v,YieldsIf P ops (fun w'=>kd o.op=1->S w') o v a/\SE P ops Q S rest (a.put o.dst v) w
def CV (ops:Array Oper):List Nat->Array Bool->Bool
  |[],listed=>(Region.ready .any ops listed).isEmpty
  |i::rest,listed=>
    (if k2 ops i then(Region.ready .any ops listed==[i])
     else(Region.ready .any ops listed).contains i&&Region.free .any ops listed i)&&CV ops rest (listed.setIfInBounds i true)
def Du (ops:Array Oper)(plan:List Nat):Bool:=plan.length==ops.size&&Region.noSelect ops&&CV ops plan (Array.replicate ops.size false)
theorem Ku (hs:Region.noSelect ops=true):∀(L:List Nat) (listed:Array Bool) (a:Act) (w:World),
    S w->Cl ops listed->CV ops L listed=true->SE P ops Q S L a w->qQ P ops (DY Q) S L.length listed a w:=by
  intro L
  induction L with
  |nil=>
    intro listed a w _ _ hp h
    refine⟨by simpa[CV]using hp,rfl,h⟩
  |cons i rest ih=>
    intro listed a w hS hcl hp h
    obtain⟨o,ho,h⟩:=h
    simp only[CV,Bool.and_eq_true]at hp
    obtain⟨b,d⟩:=hp
    by_cases hk:kd o.op=2
    · rw[if_pos hk]at h
      have c:k2 ops i=true:=by unfold k2;rw[ho];simpa using hk
      rw[if_pos c,beq_iff_eq]at b
      refine⟨fun e=>(by rw[b]at e;cases e),fun j hj=>?_⟩
      rw[b]at hj
      obtain rfl:j=i:=by simpa using hj
      refine wpOp_mono (fun a' w' h'=>⟨?_,?_⟩) (DZ h)
      · unfold Ob;rw[if_pos c];exact fun _=>h'.1
      · exact ih (listed.setIfInBounds j true) a' w' h'.1 (hcl.set (by rw[b];simp)) d h'.2
    · rw[if_neg hk]at h
      obtain⟨v,hy,h⟩:=h
      have c:¬k2 ops i=true:=by unfold k2;rw[ho];simpa using hk
      rw[if_neg c]at b
      simp only[Bool.and_eq_true]at b
      exact rH ho (Region.noSelect_spec hs) (fun _ _ _ hf=>by cases hf.1) hk _ listed a w hcl (Region.free_spec ho b.2) (by simpa using b.1) hy (fun _=>hS) (ih _ _ _ hS (hcl.set (by simpa using b.1)) d h)
def GS (P:Program)(ops:Array Oper)(Q:Exit->Act->World->Prop)(n:Nat)(S:World->Prop)(plan:List Nat)(env:Env)(w:World):Prop:=∀a,tK a n env->SE P ops Q S plan a w
theorem GS.nil {env:Env}{w:World}(h:E Q n .normal env w):GS P ops Q n S [] env w:=fun a ha=>h a ha
theorem GS.any {env:Env}{w:World}{i:Nat}{o:Oper}{plan:List Nat}{v:Value}{d:Nat}(ho:ops[i]? =some o)(hk:kd o.op=0)(hr:Any P env n o v)(hg:o.guard=none)(hd:o.dst=some d)
    (hn:Nat.blt d n=true)(h:GS P ops Q n S plan ((d,v)::env) w):GS P ops Q n S (i::plan) env w:=fun a ha=>
  ⟨o,ho,by
    rw[if_neg (by rw[hk];decide)]
    refine⟨v,.inl ⟨by unfold Region.wanted;rw[hg],fun w' _=>hr a ha w'⟩,?_⟩
    rw[hd]
    exact h _ (ha.put hn v)⟩
theorem GS.rd {env:Env}{w:World}{i:Nat}{o:Oper}{plan:List Nat}{v:Value}{d:Nat}(ho:ops[i]? =some o)(hk:kd o.op=1)(hr:∀w',S w'->Rd P w' env n o v)(hg:o.guard=none)(hd:o.dst=some d)
    (hn:Nat.blt d n=true)(h:GS P ops Q n S plan ((d,v)::env) w):GS P ops Q n S (i::plan) env w:=fun a ha=>
  ⟨o,ho,by
    rw[if_neg (by rw[hk];decide)]
    refine⟨v,.inl ⟨by unfold Region.wanted;rw[hg],fun w' hw=>hr w' (hw hk) a ha w' (Le.refl w')⟩,?_⟩
    rw[hd]
    exact h _ (ha.put hn v)⟩
theorem GS.ef {env:Env}{w:World}{i:Nat}{o:Oper}{plan:List Nat}{d:Nat}(ho:ops[i]? =some o)(hk:kd o.op=2)(hg:o.guard=none)(hd:o.dst=some d)(hn:Nat.blt d n=true)
    (h:Ef P env n o w fun v w'=>S w'/\GS P ops Q n S plan ((d,v)::env) w'):GS P ops Q n S (i::plan) env w:=fun a ha=>
  ⟨o,ho,by
    rw[if_pos hk]
    unfold wpOp
    simp only[ho]
    rw[if_pos (by unfold Region.wanted;rw[hg])]
    left
    exact Oper.wp_mono (fun a' w' ⟨v,b,c,e⟩=>⟨c,by subst b;rw[hd];exact e _ (ha.put hn v)⟩) (h a ha)⟩
theorem GS.kP {env:Env}{w:World}{i:Nat}{o:Oper}{plan:List Nat}(ho:ops[i]? =some o)(hk:kd o.op=2)(hg:o.guard=none)(hd:o.dst=none)
    (h:Ef P env n o w fun _ w'=>S w'/\GS P ops Q n S plan env w'):GS P ops Q n S (i::plan) env w:=fun a ha=>
  ⟨o,ho,by
    rw[if_pos hk]
    unfold wpOp
    simp only[ho]
    rw[if_pos (by unfold Region.wanted;rw[hg])]
    left
    exact Oper.wp_mono (fun a' w' ⟨v,b,c,d⟩=>⟨c,by subst b;rw[hd];exact d _ ha⟩) (h a ha)⟩
theorem WC.LP {env:Env}{w:World}{id:Nat}(S:World->World->Prop)(plan:List Nat)(hm:P.follows .mixedOrders=true)(hp:Du ops plan=true)
    (h:∀w',Le w w'->S w' w'/\GS P ops Q n (S w') plan env w'):WC P Q n (.region id ops true) env w:=fun a ha=>by
  simp only[Du,Bool.and_eq_true,beq_iff_eq]at hp
  obtain⟨⟨hl,hs⟩,hp⟩:=hp
  obtain⟨b,c⟩:=h _ (Le.drew w)
  have:=Ku hs plan _ a _ b (Cl.none _) hp (c a ha)
  rw[hl]at this
  refine wp_mono (wp_region_any hm (uo _ _ _ _ this)) ?_
  rintro e a w ⟨rfl,hq⟩
  exact hq
end
end Go.Sx

namespace Go.Sx
open Go Go.RowKit
section
variable {P:Program}{ops:Array Oper}{Q:Exit->Act->World->Prop}{n:Nat}{S:World->Prop}
def k1 (ops:Array Oper)(j:Nat):Bool:=match ops[j]? with |some o=>kd o.op==1|none=>false
def Eb (ops:Array Oper)(l:List Nat):Bool:=l.any fun j=>nS ops j||k1 ops j
def SF (P:Program)(ops:Array Oper)(Q:Exit->Act->World->Prop)(S:World->Prop):List Nat->Act->World->Prop
  |[],a,w=>Q .normal a w
  |i::rest,a,w=>∃o,ops[i]? =some o/\
    if kd o.op=2 then wpOp P ops Vf i (fun a' w'=>((nS ops i||Eb ops rest)=true->S w')/\SF P ops Q S rest a' w') a w
    else∃v,YieldsIf P ops (fun w'=>kd o.op=1->S w') o v a/\SF P ops Q S rest (a.put o.dst v) w
theorem Kv (hs:Region.noSelect ops=true):∀(L:List Nat) (listed:Array Bool) (a:Act) (w:World),
    (Eb ops L=true->S w)->Cl ops listed->CV ops L listed=true->SF P ops Q S L a w->qQ P ops (DY Q) S L.length listed a w:=by
  intro L
  induction L with
  |nil=>
    intro listed a w _ _ hp h
    refine⟨by simpa[CV]using hp,rfl,h⟩
  |cons i rest ih=>
    intro listed a w hS hcl hp h
    obtain⟨o,ho,h⟩:=h
    simp only[CV,Bool.and_eq_true]at hp
    obtain⟨b,d⟩:=hp
    by_cases hk:kd o.op=2
    · rw[if_pos hk]at h
      have c:k2 ops i=true:=by unfold k2;rw[ho];simpa using hk
      rw[if_pos c,beq_iff_eq]at b
      refine⟨fun e=>(by rw[b]at e;cases e),fun j hj=>?_⟩
      rw[b]at hj
      obtain rfl:j=i:=by simpa using hj
      refine wpOp_mono (fun a' w' h'=>⟨?_,?_⟩) (DZ h)
      · unfold Ob;rw[if_pos c];exact fun hn=>h'.1 (by rw[hn,Bool.true_or])
      · exact ih (listed.setIfInBounds j true) a' w' (fun hn=>h'.1 (by rw[hn,Bool.or_true])) (hcl.set (by rw[b];simp)) d h'.2
    · rw[if_neg hk]at h
      obtain⟨v,hy,h⟩:=h
      have c:¬k2 ops i=true:=by unfold k2;rw[ho];simpa using hk
      rw[if_neg c]at b
      simp only[Bool.and_eq_true]at b
      have f:kd o.op=1->S w:=fun k=>hS (by unfold Eb;rw[List.any_cons];have:k1 ops i=true:=(by unfold k1;rw[ho];simpa using k);rw[this,Bool.or_true,Bool.true_or])
      exact rH ho (Region.noSelect_spec hs) (fun _ _ _ hf=>by cases hf.1) hk _ listed a w hcl (Region.free_spec ho b.2) (by simpa using b.1) hy f (ih _ _ _ (fun hn=>hS (by unfold Eb at hn ⊢;rw[List.any_cons,hn,Bool.or_true])) (hcl.set (by simpa using b.1)) d h)
def GR (P:Program)(ops:Array Oper)(Q:Exit->Act->World->Prop)(n:Nat)(S:World->Prop)(plan:List Nat)(env:Env)(w:World):Prop:=∀a,tK a n env->SF P ops Q S plan a w
theorem GR.nil {env:Env}{w:World}(h:E Q n .normal env w):GR P ops Q n S [] env w:=fun a ha=>h a ha
theorem GR.any {env:Env}{w:World}{i:Nat}{o:Oper}{plan:List Nat}{v:Value}{d:Nat}(ho:ops[i]? =some o)(hk:kd o.op=0)(hr:Any P env n o v)(hg:o.guard=none)(hd:o.dst=some d)
    (hn:Nat.blt d n=true)(h:GR P ops Q n S plan ((d,v)::env) w):GR P ops Q n S (i::plan) env w:=fun a ha=>
  ⟨o,ho,by
    rw[if_neg (by rw[hk];decide)]
    refine⟨v,.inl ⟨by unfold Region.wanted;rw[hg],fun w' _=>hr a ha w'⟩,?_⟩
    rw[hd]
    exact h _ (ha.put hn v)⟩
theorem GR.rd {env:Env}{w:World}{i:Nat}{o:Oper}{plan:List Nat}{v:Value}{d:Nat}(ho:ops[i]? =some o)(hk:kd o.op=1)(hr:∀w',S w'->Rd P w' env n o v)(hg:o.guard=none)(hd:o.dst=some d)
    (hn:Nat.blt d n=true)(h:GR P ops Q n S plan ((d,v)::env) w):GR P ops Q n S (i::plan) env w:=fun a ha=>
  ⟨o,ho,by
    rw[if_neg (by rw[hk];decide)]
    refine⟨v,.inl ⟨by unfold Region.wanted;rw[hg],fun w' hw=>hr w' (hw hk) a ha w' (Le.refl w')⟩,?_⟩
    rw[hd]
    exact h _ (ha.put hn v)⟩
theorem GR.ef {env:Env}{w:World}{i:Nat}{o:Oper}{plan:List Nat}{d:Nat}(ho:ops[i]? =some o)(hk:kd o.op=2)(hg:o.guard=none)(hd:o.dst=some d)(hn:Nat.blt d n=true)
    (h:Ef P env n o w fun v w'=>((nS ops i||Eb ops plan)=true->S w')/\GR P ops Q n S plan ((d,v)::env) w'):GR P ops Q n S (i::plan) env w:=fun a ha=>
  ⟨o,ho,by
    rw[if_pos hk]
    unfold wpOp
    simp only[ho]
    rw[if_pos (by unfold Region.wanted;rw[hg])]
    left
    exact Oper.wp_mono (fun a' w' ⟨v,b,c,e⟩=>⟨c,by subst b;rw[hd];exact e _ (ha.put hn v)⟩) (h a ha)⟩
theorem GR.kP {env:Env}{w:World}{i:Nat}{o:Oper}{plan:List Nat}(ho:ops[i]? =some o)(hk:kd o.op=2)(hg:o.guard=none)(hd:o.dst=none)
    (h:Ef P env n o w fun _ w'=>((nS ops i||Eb ops plan)=true->S w')/\GR P ops Q n S plan env w'):GR P ops Q n S (i::plan) env w:=fun a ha=>
  ⟨o,ho,by
    rw[if_pos hk]
    unfold wpOp
    simp only[ho]
    rw[if_pos (by unfold Region.wanted;rw[hg])]
    left
    exact Oper.wp_mono (fun a' w' ⟨v,b,c,d⟩=>⟨c,by subst b;rw[hd];exact d _ ha⟩) (h a ha)⟩
theorem GR.Na {env:Env}{w:World}{i:Nat}{o:Oper}{plan:List Nat}{v:Value}{d j dj:Nat}{b want:Bool}(ho:ops[i]? =some o)(hk:kd o.op=0)(hr:Any P env n o v)(hg:o.guard=some (j,want))
    (hj:(ops[j]?).bind (·.dst)=some dj)(hv:look env dj=some (.bool b))(hb:b=want)(hd:o.dst=some d)
    (hn:Nat.blt d n=true)(h:GR P ops Q n S plan ((d,v)::env) w):GR P ops Q n S (i::plan) env w:=fun a ha=>
  ⟨o,ho,by
    rw[if_neg (by rw[hk];decide)]
    refine⟨v,.inl ⟨by rw[nA ha hg hj hv,hb];simp,fun w' _=>hr a ha w'⟩,?_⟩
    rw[hd]
    exact h _ (ha.put hn v)⟩
theorem GR.Dl {env:Env}{w:World}{i:Nat}{o:Oper}{plan:List Nat}{v:Value}{d j dj:Nat}{b want:Bool}(ho:ops[i]? =some o)(hk:kd o.op=1)(hr:∀w',S w'->Rd P w' env n o v)(hg:o.guard=some (j,want))
    (hj:(ops[j]?).bind (·.dst)=some dj)(hv:look env dj=some (.bool b))(hb:b=want)(hd:o.dst=some d)
    (hn:Nat.blt d n=true)(h:GR P ops Q n S plan ((d,v)::env) w):GR P ops Q n S (i::plan) env w:=fun a ha=>
  ⟨o,ho,by
    rw[if_neg (by rw[hk];decide)]
    refine⟨v,.inl ⟨by rw[nA ha hg hj hv,hb];simp,fun w' hw=>hr w' (hw hk) a ha w' (Le.refl w')⟩,?_⟩
    rw[hd]
    exact h _ (ha.put hn v)⟩
theorem GR.mY {env:Env}{w:World}{i:Nat}{o:Oper}{plan:List Nat}{d j dj:Nat}{b want:Bool}(ho:ops[i]? =some o)(hk:kd o.op=2)(hg:o.guard=some (j,want))
    (hj:(ops[j]?).bind (·.dst)=some dj)(hv:look env dj=some (.bool b))(hb:b=want)(hd:o.dst=some d)(hn:Nat.blt d n=true)
    (h:Ef P env n o w fun v w'=>((nS ops i||Eb ops plan)=true->S w')/\GR P ops Q n S plan ((d,v)::env) w'):GR P ops Q n S (i::plan) env w:=fun a ha=>
  ⟨o,ho,by
    rw[if_pos hk]
    unfold wpOp
    simp only[ho]
    rw[if_pos (by rw[nA ha hg hj hv,hb];simp)]
    left
    exact Oper.wp_mono (fun a' w' ⟨v,c,e,f⟩=>⟨e,by subst c;rw[hd];exact f _ (ha.put hn v)⟩) (h a ha)⟩
theorem WC.xO {env:Env}{w:World}{id:Nat}(S:World->World->Prop)(plan:List Nat)(hm:P.follows .mixedOrders=true)(hp:Du ops plan=true)
    (h:∀w',Le w w'->S w' w'/\GR P ops Q n (S w') plan env w'):WC P Q n (.region id ops true) env w:=fun a ha=>by
  simp only[Du,Bool.and_eq_true,beq_iff_eq]at hp
  obtain⟨⟨hl,hs⟩,hp⟩:=hp
  obtain⟨b,c⟩:=h _ (Le.drew w)
  have:=Kv hs plan _ a _ (fun _=>b) (Cl.none _) hp (c a ha)
  rw[hl]at this
  refine wp_mono (wp_region_any hm (uo _ _ _ _ this)) ?_
  rintro e a w ⟨rfl,hq⟩
  exact hq
end
end Go.Sx

namespace Go.Sx
open Go Go.RowKit
section
variable {P:Program}{ops:Array Oper}{Q:Exit->Act->World->Prop}{n:Nat}
def wO:Value->Nat->Prop
  | .slice A _ c,k=>rowOf A c=some k
  | .pointer (some p),k=>p.block=k
  |_,_=>False
def nT (ops:Array Oper)(i:Nat):Nat:=((ops[i]?).bind (·.dst)).getD 0
def rM (l:Array Bool)(U:List Nat):Array Bool:=U.foldl (fun l i=>l.setIfInBounds i true) l
theorem uW:∀(U:List Nat) (l:Array Bool),(rM l U).size=l.size
  |[],_=>rfl
  |i::U,l=>by
    show(rM (l.setIfInBounds i true) U).size=_
    rw[uW U,Array.size_setIfInBounds]
theorem zo:∀(U:List Nat) (l:Array Bool) (k:Nat),(rM l U).getD k false=(l.getD k false||(U.contains k&&decide (k<l.size)))
  |[],l,k=>by simp[rM]
  |i::U,l,k=>by
    show(rM (l.setIfInBounds i true) U).getD k false=_
    rw[zo U,Array.size_setIfInBounds]
    by_cases hik:i=k
    · subst hik
      by_cases hlt:i<l.size
      · simp[hlt]
      · simp[hlt]
    · rw[getD_set_ne false hik]
      have:(k==i)=false:=by simpa using fun h=>hik h.symm
      rw[List.contains_cons,this,Bool.false_or]
structure Z5 (U D:List Nat)(Φ:Nat->Value->World->Prop)(env:Env)(n:Nat)(w0:World)(f:Nat->Value)(ops:Array Oper)(a:Act)(w:World):Prop where
  rep:tK a n env
  slot:∀i∈U,i∉D->a.tmps[nT ops i]? =some (f i)
  le:Le w0 w
  phi:∀i∈U,i∉D->Φ i (f i) w
  foot:∀i∈U,i∉D->∀k,wO (f i) k->w0.heap.size<=k/\k<w.heap.size
  apart:∀i∈U,i∉D->∀j∈U,j∉D->i≠j->∀k,wO (f i) k->¬wO (f j) k
theorem xP {env:Env}{a:Act}(h:tK a n env)(f:Nat->Value):∀(L:List Nat),(∀i∈L,a.tmps[nT ops i]? =some (f i))->tK a n (L.map (fun i=>(nT ops i,f i))++env)
  |[],_=>h
  |i::L,hs=>by
    have ih:=xP h f L (fun j hj=>hs j (List.mem_cons_of_mem _ hj))
    refine⟨ih.1,ih.2.1,fun k v hk=>?_⟩
    rw[List.map_cons,List.cons_append]at hk
    by_cases hki:nT ops i=k
    · subst hki
      rw[yx]at hk
      injection hk with hk
      subst hk
      exact hs i List.mem_cons_self
    · rw[wL _ _ hki]at hk
      exact ih.2.2 k v hk
def Step (P:Program)(ops:Array Oper)(dep:Nat->List Nat)(Φ:Nat->Value->World->Prop)(env:Env)(n:Nat)(w0:World)(i:Nat):Prop:=
  ∀o,ops[i]? =some o->∀(f:Nat->Value) (w:World),Le w0 w->(∀j∈dep i,Φ j (f j) w)->Ef P ((dep i).map (fun j=>(nT ops j,f j))++env) n o w fun v w'=>Le w w'/\Φ i v w'/\∀k,wO v k->w.heap.size<=k/\k<w'.heap.size
theorem Step.WE {dep:Nat->List Nat}{Φ:Nat->Value->World->Prop}{env:Env}{w0:World}{i:Nat}{o:Oper}(hd:dep i=[])(ho:ops[i]? =some o)
    (h:∀w,Le w0 w->Ef P env n o w fun v w'=>Le w w'/\Φ i v w'/\∀k,wO v k->w.heap.size<=k/\k<w'.heap.size):Step P ops dep Φ env n w0 i:=fun o' ho' f w hle _=>by
  rw[ho]at ho'
  injection ho' with ho'
  subst ho'
  rw[hd]
  exact h w hle
theorem Step.of1 {dep:Nat->List Nat}{Φ:Nat->Value->World->Prop}{env:Env}{w0:World}{i j d:Nat}{o:Oper}(hd:dep i=[j])(hj:nT ops j=d)(ho:ops[i]? =some o)
    (h:∀v w,Le w0 w->Φ j v w->Ef P ((d,v)::env) n o w fun v w'=>Le w w'/\Φ i v w'/\∀k,wO v k->w.heap.size<=k/\k<w'.heap.size):Step P ops dep Φ env n w0 i:=fun o' ho' f w hle hp=>by
  rw[ho]at ho'
  injection ho' with ho'
  subst ho'
  rw[hd]at hp ⊢
  subst hj
  exact h (f j) w hle (hp j (List.mem_singleton.2 rfl))
def LQ (ops:Array Oper):List Nat->Array Bool->Bool
  |[],_=>true
  |i::rest,listed=> !k2 ops i&&(Region.ready .any ops listed).contains i&&Region.free .any ops listed i&&LQ ops rest (listed.setIfInBounds i true)
theorem Ec {K:Act->World->Prop}{w:World}{r:Nat}{l1:Array Bool}(hs:Region.noSelect ops=true)(hK:∀a,K a w->Cl ops l1->qQ P ops (DY Q) (Le w) r l1 a w):∀(L:List Nat) (listed:Array Bool) (a:Act),
    Cl ops listed->LQ ops L listed=true->l1=rM listed L->Sk P ops (fun _ a w=>K a w) L a w->qQ P ops (DY Q) (Le w) (L.length+r) listed a w
  |[],listed,a,hcl,_,hl,h=>by
    rw[show l1=listed from hl]at hK
    rw[List.length_nil,Nat.zero_add]
    exact hK a h hcl
  |i::rest,listed,a,hcl,hp,hl,h=>by
    obtain⟨o,ho,h⟩:=h
    simp only[LQ,Bool.and_eq_true,Bool.not_eq_true']at hp
    obtain⟨⟨⟨b,c⟩,d⟩,e⟩:=hp
    have hk:¬kd o.op=2:=by unfold k2 at b;rw[ho]at b;simpa using b
    rw[if_neg hk]at h
    obtain⟨v,hy,h⟩:=h
    rw[List.length_cons,show rest.length+1+r=rest.length+r+1 by omega]
    exact rH ho (Region.noSelect_spec hs) (fun _ _ _ hf=>by cases hf.1) hk _ listed a w hcl (Region.free_spec ho d) (by simpa using c) hy (fun _=>Le.refl w) (Ec hs hK rest _ _ (hcl.set (by simpa using c)) e hl h)
def Xj (P:Program)(ops:Array Oper)(Q:Exit->Act->World->Prop)(n:Nat)(U R:List Nat)(dep:Nat->List Nat)(env:Env)(w:World):Prop:=
  (U.all fun i=>(look env (nT ops i)).isNone&&Nat.blt (nT ops i) n)=true/\∃Φ:Nat->Value->World->Prop,(∀i∈U,∀v w w',Φ i v w->Le w w'->Φ i v w')/\(∀i∈U,Step P ops dep Φ env n w i)/\
    ∀(f:Nat->Value) (w':World),Le w w'->(∀i∈U,Φ i (f i) w')->(∀i∈U,∀k,wO (f i) k->w.heap.size<=k/\k<w'.heap.size)->(∀i∈U,∀j∈U,i≠j->∀k,wO (f i) k->¬wO (f j) k)->G P ops Q n R (U.map (fun i=>(nT ops i,f i))++env) w'
theorem E.free {U R:List Nat}{dep:Nat->List Nat}{env:Env}{w:World}(h:Xj P ops Q n U R dep env w):E (fun _ a w=>∃env,tK a n env/\Xj P ops Q n U R dep env w) n .normal env w:=fun _ ha=>⟨env,ha,h⟩
end
end Go.Sx

namespace Go.Sx
open Go Go.RowKit
section
variable {P:Program}{ops:Array Oper}{Q:Exit->Act->World->Prop}{n:Nat}
def Xk (P:Program)(ops:Array Oper)(dep:Nat->List Nat)(Φ:Nat->Value->World->Prop)(env:Env)(n:Nat)(w0:World)(i:Nat):Prop:=
  ∀o,ops[i]? =some o->∀(f:Nat->Value) (w:World),Le w0 w->(∀j∈dep i,Φ j (f j) w)->∃v,(∀a,tK a n ((dep i).map (fun j=>(nT ops j,f j))++env)->∀w',(execOp a.eval o).run P w'= .ok (.value v) w')/\Φ i v w/\∀k,¬wO v k
def AJ (P:Program)(ops:Array Oper)(dep:Nat->List Nat)(Φ:Nat->Value->World->Prop)(env:Env)(n:Nat)(w0:World)(i:Nat):Prop:=
  (k2 ops i=true/\Step P ops dep Φ env n w0 i)\/(k2 ops i=false/\Xk P ops dep Φ env n w0 i)
theorem AJ.Xl {dep:Nat->List Nat}{Φ:Nat->Value->World->Prop}{env:Env}{w0:World}{i j d:Nat}{o:Oper}(hk:k2 ops i=false)(hd:dep i=[j])(hj:nT ops j=d)(ho:ops[i]? =some o)
    (h:∀u w,Le w0 w->Φ j u w->∃v,Any P ((d,u)::env) n o v/\Φ i v w/\∀k,¬wO v k):AJ P ops dep Φ env n w0 i:= .inr ⟨hk,fun o' ho' f w hle hp=>by
  rw[ho]at ho'
  injection ho' with ho'
  subst ho'
  rw[hd]at hp ⊢
  subst hj
  exact h (f j) w hle (hp j (List.mem_singleton.2 rfl))⟩
theorem AJ.Ux {dep:Nat->List Nat}{Φ:Nat->Value->World->Prop}{env:Env}{w0:World}{i j k d e:Nat}{o:Oper}(hk:k2 ops i=false)(hd:dep i=[j,k])(hj:nT ops j=d)(hke:nT ops k=e)(ho:ops[i]? =some o)
    (h:∀u u2 w,Le w0 w->Φ j u w->Φ k u2 w->∃v,Any P ((d,u)::(e,u2)::env) n o v/\Φ i v w/\∀k,¬wO v k):AJ P ops dep Φ env n w0 i:= .inr ⟨hk,fun o' ho' f w hle hp=>by
  rw[ho]at ho'
  injection ho' with ho'
  subst ho'
  rw[hd]at hp ⊢
  subst hj hke
  exact h (f j) (f k) w hle (hp j (by simp)) (hp k (by simp))⟩
def LU (ops:Array Oper)(U:List Nat)(dep:Nat->List Nat)(l1:Array Bool)(i:Nat):Bool:=
  !l1.getD i true&&(match ops[i]? with
    |some o=>(kd o.op==2||(kd o.op==0&&Region.free .any ops (rM l1 (U.filter fun j=>((reach ops).getD i 0).testBit j)) i))&&o.guard.isNone&&o.dst.isSome&&o.after.toList.all (fun e=> !Region.binds .any e||l1.getD e.on false||(U.contains e.on&&Nat.blt e.on i))
    |none=>false)&&(dep i).all fun j=>U.contains j&&((reach ops).getD i 0).testBit j
def Hd (ops:Array Oper)(U:List Nat)(dep:Nat->List Nat)(l1:Array Bool):Bool:=
  U.all (LU ops U dep l1)&&decide (U.map (nT ops)).Nodup&&(List.range ops.size).all fun k=>l1.getD k true||U.contains k||U.all fun i=> !k2 ops i||((reach ops).getD k 0).testBit i
theorem Kw {U R:List Nat}{dep:Nat->List Nat}{Φ:Nat->Value->World->Prop}{env:Env}{w0:World}{l1:Array Bool}(hs:Region.noSelect ops=true)(hsz:l1.size=ops.size)
    (hB:Hd ops U dep l1=true)(hR:D5 ops R (rM l1 U)=true)(LV:(U.all fun i=>(look env (nT ops i)).isNone&&Nat.blt (nT ops i) n)=true)
    (hst:∀i∈U,∀v w w',Φ i v w->Le w w'->Φ i v w')(hstep:∀i∈U,AJ P ops dep Φ env n w0 i)
    (hfin:∀(f:Nat->Value) (w:World),Le w0 w->(∀i∈U,Φ i (f i) w)->(∀i∈U,∀k,wO (f i) k->w0.heap.size<=k/\k<w.heap.size)->(∀i∈U,∀j∈U,i≠j->∀k,wO (f i) k->¬wO (f j) k)->G P ops Q n R (U.map (fun i=>(nT ops i,f i))++env) w):
    ∀(m:Nat) (D:List Nat) (listed:Array Bool) (f:Nat->Value) (a:Act) (w:World),D.length=m->D.Nodup->(∀i∈D,i∈U)->listed.size=ops.size->
      (∀k,listed.getD k false=(l1.getD k false||(U.contains k&& !D.contains k&&decide (k<ops.size))))->Cl ops listed->Z5 U D Φ env n w0 f ops a w->qQ P ops (DY Q) (Le w0) (m+R.length) listed a w:=by
  simp only[Hd,Bool.and_eq_true,List.all_eq_true,decide_eq_true_eq,List.mem_range]at hB
  obtain⟨⟨hU,hnd⟩,hrest⟩:=hB
  have hop:∀i∈U,l1.getD i true=false/\(∃o d,ops[i]? =some o/\(kd o.op=2\/(kd o.op=0/\Region.free .any ops (rM l1 (U.filter fun j=>((reach ops).getD i 0).testBit j)) i=true))/\o.guard=none/\o.dst=some d/\nT ops i=d/\(∀e∈o.after,Region.binds .any e=true->l1.getD e.on false=true\/(e.on∈U/\e.on<i)))/\∀j∈dep i,j∈U/\M8 ops i j:=by
    intro i hi
    have h:=hU i hi
    simp only[LU,Bool.and_eq_true,Bool.not_eq_true',List.all_eq_true]at h
    obtain⟨⟨b,c⟩,l⟩:=h
    refine⟨b,?_,fun j hj=>⟨by simpa using(l j hj).1,uT ops i j (l j hj).2⟩⟩
    cases ho:ops[i]? with
    |none=>rw[ho]at c;cases c
    |some o=>
      rw[ho]at c
      simp only[Bool.and_eq_true,Bool.or_eq_true,beq_iff_eq,Option.isNone_iff_eq_none,List.all_eq_true]at c
      obtain⟨⟨⟨x,F⟩,A⟩,J⟩:=c
      obtain⟨d,hd⟩:=Option.isSome_iff_exists.1 A
      refine⟨o,d,rfl,x,F,hd,by unfold nT;rw[ho];simp[hd],fun e he hb=>?_⟩
      have:=J e (by simpa using he)
      simp only[Bool.or_eq_true,Bool.not_eq_true',Bool.and_eq_true,hb]at this
      rcases this with(h|h)|h
      · cases h
      · exact .inl h
      · exact .inr ⟨by simpa using h.1,by simpa[Nat.blt_eq]using h.2⟩
  have hinj:∀i∈U,∀j∈U,nT ops i=nT ops j->i=j:=by
    intro i hi j hj h
    obtain⟨p,hp,rfl⟩:=List.getElem_of_mem hi
    obtain⟨q,hq,rfl⟩:=List.getElem_of_mem hj
    have hw:=List.pairwise_iff_getElem.1 hnd
    rcases Nat.lt_trichotomy p q with hpq|hpq|hpq
    · exact absurd (by rw[List.getElem_map,List.getElem_map];exact h) (hw p q (by simpa using hp) (by simpa using hq) hpq)
    · subst hpq
      rfl
    · exact absurd (by rw[List.getElem_map,List.getElem_map];exact h.symm) (hw q p (by simpa using hq) (by simpa using hp) hpq)
  intro m
  induction m with
  |zero=>
    intro D listed f a w hD _ _ hlz hl hcl hI
    have K:D=[]:=List.length_eq_zero_iff.1 hD
    subst K
    have hle:listed=rM l1 U:=by
      refine Array.ext (by rw[uW,hlz,hsz]) fun k b c=>?_
      have:=hl k
      have l:=zo U l1 k
      rw[Array.getD_eq_getD_getElem?,Array.getElem?_eq_getElem b]at this
      rw[Array.getD_eq_getD_getElem?,Array.getElem?_eq_getElem c]at l
      simp only[Option.getD_some,List.contains_nil,Bool.not_false,Bool.and_true]at this l
      rw[this,l,hsz]
    subst hle
    have hg:=hfin f w hI.le (fun i hi=>hI.phi i hi (by simp)) (fun i hi=>hI.foot i hi (by simp)) (fun i hi j hj=>hI.apart i hi (by simp) j hj (by simp)) a (xP hI.rep f U (fun i hi=>hI.slot i hi (by simp)))
    rw[Nat.zero_add]
    exact xI (fun _ hw=>hI.le.trans hw) _ _ _ _ (FR hs R _ a w hcl hR hg)
  |succ m ih=>
    intro D listed f a w hD hDn RU hlz hl hcl hI
    have hget:∀k,k<ops.size->listed.getD k true=listed.getD k false:=fun k hk=>by
      rw[Array.getD_eq_getD_getElem?,Array.getD_eq_getD_getElem?,Array.getElem?_eq_getElem (by omega)]
      rfl
    have y:∀i∈U,l1.getD i false=false/\i<ops.size:=fun i hi=>by
      have h:=(hop i hi).1
      have hlt:i<ops.size:=by
        obtain⟨o,_,ho,_⟩:=(hop i hi).2.1
        exact Av ho
      refine⟨?_,hlt⟩
      rw[Array.getD_eq_getD_getElem?,Array.getElem?_eq_getElem (by omega)]at h ⊢
      exact h
    have hun:∀i∈D,listed.getD i true=false:=fun i hi=>by
      rw[hget i (y i (RU i hi)).2,hl i,(y i (RU i hi)).1]
      have:D.contains i=true:=by simpa using hi
      rw[this]
      simp
    have Pp:∀i,i∈D->∃j,j∈D/\j∈Region.ready .any ops listed:=by
      intro i
      induction i using Nat.strongRecOn with
      |_ i ihi=>
        intro hi
        obtain⟨o,d,ho,_,_,_,_,haf⟩:=(hop i (RU i hi)).2.1
        by_cases hall:∀e∈o.after,Region.binds .any e=true->listed.getD e.on false=true
        · exact⟨i,hi,mem_ready.2 ⟨hun i hi,o,ho,hall⟩⟩
        · obtain⟨e,b⟩:=Classical.not_forall.1 hall
          obtain⟨he,c⟩:=Classical.not_forall.1 b
          obtain⟨hb,hne⟩:=Classical.not_forall.1 c
          rcases haf e he hb with h|⟨b,c⟩
          · exact absurd (by rw[hl,h];rfl) hne
          · refine ihi e.on c ?_
            apply Classical.byContradiction
            intro hd
            refine hne ?_
            rw[hl]
            have:D.contains e.on=false:=by simpa using hd
            rw[this]
            simp[b,(y _ b).2]
    have hnot:∀i∈D,i∈Region.ready .any ops listed->∀j∈dep i,j∈U/\j∉D:=fun i Dv hi j hj=>by
      obtain⟨_,o,ho,hall⟩:=mem_ready.1 hi
      have b:=(hop i (RU i Dv)).2.2 j hj
      refine⟨b.1,fun RV=>?_⟩
      have l:=hcl.dep b.2 (fun oj hoj=>by rw[ho]at hoj;injection hoj with hoj;subst hoj;exact hall)
      have x:=hun j RV
      rw[hget j (y j b.1).2,l]at x
      cases x
    simp only[List.all_eq_true,Bool.and_eq_true,Option.isNone_iff_eq_none,Nat.blt_eq]at LV
    have hnext:∀i,i∈D->i∈Region.ready .any ops listed->∀o d,ops[i]? =some o->o.dst=some d->nT ops i=d->∀v w',Le w w'->Φ i v w'->(∀k,wO v k->w.heap.size<=k/\k<w'.heap.size)->qQ P ops (DY Q) (Le w0) (m+R.length) (listed.setIfInBounds i true) (a.put (some d) v) w':=by
      intro i Dv hi o d ho hd hdd v w' hle Ky AL
      have Nb:=RU i Dv
      have hne:∀j,j∈D.erase i↔j≠i/\j∈D:=fun j=>List.Nodup.mem_erase_iff hDn
      have hjd:∀j∈U,j∉D.erase i->j≠i->j∉D:=fun j _ b c l=>b ((hne j).2 ⟨c,l⟩)
      refine ih (D.erase i) (listed.setIfInBounds i true) (fun j=>if j=i then v else f j) _ w' ?_ (hDn.erase i) (fun j hj=>RU j ((hne j).1 hj).2) (by rw[Array.size_setIfInBounds,hlz]) ?_ (hcl.set hi) ?_
      · rw[List.length_erase_of_mem Dv,hD]
        rfl
      · intro k
        by_cases hik:i=k
        · subst hik
          have hlt:=(y i Nb).2
          rw[Array.getD_eq_getD_getElem?,Array.getElem?_setIfInBounds_self_of_lt (by omega)]
          have b:(D.erase i).contains i=false:=by
            have:i∉D.erase i:=fun h=>((hne i).1 h).1 rfl
            simpa using this
          rw[b]
          simp[Nb,hlt]
        · rw[getD_set_ne false hik,hl k]
          have b:(D.erase i).contains k=D.contains k:=by
            rw[Bool.eq_iff_iff]
            simp only[List.contains_iff_mem,hne]
            exact⟨fun h=>h.2,fun h=>⟨fun c=>hik c.symm,h⟩⟩
          rw[b]
      · have hdn:look env d=none/\d<n:=by rw[<-hdd];exact LV i Nb
        have hother:∀j∈U,j≠i->nT ops j≠d:=fun j hj hji h=>hji (hinj j hj i Nb (by rw[h,hdd]))
        have hput:∀s,s≠d->(a.put (some d) v).tmps[s]? =a.tmps[s]? :=fun s hsd=>by
          simp[Act.put,Array.getElem?_setIfInBounds_ne (Ne.symm hsd)]
        have hsame:(a.put (some d) v).tmps[d]? =some v:=by
          have:=hI.rep.2.1
          simp[Act.put,this,hdn.2]
        refine⟨⟨hI.rep.1,by simp[Act.put,hI.rep.2.1],fun s u hsu=>?_⟩,fun j hj RV=>?_,hI.le.trans hle,fun j hj RV=>?_,fun j hj RV k hk'=>?_,fun j hj RV q hq hqD hjq k z t=>?_⟩
        · by_cases hsd:s=d
          · subst hsd
            rw[hdn.1]at hsu
            cases hsu
          · rw[hput s hsd]
            exact hI.rep.2.2 s u hsu
        · by_cases hji:j=i
          · subst hji
            rw[if_pos rfl,hdd]
            exact hsame
          · rw[if_neg hji,hput _ (hother j hj hji)]
            exact hI.slot j hj (hjd j hj RV hji)
        · by_cases hji:j=i
          · subst hji
            rw[if_pos rfl]
            exact Ky
          · rw[if_neg hji]
            exact hst j hj _ _ _ (hI.phi j hj (hjd j hj RV hji)) hle
        · by_cases hji:j=i
          · subst hji
            rw[if_pos rfl]at hk'
            have:=AL k hk'
            have:=hI.le.size
            omega
          · rw[if_neg hji]at hk'
            have:=hI.foot j hj (hjd j hj RV hji) k hk'
            have:=hle.size
            omega
        · by_cases hji:j=i
          · subst hji
            rw[if_pos rfl]at z
            rw[if_neg (Ne.symm hjq)]at t
            have b:=AL k z
            have c:=hI.foot q hq (hjd q hq hqD (Ne.symm hjq)) k t
            omega
          · rw[if_neg hji]at z
            by_cases hqi:q=i
            · subst hqi
              rw[if_pos rfl]at t
              have b:=AL k t
              have c:=hI.foot j hj (hjd j hj RV hji) k z
              omega
            · rw[if_neg hqi]at t
              exact hI.apart j hj (hjd j hj RV hji) q hq (hjd q hq hqD hqi) hjq k z t
    rw[show m+1+R.length=(m+R.length)+1 by omega]
    by_cases hact:∃i,i∈D/\k2 ops i=true
    · obtain⟨i0,B,H⟩:=hact
      have hin:∀i∈Region.ready .any ops listed,i∈D:=by
        intro i hi
        obtain⟨hu,o,ho,hall⟩:=mem_ready.1 hi
        have hlt:=Av ho
        rw[hget i hlt,hl i,Bool.or_eq_false_iff]at hu
        by_cases Nb:i∈U
        · apply Classical.byContradiction
          intro hd
          have:D.contains i=false:=by simpa using hd
          rw[this]at hu
          simp[Nb,hlt]at hu
        · exfalso
          have h:=hrest i hlt
          simp only[Bool.or_eq_true,List.all_eq_true,Bool.not_eq_true']at h
          rcases h with(h|h)|h
          · rw[Array.getD_eq_getD_getElem?,Array.getElem?_eq_getElem (by omega)]at h
            have c:=hu.1
            rw[Array.getD_eq_getD_getElem?,Array.getElem?_eq_getElem (by omega)]at c
            simp only[Option.getD_some]at h c
            rw[h]at c
            cases c
          · exact Nb (by simpa using h)
          · have l:=hcl.dep (uT ops i i0 ((h i0 (RU i0 B)).resolve_left (by rw[H];decide))) (fun oj hoj=>by rw[ho]at hoj;injection hoj with hoj;subst hoj;exact hall)
            have x:=hun i0 B
            rw[hget i0 (y i0 (RU i0 B)).2,l]at x
            cases x
      refine⟨fun L=>?_,fun i hi=>?_⟩
      · obtain⟨j,_,hj⟩:=Pp i0 B
        rw[L]at hj
        cases hj
      · have Dv:=hin i hi
        have Nb:=RU i Dv
        obtain⟨o,d,ho,hk,hg,hd,hdd,_⟩:=(hop i Nb).2.1
        rcases hstep i Nb with⟨t,N⟩|⟨t,I⟩
        · have hef:=N o ho f w hI.le (fun j hj=>hI.phi j (hnot i Dv hi j hj).1 (hnot i Dv hi j hj).2) a (xP hI.rep f (dep i) (fun j hj=>hI.slot j (hnot i Dv hi j hj).1 (hnot i Dv hi j hj).2))
          unfold wpOp
          simp only[ho]
          rw[if_pos (by unfold Region.wanted;rw[hg])]
          left
          refine Oper.D6 (Oper.wp_mono (fun a' w' hh=>?_) hef)
          obtain⟨v,rfl,hle,Ky,AL⟩:=hh
          rw[hd]
          refine⟨?_,hnext i Dv hi o d ho hd hdd v w' hle Ky AL⟩
          unfold Ob
          rw[if_pos t]
          exact fun _=>hI.le.trans hle
        · obtain⟨v,hy,Ky,AL⟩:=I o ho f w hI.le (fun j hj=>hI.phi j (hnot i Dv hi j hj).1 (hnot i Dv hi j hj).2)
          have hef:Ef P ((dep i).map (fun j=>(nT ops j,f j))++env) n o w (fun v' w'=>v'=v/\w'=w):=Ef.of_run (fun a' ha'=>hy a' ha' w) ⟨rfl,rfl⟩
          have hef:=hef a (xP hI.rep f (dep i) (fun j hj=>hI.slot j (hnot i Dv hi j hj).1 (hnot i Dv hi j hj).2))
          unfold wpOp
          simp only[ho]
          rw[if_pos (by unfold Region.wanted;rw[hg])]
          left
          refine Oper.D6 (Oper.wp_mono (fun a' w' hh=>?_) hef)
          obtain⟨v',rfl,hv,hw⟩:=hh
          subst hv
          subst hw
          rw[hd]
          refine⟨?_,hnext i Dv hi o d ho hd hdd _ _ (Le.refl _) Ky (fun k hk=>absurd hk (AL k))⟩
          unfold Ob
          rw[if_neg (by rw[t];decide)]
    · obtain⟨i1,O⟩:∃i,i∈D:=by
        cases D with
        |nil=>simp at hD
        |cons i D=>exact⟨i,List.mem_cons_self⟩
      obtain⟨i,Dv,hi⟩:=Pp i1 O
      have Nb:=RU i Dv
      obtain⟨o,d,ho,hk,hg,hd,hdd,_⟩:=(hop i Nb).2.1
      rcases hstep i Nb with⟨t,_⟩|⟨t,I⟩
      · exact absurd ⟨i,Dv,t⟩ hact
      · have hkn:¬kd o.op=2:=by unfold k2 at t;rw[ho]at t;simpa using t
        obtain⟨H,hfree⟩:=hk.resolve_left hkn
        obtain⟨v,hy,Ky,AL⟩:=I o ho f w hI.le (fun j hj=>hI.phi j (hnot i Dv hi j hj).1 (hnot i Dv hi j hj).2)
        have hrep:=xP hI.rep f (dep i) (fun j hj=>hI.slot j (hnot i Dv hi j hj).1 (hnot i Dv hi j hj).2)
        refine rH (v:=v) ho (Region.noSelect_spec hs) (fun _ _ _ hf=>by cases hf.1) hkn _ listed a w hcl (fun j oj hj hne hun' hno=>Region.free_spec ho hfree j oj hj hne ?_ hno) hi (.inl ⟨by unfold Region.wanted;rw[hg],fun w' _=>hy a hrep w'⟩) (fun b=>absurd (H.symm.trans b) (by decide)) ?_
        · have hlt:=Av hj
          have b:=hl j
          rw[<-hget j hlt,hun']at b
          have c:=(Bool.or_eq_false_iff.1 b.symm).1
          have l:=zo (U.filter fun j=>((reach ops).getD i 0).testBit j) l1 j
          have F:(U.filter fun j=>((reach ops).getD i 0).testBit j).contains j=false:=by
            rw[Bool.eq_false_iff]
            intro hc
            have hm:j∈U.filter fun j=>((reach ops).getD i 0).testBit j:=by simpa using hc
            have hr:=(List.mem_filter.1 hm).2
            obtain⟨_,V,S,T⟩:=mem_ready.1 hi
            have A:=hcl.dep (uT ops i j hr) (fun X C=>by rw[S]at C;injection C with C;subst C;exact T)
            rw[<-hget j hlt,hun']at A
            cases A
          rw[c,F,Bool.false_and,Bool.or_false]at l
          rw[Array.getD_eq_getD_getElem?,Array.getElem?_eq_getElem (by rw[uW];omega)]at l ⊢
          exact l
        · rw[hd]
          exact hnext i Dv hi o d ho hd hdd v w (Le.refl _) Ky (fun k hk=>absurd hk (AL k))
def Uy (ops:Array Oper)(P0 U R:List Nat)(dep:Nat->List Nat):Bool:=
  P0.length+(U.length+R.length)==ops.size&&Region.noSelect ops&&LQ ops P0 (Array.replicate ops.size false)&&Hd ops U dep (rM (Array.replicate ops.size false) P0)&&D5 ops R (rM (rM (Array.replicate ops.size false) P0) U)
def LW (P:Program)(ops:Array Oper)(Q:Exit->Act->World->Prop)(n:Nat)(U R:List Nat)(dep:Nat->List Nat)(env:Env)(w:World):Prop:=
  (U.all fun i=>(look env (nT ops i)).isNone&&Nat.blt (nT ops i) n)=true/\∃Φ:Nat->Value->World->Prop,(∀i∈U,∀v w w',Φ i v w->Le w w'->Φ i v w')/\(∀i∈U,AJ P ops dep Φ env n w i)/\
    ∀(f:Nat->Value) (w':World),Le w w'->(∀i∈U,Φ i (f i) w')->(∀i∈U,∀k,wO (f i) k->w.heap.size<=k/\k<w'.heap.size)->(∀i∈U,∀j∈U,i≠j->∀k,wO (f i) k->¬wO (f j) k)->G P ops Q n R (U.map (fun i=>(nT ops i,f i))++env) w'
theorem E.Uz {U R:List Nat}{dep:Nat->List Nat}{env:Env}{w:World}(h:LW P ops Q n U R dep env w):E (fun _ a w=>∃env,tK a n env/\LW P ops Q n U R dep env w) n .normal env w:=fun _ ha=>⟨env,ha,h⟩
theorem WC.UA {env:Env}{w:World}{id:Nat}(P0 U R:List Nat)(dep:Nat->List Nat)(hm:P.follows .mixedOrders=true)(hp:Uy ops P0 U R dep=true)
    (h:∀w',Le w w'->G P ops (fun _ a w=>∃env,tK a n env/\LW P ops Q n U R dep env w) n P0 env w'):WC P Q n (.region id ops true) env w:=fun a ha=>by
  simp only[Uy,Bool.and_eq_true,beq_iff_eq]at hp
  obtain⟨⟨⟨⟨hl,hs⟩,c⟩,Z6⟩,hpR⟩:=hp
  have hn:U.Nodup:=by
    simp only[Hd,Bool.and_eq_true,decide_eq_true_eq]at Z6
    exact List.Pairwise.of_map (nT ops) (fun a b h e=>h (by rw[e])) Z6.1.2
  have hz:(rM (Array.replicate ops.size false) P0).size=ops.size:=by rw[uW];simp
  have:=Ec (Q:=Q) (r:=U.length+R.length) (w:={w with drawn:=w.drawn+1}) (K:=fun a w=>∃env,tK a n env/\LW P ops Q n U R dep env w) hs (fun a' ⟨env',hr,LV,Φ,d,f,j⟩ hcl=>by
    refine Kw hs hz Z6 hpR LV d f j U.length U _ (fun _=>undef) a' _ rfl hn (fun i hi=>hi) hz (fun k=>?_) hcl ⟨hr,fun i hi hd=>absurd hi hd,Le.refl _,fun i hi hd=>absurd hi hd,fun i hi hd=>absurd hi hd,fun i hi hd=>absurd hi hd⟩
    cases U.contains k<;>simp) P0 _ a (Cl.none _) c rfl (h _ (Le.drew w) a ha)
  rw[hl]at this
  refine wp_mono (wp_region_any hm (uo _ _ _ _ this)) ?_
  rintro e a w ⟨rfl,hq⟩
  exact hq
end
end Go.Sx

namespace Go.Sx
open Go Go.RowKit
section
variable {P:Program}{ops:Array Oper}{Q:Exit->Act->World->Prop}{n:Nat}{S:World->Prop}
theorem GS.Na {env:Env}{w:World}{i:Nat}{o:Oper}{plan:List Nat}{v:Value}{d j dj:Nat}{b want:Bool}(ho:ops[i]? =some o)(hk:kd o.op=0)(hr:Any P env n o v)(hg:o.guard=some (j,want))
    (hj:(ops[j]?).bind (·.dst)=some dj)(hv:look env dj=some (.bool b))(hb:b=want)(hd:o.dst=some d)
    (hn:Nat.blt d n=true)(h:GS P ops Q n S plan ((d,v)::env) w):GS P ops Q n S (i::plan) env w:=fun a ha=>
  ⟨o,ho,by
    rw[if_neg (by rw[hk];decide)]
    refine⟨v,.inl ⟨by rw[nA ha hg hj hv,hb];simp,fun w' _=>hr a ha w'⟩,?_⟩
    rw[hd]
    exact h _ (ha.put hn v)⟩
theorem GS.Dl {env:Env}{w:World}{i:Nat}{o:Oper}{plan:List Nat}{v:Value}{d j dj:Nat}{b want:Bool}(ho:ops[i]? =some o)(hk:kd o.op=1)(hr:∀w',S w'->Rd P w' env n o v)(hg:o.guard=some (j,want))
    (hj:(ops[j]?).bind (·.dst)=some dj)(hv:look env dj=some (.bool b))(hb:b=want)(hd:o.dst=some d)
    (hn:Nat.blt d n=true)(h:GS P ops Q n S plan ((d,v)::env) w):GS P ops Q n S (i::plan) env w:=fun a ha=>
  ⟨o,ho,by
    rw[if_neg (by rw[hk];decide)]
    refine⟨v,.inl ⟨by rw[nA ha hg hj hv,hb];simp,fun w' hw=>hr w' (hw hk) a ha w' (Le.refl w')⟩,?_⟩
    rw[hd]
    exact h _ (ha.put hn v)⟩
theorem GS.mY {env:Env}{w:World}{i:Nat}{o:Oper}{plan:List Nat}{d j dj:Nat}{b want:Bool}(ho:ops[i]? =some o)(hk:kd o.op=2)(hg:o.guard=some (j,want))
    (hj:(ops[j]?).bind (·.dst)=some dj)(hv:look env dj=some (.bool b))(hb:b=want)(hd:o.dst=some d)(hn:Nat.blt d n=true)
    (h:Ef P env n o w fun v w'=>S w'/\GS P ops Q n S plan ((d,v)::env) w'):GS P ops Q n S (i::plan) env w:=fun a ha=>
  ⟨o,ho,by
    rw[if_pos hk]
    unfold wpOp
    simp only[ho]
    rw[if_pos (by rw[nA ha hg hj hv,hb];simp)]
    left
    exact Oper.wp_mono (fun a' w' ⟨v,c,e,f⟩=>⟨e,by subst c;rw[hd];exact f _ (ha.put hn v)⟩) (h a ha)⟩
end
end Go.Sx

