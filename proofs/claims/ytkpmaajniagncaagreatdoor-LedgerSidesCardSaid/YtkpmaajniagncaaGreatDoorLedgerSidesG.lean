/- LedgerSides: for every input the law answers true and leaves its arguments as they were. -/
import Derived.Test.YtkpmaajniagncaaGreatDoorLedgerSidesF
import Derived.Lib.AppendZerosOnto
set_option linter.unusedVariables false
set_option linter.unusedSimpArgs false
namespace Go.Sx
open Go Go.RowKit
section
variable {P:Program}{env:Env}{n:Nat}{d:Option Nat}{T:TypeId}{p:String}{af:Array Edge}{g:Option (Nat×Bool)}{w:World}{K:Value->World->Prop}
def F4 (P:Program)(t i off:Nat):Prop:=∃fs f s,P.underlying t=some (.struct fs)/\fs[i]? =some f/\f.offset=off/\Sz P f.type s/\0<s
variable {t i gb o:Nat}{x:Operand}
theorem Any.fieldAddr {off:Nat}(hf:F4 P t i off)(hx:ev env x=some (.pointer (some ⟨gb,o,none⟩))):Any P env n ⟨d,.fieldAddr t x i,T,p,af,g⟩ (.pointer (some ⟨gb,o+off,none⟩)):=fun a ha w=>by
 obtain⟨fs,f,s,c,e,j,k,m⟩:=hf
 have l:¬s=0:=by omega
 simp[execOp,ha.eval hx,Instr.fieldAt,run_underlying c,e,Instr.sureAddr,fieldPlace,k.run,l,j,add_lit]
theorem Any.nU {off:Nat}(hf:F4 P t i off)(hx:ev env x=some (.pointer (some ⟨gb,0,none⟩))):Any P env n ⟨d,.fieldAddr t x i,T,p,af,g⟩ (.pointer (some ⟨gb,off,none⟩)):=by
 have:=Any.fieldAddr (n:=n) (d:=d) (T:=T) (p:=p) (af:=af) (g:=g) hf hx
 rwa [Nat.zero_add]at this
def Bf (P:Program)(t:Nat)(pl:List (Nat×Nat)):Prop:=∃fs:Array Field,P.underlying t=some (.struct fs)/\∀w:World,(fs.mapM (m:=Sem) fun f=>do pure (f.offset,<-sizeOf f.type)).run P w= .ok pl.toArray w
theorem Any.ac8 {z:Value}{pl:List (Nat×Nat)}{parts:Array (Nat×Operand)}{vs:List (Nat×Value)}{cells:Array Value}(hu:Bf P t pl)(hz:Zr P t z)(hp:VW env parts.toList=some vs)
  (hf:Instr.fill (pl.toArray[·]?) z.cells vs=some cells):Any P env n ⟨d,.build t parts,T,p,af,g⟩ (.agg cells):=fun a ha w=>by
 obtain⟨fs,c,e⟩:=hu
 have hparts:parts.map (fun(i,x)=>(i,a.eval x))=vs.toArray:=by rw[<-ha.BL hp];apply Array.ext';simp
 simp only[execOp,Instr.build,Sem.run_bind,hz.run,Result.andThen_ok,run_underlying c,e,hparts]
 rw[hf]
 simp
variable {e:Nat}
theorem Any.QZ {s len:Nat}(ht:P.underlying t=some (.array len e))(hs:Sz P e s)(hlen:0<len)(hx:ev env x=some (.pointer (some ⟨gb,o,none⟩))):
  Any P env n ⟨d,.slice t x none none none,T,p,af,g⟩ (.slice (some ⟨gb,o,none⟩) len len):=fun a ha w=>by
 have c:¬len=0:=by omega
 simp[execOp,ha.eval hx,Instr.sliceAt,run_underlying ht,Instr.sureAddr,Instr.sliceBounds,hs.run,Addr.add]
theorem ik.ahg {t:TypeId}{cs:Array Value}(h:ik w gb t cs)(o k:Nat)(xs:List (BitVec 8))(hx:xs.length=k)(hc:∀i u,(xs.map jf)[i]? =some u->cs[o+i]? =some u):Sb w (some ⟨gb,o,none⟩) k xs:=by
 refine⟨by simp[hx],fun j u hu=>⟨_,rfl,?_⟩⟩
 have:=h.cell (i:=o+j)
 rw[hc j u hu]at this
 rw[add_lit]
 exact this
def Vo (w:World)(k:Nat)(A:Option Addr)(m:Nat)(rows:List (List Value)):Prop:=rows.length=m/\(∀r∈rows,r.length=k)/\Sl w k A m rows.flatten
variable {k m:Nat}{A:Option Addr}{rows:List (List Value)}
theorem Vo.le {w':World}(h:Vo w k A m rows)(hl:Le w w'):Vo w' k A m rows:=⟨h.1,h.2.1,h.2.2.le hl⟩
theorem Vo.nil (w:World)(k:Nat)(A:Option Addr):Vo w k A 0 []:=⟨rfl,(fun r hr=>by cases hr),⟨by simp,fun j u hu=>by simp at hu⟩⟩
theorem KY:∀(rows:List (List Value)),(∀r∈rows,r.length=k)->∀(j:Nat) (r:List Value),rows[j]? =some r->∀(i:Nat) (u:Value),r[i]? =some u->rows.flatten[j*k+i]? =some u
 |[],_,j,r,hr,_,_,_=>by simp at hr
 |q::rows,hk,0,r,hr,i,u,hu=>by
  simp at hr
  subst hr
  simp only[List.flatten_cons,Nat.zero_mul,Nat.zero_add]
  rw[List.getElem?_append_left (List.getElem?_eq_some_iff.1 hu).1]
  exact hu
 |q::rows,hk,j+1,r,hr,i,u,hu=>by
  have hq:q.length=k:=hk q (by simp)
  have ih:=KY rows (fun q hq=>hk q (by simp[hq])) j r (by simpa using hr) i u hu
  simp only[List.flatten_cons]
  rw[List.getElem?_append_right (by rw[hq,Nat.succ_mul];omega),hq,show(j+1)*k+i-k=j*k+i by rw[Nat.succ_mul];omega]
  exact ih
theorem EX:∀(rows:List (List Value)),(∀r∈rows,r.length=k)->rows.flatten.length=rows.length*k
 |[],_=>by simp
 |r::rows,h=>by
  rw[List.flatten_cons,List.length_append,EX rows (fun q hq=>h q (by simp[hq])),h r (by simp),List.length_cons,Nat.succ_mul,Nat.add_comm]
theorem Vo.isSome (h:Vo w k A m rows)(hm:0<m)(hk:0<k):A.isSome=true:=h.2.2.isSome (j:=0) hm hk
theorem Rd.aeN {t:TypeId}{j:Nat}{r:List Value}(hu:ky P t k)(hx:ev env x=some (ptr A (j*k)))(hR:Vo w k A m rows)(hr:rows[j]? =some r)(hp:0<k):
  Rd P w env n ⟨d,.load t x,T,p,af,g⟩ (.agg r.toArray):=by
 have hl:r.length=k:=hR.2.1 r (List.mem_of_getElem? hr)
 exact Rd.Pv r (by rw[hl];exact hu) hx hR.2.2 (fun i u hi=>KY rows hR.2.1 j r hr i u hi) (by omega)
variable {c:Nat}
theorem Own.rws {base:Nat}(h:Own w base e k A m c rows.flatten)(hl:rows.length=m)(hk:∀r∈rows,r.length=k):Vo w k A m rows:=⟨hl,hk,h.sl⟩
theorem ik.aeO {e t e' s:TypeId}{vs:Array Value}(h:ik w gb e vs)(ht:P.underlying t=some (.slice e'))(hs:vs.size=s)(hp:0<s)(h1:∀u∈vs.toList,u.oneCell'=true):Src P s t (.slice (some ⟨gb,0,none⟩) 1 1) 1 vs.toList w:=
 (h.sl (s:=s) (n:=1) (by omega)).src ht hp 1 h1
theorem Own.nil (w:World)(base e s:Nat)(A:Option Addr):Own w base e s A 0 0 []:=⟨by simp,.inl ⟨rfl,rfl⟩⟩
theorem aab (k:Nat):madeCells (Value.int .u8 0).cells (k*1)=((List.replicate k 0#8).map jf).toArray:=by
 apply Array.ext'
 apply List.ext_getElem (by simp[madeCells])
 intro i c d
 simp[madeCells,Value.cells,Nat.mod_one]
 rfl
theorem vY (v:Value)(m:Nat):Builtin.zeroCells #[v] m=(List.replicate m v).toArray:=by
 apply Array.ext'
 apply List.ext_getElem (by simp[Builtin.zeroCells])
 intro i c d
 simp[Builtin.zeroCells,Nat.mod_one]
variable {tn:Nat}{v:Value}{xs:List Value}{kq kn:IntKind}
theorem Du {base ty b:Nat}(m:Nat)(ht:P.underlying t=some (.slice e))(htn:P.underlying tn=some (.int kn))(hel:El P e 1 b v)(hv:v.oneCell'=true)(hO:Own w base e 1 A k c xs)
  (hm:0<m)(hb:(k+m)*b<=140737488355328)(hl:k+m<=maxLen)(hbase:base<=w.heap.size):
  ∃A' c' w',(Builtin.append_ #[t,tn] ty #[.slice A k c,.int kq (m:Int)]).run P w= .ok (.slice A' (k+m) c') w'/\Own w' base e 1 A' (k+m) c' (xs++List.replicate m v)/\Ch w w' (rowOf A c)/\At w A c A' c':=by
 obtain⟨i,hi,hz,hsz,hby,hzs,hpos⟩:=hel
 subst hby
 have hvc:v.cells=#[v]:=by cases v<;>first|rfl|cases hv
 have hlen:(xs++List.replicate m v).length=(k+m)*1:=by rw[List.length_append,hO.1,List.length_replicate,Nat.mul_one,Nat.mul_one]
 have l:k+m<=9223372036854775807:=by simp only[maxLen]at hl;omega
 have hcap:=hO.cap
 have hmb:m*i.bytes<=281474976710656:=Nat.le_trans (Nat.mul_le_mul_right _ (by omega:m<=k+m)) (by omega)
 by_cases hroom:k+m<=c
 ·rcases hO.2 with⟨rfl,rfl⟩|⟨gb,cur,rfl,hbg,hg,hnc,hcm,hcs,htake⟩
  ·omega
  ·have hfit:k+m<=cur.size:=by rw[hcs,Nat.mul_one];exact hroom
   have hst:=run_storeCells_at P gb (k*i.size) e (List.replicate m v) 0 cur w hg (by simp[hsz];omega) (fun u hu=>by rw[(List.mem_replicate.1 hu).2];exact hv)
   simp only[Nat.add_zero]at hst
   have hw:IntKind.i64.wrap (m:Int)=m:=by rw[IntKind.wrap_i64];omega
   have hneg:¬((m:Int)<0):=by omega
   have d:¬(281474976710656<(m:Int)*(i.bytes:Int)):=by rw[<-Int.natCast_mul];omega
   have hns:¬(m*i.size=0):=Nat.mul_ne_zero (by omega) (by omega)
   have hrun:(Builtin.append_ #[t,tn] ty #[.slice (some ⟨gb,0,none⟩) k c,.int kq (m:Int)]).run P w= .ok (.slice (some ⟨gb,0,none⟩) (k+m) c) (w.setRow gb (cur.toList.take (k*i.size)++List.replicate m v++cur.toList.drop (k*i.size+(List.replicate m v).length)).toArray):=by
    simp only[Builtin.append_,sizeOf,typeInfo,zeroValue,asInt,asIntOf]
    simp[run_underlying ht,run_underlying htn,hi,hz,hw,hneg,hns,d,hroom,hvc,vY,Addr.add_lit,hst]
   have f:c≠0:=by omega
   rw[hsz]at hrun
   refine⟨_,_,_,hrun,⟨hlen,.inr ⟨gb,(cur.toList.take (k*1)++List.replicate m v++cur.toList.drop (k*1+(List.replicate m v).length)).toArray,rfl,hbg,setRow_heap w gb cur _ e (0,0) hg,hroom,hcm,?_,?_⟩⟩,
     ⟨rfl,rfl,rfl,by simp,fun q _ hq=>setRow_other w gb q _ (fun e=>hq (by rw[uO _ _ _ f,e]))⟩,At.refl _ _ _⟩
   ·simp only[List.size_toArray,List.length_append,List.length_take,List.length_drop,Array.length_toList,List.length_replicate]
    omega
   ·rw[htake,<-hlen]
    exact List.take_left
 ·have hold:(Builtin.firstCells i.size k (.slice A k c)).run P w.drew= .ok xs.toArray w.drew:=by
   have hSl:Sl w.drew i.size A k xs:=by rw[hsz];exact hO.sl.le (Le.drew w)
   cases A with
   |none=>
    have hx:xs=[]:=by
     cases xs with
     |nil=>rfl
     |cons u us=>obtain⟨_,he,_⟩:=hSl.2 0 u Z;cases he
    subst hx
    simp[Builtin.firstCells]
   |some ad=>exact run_firstCells_some w.drew i.size k ad k c xs (by rw[hO.1,hsz]) (fun j u hu=>by obtain⟨ad',he,hc⟩:=hSl.2 j u hu;injection he with he;subst he;exact hc)
  have hr:=Go.Lib.run_append_grow_zeros (P:=P) w t tn ty e i v kq kn ht htn hi hz A k c xs hold m hm (by omega) (by omega) (by omega) hmb (growslice_fits (by omega) hb)
  have hge:=grownCap_ge w (k+m) c e
  have hcm:grownCap w (k+m) c e<=maxLen:=grownCap_le_maxLen w (k+m) c e hl
  rw[hvc,vY,vY]at hr
  refine⟨some ⟨w.heap.size,0,none⟩,_,_,hr,⟨hlen,.inr ⟨w.heap.size,_,rfl,hbase,heap_alloc_new w.drew _,hge,hcm,?_,?_⟩⟩,⟨rfl,rfl,rfl,by simp,fun q hq _=>Below.heap_alloc w.drew _ q hq⟩,fun q hq=> .inr (Nat.le_of_eq (ru hq).symm)⟩
  ·have:=hO.1
   simp only[Array.size_append,List.size_toArray,List.length_replicate]
   omega
  ·simp only[Array.toList_append]
   rw[<-hlen]
   exact List.take_left
theorem Ef.aac {base b:Nat}{y:Operand}{i:Int}(m:Nat)(ht:P.underlying t=some (.slice e))(htn:P.underlying tn=some (.int kn))(hel:El P e 1 b v)(hv:v.oneCell'=true)(hx:ev env x=some (.slice A k c))(hO:Own w base e 1 A k c xs)
  (hy:ev env y=some (.int kq i))(hi:i=(m:Int))(hm:0<m)(hb:(k+m)*b<=140737488355328)(hl:k+m<=maxLen)(hbase:base<=w.heap.size)
  (h:∀A' c' w',Own w' base e 1 A' (k+m) c' (xs++List.replicate m v)->Ch w w' (rowOf A c)->At w A c A' c'->K (.slice A' (k+m) c') w'):
  Ef P env n ⟨d,.call ⟨.builtin .append,#[x,y],#[t,tn]⟩,T,p,af,g⟩ w K:=by
 subst hi
 obtain⟨A',c',w',hr,f,j,l⟩:=Du (ty:=T) (kq:=kq) m ht htn hel hv hO hm hb hl hbase
 refine .of_run (fun a ha=>?_) (h A' c' w' f j l)
 simp[execOp,resolve,invoke,builtin,ha.eval hx,ha.eval hy,hr]
theorem Rd.cap {t e:TypeId}{l:Nat}{ats:Array TypeId}(ht:P.underlying t=some (.slice e))(ha:ats=#[t])(hx:ev env x=some (.slice A l c)):
  Rd P w env n ⟨d,.call ⟨.builtin .cap,#[x],ats⟩,T,p,af,g⟩ (J (c:Int)):=fun a hr w' _=>by
 subst ha
 simp[execOp,resolve,invoke,builtin,hr.eval hx,Builtin.cap_,run_underlying ht,goInt]
end
section
variable {P:Program}{ops:Array Oper}{Q:Exit->Act->World->Prop}{n:Nat}{S:World->Prop}
def PD (P:Program)(ops:Array Oper)(Q:Exit->Act->World->Prop)(S:World->Prop):List Nat->Act->World->Prop
 |[],a,w=>Q .normal a w
 |i::rest,a,w=>∃o,ops[i]? =some o/\
  if kd o.op=2 then wpOp P ops Z4 i (fun a' w'=>S w'/\PD P ops Q S rest a' w') a w
  else∃v,YieldsIf P ops (fun w'=>kd o.op=1->S w') o v a/\PD P ops Q S rest (a.put o.dst v) w
def BR (ops:Array Oper):List Nat->Array Bool->Bool
 |[],listed=>(Region.ready .any ops listed).isEmpty
 |i::rest,listed=>
  (if k2 ops i then(Region.ready .any ops listed==[i])
   else(Region.ready .any ops listed).contains i&&Region.free .any ops listed i)&&BR ops rest (listed.setIfInBounds i true)
def F5 (ops:Array Oper)(plan:List Nat):Bool:=plan.length==ops.size&&Region.noSelect ops&&BR ops plan (Array.replicate ops.size false)
theorem GZ (hs:Region.noSelect ops=true):∀(L:List Nat) (listed:Array Bool) (a:Act) (w:World),
  S w->Cl ops listed->BR ops L listed=true->PD P ops Q S L a w->l9 P ops (pQ Q) S L.length listed a w:=by
 intro L
 induction L with
 |nil=>
  intro listed a w _ _ hp h
  refine⟨by simpa[BR]using hp,rfl,h⟩
 |cons i rest ih=>
  intro listed a w hS hcl hp h
  obtain⟨o,ho,h⟩:=h
  simp only[BR,Bool.and_eq_true]at hp
  obtain⟨c,e⟩:=hp
  by_cases hk:kd o.op=2
  ·rw[if_pos hk]at h
   have d:k2 ops i=true:=by unfold k2;rw[ho];simpa using hk
   rw[if_pos d,beq_iff_eq]at c
   refine⟨fun f=>(by rw[c]at f;cases f),fun j hj=>?_⟩
   rw[c]at hj
   obtain rfl:j=i:=by simpa using hj
   refine wpOp_mono (fun a' w' h'=>⟨?_,?_⟩) (wL h)
   ·unfold Ob;rw[if_pos d];exact fun _=>h'.1
   ·exact ih (listed.setIfInBounds j true) a' w' h'.1 (hcl.set (by rw[c];simp)) e h'.2
  ·rw[if_neg hk]at h
   obtain⟨v,hy,h⟩:=h
   have d:¬k2 ops i=true:=by unfold k2;rw[ho];simpa using hk
   rw[if_neg d]at c
   simp only[Bool.and_eq_true]at c
   exact oC ho (Region.noSelect_spec hs) (fun _ _ _ hf=>by cases hf.1) hk _ listed a w hcl (Region.free_spec ho c.2) (by simpa using c.1) hy (fun _=>hS) (ih _ _ _ hS (hcl.set (by simpa using c.1)) e h)
def GS (P:Program)(ops:Array Oper)(Q:Exit->Act->World->Prop)(n:Nat)(S:World->Prop)(plan:List Nat)(env:Env)(w:World):Prop:=∀a,sM a n env->PD P ops Q S plan a w
variable {env:Env}{w:World}
theorem GS.nil (h:E Q n .normal env w):GS P ops Q n S [] env w:=fun a ha=>h a ha
variable {i d:Nat}{o:Oper}{plan:List Nat}{v:Value}
theorem GS.any (ho:ops[i]? =some o)(hk:kd o.op=0)(hr:Any P env n o v)(hg:o.guard=none)(hd:o.dst=some d)
  (hn:Nat.blt d n=true)(h:GS P ops Q n S plan ((d,v)::env) w):GS P ops Q n S (i::plan) env w:=fun a ha=>
 ⟨o,ho,by
  rw[if_neg (by rw[hk];decide)]
  refine⟨v,.inl ⟨by unfold Region.wanted;rw[hg],fun w' _=>hr a ha w'⟩,?_⟩
  rw[hd]
  exact h _ (ha.put hn v)⟩
theorem GS.rd (ho:ops[i]? =some o)(hk:kd o.op=1)(hr:∀w',S w'->Rd P w' env n o v)(hg:o.guard=none)(hd:o.dst=some d)
  (hn:Nat.blt d n=true)(h:GS P ops Q n S plan ((d,v)::env) w):GS P ops Q n S (i::plan) env w:=fun a ha=>
 ⟨o,ho,by
  rw[if_neg (by rw[hk];decide)]
  refine⟨v,.inl ⟨by unfold Region.wanted;rw[hg],fun w' hw=>hr w' (hw hk) a ha w' (Le.refl w')⟩,?_⟩
  rw[hd]
  exact h _ (ha.put hn v)⟩
theorem GS.ef (ho:ops[i]? =some o)(hk:kd o.op=2)(hg:o.guard=none)(hd:o.dst=some d)(hn:Nat.blt d n=true)
  (h:Ef P env n o w fun v w'=>S w'/\GS P ops Q n S plan ((d,v)::env) w'):GS P ops Q n S (i::plan) env w:=fun a ha=>
 ⟨o,ho,by
  rw[if_pos hk]
  unfold wpOp
  simp only[ho]
  rw[if_pos (by unfold Region.wanted;rw[hg])]
  left
  exact Oper.wp_mono (fun a' w' ⟨v,c,e,f⟩=>⟨e,by subst c;rw[hd];exact f _ (ha.put hn v)⟩) (h a ha)⟩
theorem GS.jR (ho:ops[i]? =some o)(hk:kd o.op=2)(hg:o.guard=none)(hd:o.dst=none)
  (h:Ef P env n o w fun _ w'=>S w'/\GS P ops Q n S plan env w'):GS P ops Q n S (i::plan) env w:=fun a ha=>
 ⟨o,ho,by
  rw[if_pos hk]
  unfold wpOp
  simp only[ho]
  rw[if_pos (by unfold Region.wanted;rw[hg])]
  left
  exact Oper.wp_mono (fun a' w' ⟨v,c,d,e⟩=>⟨d,by subst c;rw[hd];exact e _ ha⟩) (h a ha)⟩
theorem WC.Q0 {id:Nat}(S:World->World->Prop)(plan:List Nat)(hm:P.follows .mixedOrders=true)(hp:F5 ops plan=true)
  (h:∀w',Le w w'->S w' w'/\GS P ops Q n (S w') plan env w'):WC P Q n (.region id ops true) env w:=fun a ha=>by
 simp only[F5,Bool.and_eq_true,beq_iff_eq]at hp
 obtain⟨⟨hl,hs⟩,hp⟩:=hp
 obtain⟨c,d⟩:=h _ (Le.drew w)
 have:=GZ hs plan _ a _ c (Cl.none _) hp (d a ha)
 rw[hl]at this
 refine wp_mono (wp_region_any hm (pO _ _ _ _ this)) ?_
 rintro e a w ⟨rfl,hq⟩
 exact hq
end
section
variable {P:Program}{ops:Array Oper}{Q:Exit->Act->World->Prop}{n:Nat}{S:World->Prop}
def k1 (ops:Array Oper)(j:Nat):Bool:=match ops[j]? with |some o=>kd o.op==1|none=>false
def G5 (ops:Array Oper)(l:List Nat):Bool:=l.any fun j=>nS ops j||k1 ops j
def aad (P:Program)(ops:Array Oper)(Q:Exit->Act->World->Prop)(S:World->Prop):List Nat->Act->World->Prop
 |[],a,w=>Q .normal a w
 |i::rest,a,w=>∃o,ops[i]? =some o/\
  if kd o.op=2 then wpOp P ops Z4 i (fun a' w'=>((nS ops i||G5 ops rest)=true->S w')/\aad P ops Q S rest a' w') a w
  else∃v,YieldsIf P ops (fun w'=>kd o.op=1->S w') o v a/\aad P ops Q S rest (a.put o.dst v) w
theorem PE (hs:Region.noSelect ops=true):∀(L:List Nat) (listed:Array Bool) (a:Act) (w:World),
  (G5 ops L=true->S w)->Cl ops listed->BR ops L listed=true->aad P ops Q S L a w->l9 P ops (pQ Q) S L.length listed a w:=by
 intro L
 induction L with
 |nil=>
  intro listed a w _ _ hp h
  refine⟨by simpa[BR]using hp,rfl,h⟩
 |cons i rest ih=>
  intro listed a w hS hcl hp h
  obtain⟨o,ho,h⟩:=h
  simp only[BR,Bool.and_eq_true]at hp
  obtain⟨c,e⟩:=hp
  by_cases hk:kd o.op=2
  ·rw[if_pos hk]at h
   have d:k2 ops i=true:=by unfold k2;rw[ho];simpa using hk
   rw[if_pos d,beq_iff_eq]at c
   refine⟨fun f=>(by rw[c]at f;cases f),fun j hj=>?_⟩
   rw[c]at hj
   obtain rfl:j=i:=by simpa using hj
   refine wpOp_mono (fun a' w' h'=>⟨?_,?_⟩) (wL h)
   ·unfold Ob;rw[if_pos d];exact fun hn=>h'.1 (by rw[hn,Bool.true_or])
   ·exact ih (listed.setIfInBounds j true) a' w' (fun hn=>h'.1 (by rw[hn,Bool.or_true])) (hcl.set (by rw[c];simp)) e h'.2
  ·rw[if_neg hk]at h
   obtain⟨v,hy,h⟩:=h
   have d:¬k2 ops i=true:=by unfold k2;rw[ho];simpa using hk
   rw[if_neg d]at c
   simp only[Bool.and_eq_true]at c
   have k:kd o.op=1->S w:=fun l=>hS (by unfold G5;rw[List.any_cons];have:k1 ops i=true:=(by unfold k1;rw[ho];simpa using l);rw[this,Bool.or_true,Bool.true_or])
   exact oC ho (Region.noSelect_spec hs) (fun _ _ _ hf=>by cases hf.1) hk _ listed a w hcl (Region.free_spec ho c.2) (by simpa using c.1) hy k (ih _ _ _ (fun hn=>hS (by unfold G5 at hn ⊢;rw[List.any_cons,hn,Bool.or_true])) (hcl.set (by simpa using c.1)) e h)
def GR (P:Program)(ops:Array Oper)(Q:Exit->Act->World->Prop)(n:Nat)(S:World->Prop)(plan:List Nat)(env:Env)(w:World):Prop:=∀a,sM a n env->aad P ops Q S plan a w
variable {env:Env}{w:World}
theorem GR.nil (h:E Q n .normal env w):GR P ops Q n S [] env w:=fun a ha=>h a ha
variable {i d:Nat}{o:Oper}{plan:List Nat}{v:Value}
theorem GR.any (ho:ops[i]? =some o)(hk:kd o.op=0)(hr:Any P env n o v)(hg:o.guard=none)(hd:o.dst=some d)
  (hn:Nat.blt d n=true)(h:GR P ops Q n S plan ((d,v)::env) w):GR P ops Q n S (i::plan) env w:=fun a ha=>
 ⟨o,ho,by
  rw[if_neg (by rw[hk];decide)]
  refine⟨v,.inl ⟨by unfold Region.wanted;rw[hg],fun w' _=>hr a ha w'⟩,?_⟩
  rw[hd]
  exact h _ (ha.put hn v)⟩
theorem GR.rd (ho:ops[i]? =some o)(hk:kd o.op=1)(hr:∀w',S w'->Rd P w' env n o v)(hg:o.guard=none)(hd:o.dst=some d)
  (hn:Nat.blt d n=true)(h:GR P ops Q n S plan ((d,v)::env) w):GR P ops Q n S (i::plan) env w:=fun a ha=>
 ⟨o,ho,by
  rw[if_neg (by rw[hk];decide)]
  refine⟨v,.inl ⟨by unfold Region.wanted;rw[hg],fun w' hw=>hr w' (hw hk) a ha w' (Le.refl w')⟩,?_⟩
  rw[hd]
  exact h _ (ha.put hn v)⟩
theorem GR.ef (ho:ops[i]? =some o)(hk:kd o.op=2)(hg:o.guard=none)(hd:o.dst=some d)(hn:Nat.blt d n=true)
  (h:Ef P env n o w fun v w'=>((nS ops i||G5 ops plan)=true->S w')/\GR P ops Q n S plan ((d,v)::env) w'):GR P ops Q n S (i::plan) env w:=fun a ha=>
 ⟨o,ho,by
  rw[if_pos hk]
  unfold wpOp
  simp only[ho]
  rw[if_pos (by unfold Region.wanted;rw[hg])]
  left
  exact Oper.wp_mono (fun a' w' ⟨v,c,e,f⟩=>⟨e,by subst c;rw[hd];exact f _ (ha.put hn v)⟩) (h a ha)⟩
theorem GR.jR (ho:ops[i]? =some o)(hk:kd o.op=2)(hg:o.guard=none)(hd:o.dst=none)
  (h:Ef P env n o w fun _ w'=>((nS ops i||G5 ops plan)=true->S w')/\GR P ops Q n S plan env w'):GR P ops Q n S (i::plan) env w:=fun a ha=>
 ⟨o,ho,by
  rw[if_pos hk]
  unfold wpOp
  simp only[ho]
  rw[if_pos (by unfold Region.wanted;rw[hg])]
  left
  exact Oper.wp_mono (fun a' w' ⟨v,c,d,e⟩=>⟨d,by subst c;rw[hd];exact e _ ha⟩) (h a ha)⟩
variable {j dj:Nat}{want:Bool}
theorem GR.VQ {b:Bool}(ho:ops[i]? =some o)(hk:kd o.op=0)(hr:Any P env n o v)(hg:o.guard=some (j,want))
  (hj:(ops[j]?).bind (·.dst)=some dj)(hv:look env dj=some (.bool b))(hb:b=want)(hd:o.dst=some d)
  (hn:Nat.blt d n=true)(h:GR P ops Q n S plan ((d,v)::env) w):GR P ops Q n S (i::plan) env w:=fun a ha=>
 ⟨o,ho,by
  rw[if_neg (by rw[hk];decide)]
  refine⟨v,.inl ⟨by rw[oQ ha hg hj hv,hb];simp,fun w' _=>hr a ha w'⟩,?_⟩
  rw[hd]
  exact h _ (ha.put hn v)⟩
theorem GR.Fx {b:Bool}(ho:ops[i]? =some o)(hk:kd o.op=1)(hr:∀w',S w'->Rd P w' env n o v)(hg:o.guard=some (j,want))
  (hj:(ops[j]?).bind (·.dst)=some dj)(hv:look env dj=some (.bool b))(hb:b=want)(hd:o.dst=some d)
  (hn:Nat.blt d n=true)(h:GR P ops Q n S plan ((d,v)::env) w):GR P ops Q n S (i::plan) env w:=fun a ha=>
 ⟨o,ho,by
  rw[if_neg (by rw[hk];decide)]
  refine⟨v,.inl ⟨by rw[oQ ha hg hj hv,hb];simp,fun w' hw=>hr w' (hw hk) a ha w' (Le.refl w')⟩,?_⟩
  rw[hd]
  exact h _ (ha.put hn v)⟩
theorem GR.MN {b:Bool}(ho:ops[i]? =some o)(hk:kd o.op=2)(hg:o.guard=some (j,want))
  (hj:(ops[j]?).bind (·.dst)=some dj)(hv:look env dj=some (.bool b))(hb:b=want)(hd:o.dst=some d)(hn:Nat.blt d n=true)
  (h:Ef P env n o w fun v w'=>((nS ops i||G5 ops plan)=true->S w')/\GR P ops Q n S plan ((d,v)::env) w'):GR P ops Q n S (i::plan) env w:=fun a ha=>
 ⟨o,ho,by
  rw[if_pos hk]
  unfold wpOp
  simp only[ho]
  rw[if_pos (by rw[oQ ha hg hj hv,hb];simp)]
  left
  exact Oper.wp_mono (fun a' w' ⟨v,c,e,f⟩=>⟨e,by subst c;rw[hd];exact f _ (ha.put hn v)⟩) (h a ha)⟩
theorem WC.Q3 {id:Nat}(S:World->World->Prop)(plan:List Nat)(hm:P.follows .mixedOrders=true)(hp:F5 ops plan=true)
  (h:∀w',Le w w'->S w' w'/\GR P ops Q n (S w') plan env w'):WC P Q n (.region id ops true) env w:=fun a ha=>by
 simp only[F5,Bool.and_eq_true,beq_iff_eq]at hp
 obtain⟨⟨hl,hs⟩,hp⟩:=hp
 obtain⟨c,d⟩:=h _ (Le.drew w)
 have:=PE hs plan _ a _ (fun _=>c) (Cl.none _) hp (d a ha)
 rw[hl]at this
 refine wp_mono (wp_region_any hm (pO _ _ _ _ this)) ?_
 rintro e a w ⟨rfl,hq⟩
 exact hq
end
section
variable {P:Program}{ops:Array Oper}{Q:Exit->Act->World->Prop}{n:Nat}
def uR:Value->Nat->Prop
 | .slice A _ c,k=>rowOf A c=some k
 | .pointer (some p),k=>p.block=k
 |_,_=>False
def kL (ops:Array Oper)(i:Nat):Nat:=((ops[i]?).bind (·.dst)).getD 0
def V4 (ops:Array Oper)(U:List Nat)(dep:Nat->List Nat)(l1:Array Bool)(i:Nat):Bool:=
 !l1.getD i true&&(match ops[i]? with
  |some o=>kd o.op==2&&o.guard.isNone&&o.dst.isSome&&o.after.toList.all (fun e=> !Region.binds .any e||l1.getD e.on false||(U.contains e.on&&Nat.blt e.on i))
  |none=>false)&&(dep i).all fun j=>U.contains j&&((reach ops).getD i 0).testBit j
def Q4 (ops:Array Oper)(U:List Nat)(dep:Nat->List Nat)(l1:Array Bool):Bool:=
 U.all (V4 ops U dep l1)&&decide (U.map (kL ops)).Nodup&&(List.range ops.size).all fun k=>l1.getD k true||U.contains k||U.all fun i=>((reach ops).getD k 0).testBit i
def nH (l:Array Bool)(U:List Nat):Array Bool:=U.foldl (fun l i=>l.setIfInBounds i true) l
theorem rA:∀(U:List Nat) (l:Array Bool),(nH l U).size=l.size
 |[],_=>rfl
 |i::U,l=>by
  show(nH (l.setIfInBounds i true) U).size=_
  rw[rA U,Array.size_setIfInBounds]
theorem xL:∀(U:List Nat) (l:Array Bool) (k:Nat),(nH l U).getD k false=(l.getD k false||(U.contains k&&decide (k<l.size)))
 |[],l,k=>by simp[nH]
 |i::U,l,k=>by
  show(nH (l.setIfInBounds i true) U).getD k false=_
  rw[xL U,Array.size_setIfInBounds]
  by_cases hik:i=k
  ·subst hik
   by_cases hlt:i<l.size
   ·simp[hlt]
   ·simp[hlt]
  ·rw[getD_set_ne false hik]
   have:(k==i)=false:=by simpa using fun h=>hik h.symm
   rw[List.contains_cons,this,Bool.false_or]
structure aeP (U D:List Nat)(Φ:Nat->Value->World->Prop)(env:Env)(n:Nat)(w0:World)(f:Nat->Value)(ops:Array Oper)(a:Act)(w:World):Prop where
 rep:sM a n env
 slot:∀i∈U,i∉D->a.tmps[kL ops i]? =some (f i)
 le:Le w0 w
 phi:∀i∈U,i∉D->Φ i (f i) w
 foot:∀i∈U,i∉D->∀k,uR (f i) k->w0.heap.size<=k/\k<w.heap.size
 apart:∀i∈U,i∉D->∀j∈U,j∉D->i≠j->∀k,uR (f i) k->¬uR (f j) k
variable {env:Env}
theorem uS {a:Act}(h:sM a n env)(f:Nat->Value):∀(L:List Nat),(∀i∈L,a.tmps[kL ops i]? =some (f i))->sM a n (L.map (fun i=>(kL ops i,f i))++env)
 |[],_=>h
 |i::L,hs=>by
  have ih:=uS h f L (fun j hj=>hs j (List.mem_cons_of_mem _ hj))
  refine⟨ih.1,ih.2.1,fun k v hk=>?_⟩
  rw[List.map_cons,List.cons_append]at hk
  by_cases hki:kL ops i=k
  ·subst hki
   rw[zM]at hk
   injection hk with hk
   subst hk
   exact hs i List.mem_cons_self
  ·rw[xI _ _ hki]at hk
   exact ih.2.2 k v hk
def Step (P:Program)(ops:Array Oper)(dep:Nat->List Nat)(Φ:Nat->Value->World->Prop)(env:Env)(n:Nat)(w0:World)(i:Nat):Prop:=
 ∀o,ops[i]? =some o->∀(f:Nat->Value) (w:World),Le w0 w->(∀j∈dep i,Φ j (f j) w)->Ef P ((dep i).map (fun j=>(kL ops j,f j))++env) n o w fun v w'=>Le w w'/\Φ i v w'/\∀k,uR v k->w.heap.size<=k/\k<w'.heap.size
variable {Φ:Nat->Value->World->Prop}{w0:World}
theorem Step.of0 {dep:Nat->List Nat}{i:Nat}{o:Oper}(hd:dep i=[])(ho:ops[i]? =some o)
  (h:∀w,Le w0 w->Ef P env n o w fun v w'=>Le w w'/\Φ i v w'/\∀k,uR v k->w.heap.size<=k/\k<w'.heap.size):Step P ops dep Φ env n w0 i:=fun o' ho' f w hle _=>by
 rw[ho]at ho'
 injection ho' with ho'
 subst ho'
 rw[hd]
 exact h w hle
variable {U:List Nat}{l1:Array Bool}
theorem Tt {r:Nat}{dep:Nat->List Nat}(hs:Region.noSelect ops=true)(hsz:l1.size=ops.size)
  (hB:Q4 ops U dep l1=true)(BS:(U.all fun i=>(look env (kL ops i)).isNone&&Nat.blt (kL ops i) n)=true)
  (hst:∀i∈U,∀v w w',Φ i v w->Le w w'->Φ i v w')(hstep:∀i∈U,Step P ops dep Φ env n w0 i)
  (hfin:∀(f:Nat->Value) (w:World),Le w0 w->(∀i∈U,Φ i (f i) w)->(∀i∈U,∀k,uR (f i) k->w0.heap.size<=k/\k<w.heap.size)->(∀i∈U,∀j∈U,i≠j->∀k,uR (f i) k->¬uR (f j) k)->∀a,sM a n (U.map (fun i=>(kL ops i,f i))++env)->Cl ops (nH l1 U)->l9 P ops (pQ Q) (Le w0) r (nH l1 U) a w):
  ∀(m:Nat) (D:List Nat) (listed:Array Bool) (f:Nat->Value) (a:Act) (w:World),D.length=m->D.Nodup->(∀i∈D,i∈U)->listed.size=ops.size->
   (∀k,listed.getD k false=(l1.getD k false||(U.contains k&& !D.contains k&&decide (k<ops.size))))->Cl ops listed->aeP U D Φ env n w0 f ops a w->l9 P ops (pQ Q) (Le w0) (m+r) listed a w:=by
 simp only[Q4,Bool.and_eq_true,List.all_eq_true,decide_eq_true_eq,List.mem_range]at hB
 obtain⟨⟨hU,hnd⟩,hrest⟩:=hB
 have hop:∀i∈U,l1.getD i true=false/\(∃o d,ops[i]? =some o/\kd o.op=2/\o.guard=none/\o.dst=some d/\kL ops i=d/\(∀e∈o.after,Region.binds .any e=true->l1.getD e.on false=true\/(e.on∈U/\e.on<i)))/\∀j∈dep i,j∈U/\Pp ops i j:=by
  intro i hi
  have h:=hU i hi
  simp only[V4,Bool.and_eq_true,Bool.not_eq_true',List.all_eq_true]at h
  obtain⟨⟨l,c⟩,t⟩:=h
  refine⟨l,?_,fun j hj=>⟨by simpa using(t j hj).1,pM ops i j (t j hj).2⟩⟩
  cases ho:ops[i]? with
  |none=>rw[ho]at c;cases c
  |some o=>
   rw[ho]at c
   simp only[Bool.and_eq_true,beq_iff_eq,Option.isNone_iff_eq_none,List.all_eq_true]at c
   obtain⟨⟨⟨y,F⟩,H⟩,I⟩:=c
   obtain⟨d,hd⟩:=Option.isSome_iff_exists.1 H
   refine⟨o,d,rfl,y,F,hd,by unfold kL;rw[ho];simp[hd],fun e he hb=>?_⟩
   have:=I e (by simpa using he)
   simp only[Bool.or_eq_true,Bool.not_eq_true',Bool.and_eq_true,hb]at this
   rcases this with(h|h)|h
   ·cases h
   ·exact .inl h
   ·exact .inr ⟨by simpa using h.1,by simpa[Nat.blt_eq]using h.2⟩
 have hinj:∀i∈U,∀j∈U,kL ops i=kL ops j->i=j:=by
  intro i hi j hj h
  obtain⟨p,hp,rfl⟩:=List.getElem_of_mem hi
  obtain⟨q,hq,rfl⟩:=List.getElem_of_mem hj
  have hw:=List.pairwise_iff_getElem.1 hnd
  rcases Nat.lt_trichotomy p q with hpq|hpq|hpq
  ·exact absurd (by rw[List.getElem_map,List.getElem_map];exact h) (hw p q (by simpa using hp) (by simpa using hq) hpq)
  ·subst hpq
   rfl
  ·exact absurd (by rw[List.getElem_map,List.getElem_map];exact h.symm) (hw q p (by simpa using hq) (by simpa using hp) hpq)
 intro m
 induction m with
 |zero=>
  intro D listed f a w hD _ _ hlz hl hcl hI
  have K:D=[]:=List.length_eq_zero_iff.1 hD
  subst K
  have hle:listed=nH l1 U:=by
   refine Array.ext (by rw[rA,hlz,hsz]) fun k l c=>?_
   have:=hl k
   have t:=xL U l1 k
   rw[Array.getD_eq_getD_getElem?,Array.getElem?_eq_getElem l]at this
   rw[Array.getD_eq_getD_getElem?,Array.getElem?_eq_getElem c]at t
   simp only[Option.getD_some,List.contains_nil,Bool.not_false,Bool.and_true]at this t
   rw[this,t,hsz]
  subst hle
  have hg:=hfin f w hI.le (fun i hi=>hI.phi i hi (by simp)) (fun i hi=>hI.foot i hi (by simp)) (fun i hi j hj=>hI.apart i hi (by simp) j hj (by simp)) a (uS hI.rep f U (fun i hi=>hI.slot i hi (by simp)))
  rw[Nat.zero_add]
  exact hg hcl
 |succ m ih=>
  intro D listed f a w hD hDn Mq hlz hl hcl hI
  have hget:∀k,k<ops.size->listed.getD k true=listed.getD k false:=fun k hk=>by
   rw[Array.getD_eq_getD_getElem?,Array.getD_eq_getD_getElem?,Array.getElem?_eq_getElem (by omega)]
   rfl
  have A:∀i∈U,l1.getD i false=false/\i<ops.size:=fun i hi=>by
   have h:=(hop i hi).1
   have hlt:i<ops.size:=by
    obtain⟨o,_,ho,_⟩:=(hop i hi).2.1
    exact wK ho
   refine⟨?_,hlt⟩
   rw[Array.getD_eq_getD_getElem?,Array.getElem?_eq_getElem (by omega)]at h ⊢
   exact h
  have hun:∀i∈D,listed.getD i true=false:=fun i hi=>by
   rw[hget i (A i (Mq i hi)).2,hl i,(A i (Mq i hi)).1]
   have:D.contains i=true:=by simpa using hi
   rw[this]
   simp
  have KZ:∀i,i∈D->∃j,j∈Region.ready .any ops listed:=by
   intro i
   induction i using Nat.strongRecOn with
   |_ i ihi=>
    intro hi
    obtain⟨o,d,ho,_,_,_,_,haf⟩:=(hop i (Mq i hi)).2.1
    by_cases hall:∀e∈o.after,Region.binds .any e=true->listed.getD e.on false=true
    ·exact⟨i,mem_ready.2 ⟨hun i hi,o,ho,hall⟩⟩
    ·obtain⟨e,l⟩:=Classical.not_forall.1 hall
     obtain⟨he,c⟩:=Classical.not_forall.1 l
     obtain⟨hb,hne⟩:=Classical.not_forall.1 c
     rcases haf e he hb with h|⟨l,c⟩
     ·exact absurd (by rw[hl,h];rfl) hne
     ·refine ihi e.on c ?_
      apply Classical.byContradiction
      intro hd
      refine hne ?_
      rw[hl]
      have:D.contains e.on=false:=by simpa using hd
      rw[this]
      simp[l,(A _ l).2]
  obtain⟨i0,C⟩:∃i,i∈D:=by
   cases D with
   |nil=>simp at hD
   |cons i D=>exact⟨i,List.mem_cons_self⟩
  have hin:∀i∈Region.ready .any ops listed,i∈D:=by
   intro i hi
   obtain⟨hu,o,ho,hall⟩:=mem_ready.1 hi
   have hlt:=wK ho
   rw[hget i hlt,hl i,Bool.or_eq_false_iff]at hu
   by_cases F6:i∈U
   ·apply Classical.byContradiction
    intro hd
    have:D.contains i=false:=by simpa using hd
    rw[this]at hu
    simp[F6,hlt]at hu
   ·exfalso
    have h:=hrest i hlt
    simp only[Bool.or_eq_true,List.all_eq_true]at h
    rcases h with(h|h)|h
    ·rw[Array.getD_eq_getD_getElem?,Array.getElem?_eq_getElem (by omega)]at h
     have c:=hu.1
     rw[Array.getD_eq_getD_getElem?,Array.getElem?_eq_getElem (by omega)]at c
     simp only[Option.getD_some]at h c
     rw[h]at c
     cases c
    ·exact F6 (by simpa using h)
    ·have t:=hcl.dep (pM ops i i0 (h i0 (Mq i0 C))) (fun oj hoj=>by rw[ho]at hoj;injection hoj with hoj;subst hoj;exact hall)
     have y:=hun i0 C
     rw[hget i0 (A i0 (Mq i0 C)).2,t]at y
     cases y
  rw[show m+1+r=(m+r)+1 by omega]
  refine⟨fun L=>?_,fun i hi=>?_⟩
  ·obtain⟨j,hj⟩:=KZ i0 C
   rw[L]at hj
   cases hj
  ·have Dv:=hin i hi
   have F6:=Mq i Dv
   obtain⟨_,o',ho',hall⟩:=mem_ready.1 hi
   obtain⟨o,d,ho,hk,hg,hd,hdd,_⟩:=(hop i F6).2.1
   rw[ho]at ho'
   injection ho' with ho'
   subst ho'
   have hnot:∀j∈dep i,j∈U/\j∉D:=fun j hj=>by
    have l:=(hop i F6).2.2 j hj
    refine⟨l.1,fun Jj=>?_⟩
    have t:=hcl.dep l.2 (fun oj hoj=>by rw[ho]at hoj;injection hoj with hoj;subst hoj;exact hall)
    have y:=hun j Jj
    rw[hget j (A j l.1).2,t]at y
    cases y
   have hef:=hstep i F6 o ho f w hI.le (fun j hj=>hI.phi j (hnot j hj).1 (hnot j hj).2) a (uS hI.rep f (dep i) (fun j hj=>hI.slot j (hnot j hj).1 (hnot j hj).2))
   simp only[List.all_eq_true,Bool.and_eq_true,Option.isNone_iff_eq_none,Nat.blt_eq]at BS
   unfold wpOp
   simp only[ho]
   rw[if_pos (by unfold Region.wanted;rw[hg])]
   left
   refine Oper.Dr (Oper.wp_mono (fun a' w' hh=>?_) hef)
   obtain⟨v,rfl,hle,K3,wP⟩:=hh
   have hne:∀j,j∈D.erase i↔j≠i/\j∈D:=fun j=>List.Nodup.mem_erase_iff hDn
   have hjd:∀j∈U,j∉D.erase i->j≠i->j∉D:=fun j _ l c t=>l ((hne j).2 ⟨c,t⟩)
   refine⟨?_,ih (D.erase i) (listed.setIfInBounds i true) (fun j=>if j=i then v else f j) _ w' ?_ (hDn.erase i) (fun j hj=>Mq j ((hne j).1 hj).2) (by rw[Array.size_setIfInBounds,hlz]) ?_ (hcl.set hi) ?_⟩
   ·unfold Ob
    split
    ·exact fun _=>hI.le.trans hle
    ·rename_i x
     exact absurd (by unfold k2;rw[ho];simpa using hk) x
   ·rw[List.length_erase_of_mem Dv,hD]
    rfl
   ·intro k
    by_cases hik:i=k
    ·subst hik
     have hlt:=(A i F6).2
     rw[Array.getD_eq_getD_getElem?,Array.getElem?_setIfInBounds_self_of_lt (by omega)]
     have l:(D.erase i).contains i=false:=by
      have:i∉D.erase i:=fun h=>((hne i).1 h).1 Z
      simpa using this
     rw[l]
     simp[F6,hlt]
    ·rw[getD_set_ne false hik,hl k]
     have l:(D.erase i).contains k=D.contains k:=by
      rw[Bool.eq_iff_iff]
      simp only[List.contains_iff_mem,hne]
      exact⟨fun h=>h.2,fun h=>⟨fun c=>hik c.symm,h⟩⟩
     rw[l]
   ·have hdn:look env d=none/\d<n:=by rw[<-hdd];exact BS i F6
    rw[hd]
    have hother:∀j∈U,j≠i->kL ops j≠d:=fun j hj hji h=>hji (hinj j hj i F6 (by rw[h,hdd]))
    have hput:∀s,s≠d->(a.put (some d) v).tmps[s]? =a.tmps[s]? :=fun s hsd=>by
     simp[Act.put,Array.getElem?_setIfInBounds_ne (Ne.symm hsd)]
    have hsame:(a.put (some d) v).tmps[d]? =some v:=by
     have:=hI.rep.2.1
     simp[Act.put,this,hdn.2]
    refine⟨⟨hI.rep.1,by simp[Act.put,hI.rep.2.1],fun s u hsu=>?_⟩,fun j hj Jj=>?_,hI.le.trans hle,fun j hj Jj=>?_,fun j hj Jj k hk'=>?_,fun j hj Jj q hq hqD hjq k B x=>?_⟩
    ·by_cases hsd:s=d
     ·subst hsd
      rw[hdn.1]at hsu
      cases hsu
     ·rw[hput s hsd]
      exact hI.rep.2.2 s u hsu
    ·by_cases hji:j=i
     ·subst hji
      rw[if_pos Z,hdd]
      exact hsame
     ·rw[if_neg hji,hput _ (hother j hj hji)]
      exact hI.slot j hj (hjd j hj Jj hji)
    ·by_cases hji:j=i
     ·subst hji
      rw[if_pos Z]
      exact K3
     ·rw[if_neg hji]
      exact hst j hj _ _ _ (hI.phi j hj (hjd j hj Jj hji)) hle
    ·by_cases hji:j=i
     ·subst hji
      rw[if_pos Z]at hk'
      have:=wP k hk'
      have:=hI.le.size
      omega
     ·rw[if_neg hji]at hk'
      have:=hI.foot j hj (hjd j hj Jj hji) k hk'
      have:=hle.size
      omega
    ·by_cases hji:j=i
     ·subst hji
      rw[if_pos Z]at B
      rw[if_neg (Ne.symm hjq)]at x
      have l:=wP k B
      have c:=hI.foot q hq (hjd q hq hqD (Ne.symm hjq)) k x
      omega
     ·rw[if_neg hji]at B
      by_cases hqi:q=i
      ·subst hqi
       rw[if_pos Z]at x
       have l:=wP k x
       have c:=hI.foot j hj (hjd j hj Jj hji) k B
       omega
      ·rw[if_neg hqi]at x
       exact hI.apart j hj (hjd j hj Jj hji) q hq (hjd q hq hqD hqi) hjq k B x
def MX (ops:Array Oper):List Nat->Array Bool->Bool
 |[],_=>true
 |i::rest,listed=> !k2 ops i&&(Region.ready .any ops listed).contains i&&Region.free .any ops listed i&&MX ops rest (listed.setIfInBounds i true)
variable {w:World}
theorem Bg {K:Act->World->Prop}{r:Nat}(hs:Region.noSelect ops=true)(hK:∀a,K a w->Cl ops l1->l9 P ops (pQ Q) (Le w) r l1 a w):∀(L:List Nat) (listed:Array Bool) (a:Act),
  Cl ops listed->MX ops L listed=true->l1=nH listed L->Z5 P ops (fun _ a w=>K a w) L a w->l9 P ops (pQ Q) (Le w) (L.length+r) listed a w
 |[],listed,a,hcl,_,hl,h=>by
  rw[show l1=listed from hl]at hK
  rw[List.length_nil,Nat.zero_add]
  exact hK a h hcl
 |i::rest,listed,a,hcl,hp,hl,h=>by
  obtain⟨o,ho,h⟩:=h
  simp only[MX,Bool.and_eq_true,Bool.not_eq_true']at hp
  obtain⟨⟨⟨c,d⟩,e⟩,f⟩:=hp
  have hk:¬kd o.op=2:=by unfold k2 at c;rw[ho]at c;simpa using c
  rw[if_neg hk]at h
  obtain⟨v,hy,h⟩:=h
  rw[List.length_cons,show rest.length+1+r=rest.length+r+1 by omega]
  exact oC ho (Region.noSelect_spec hs) (fun _ _ _ hf=>by cases hf.1) hk _ listed a w hcl (Region.free_spec ho e) (by simpa using d) hy (fun _=>Le.refl w) (Bg hs hK rest _ _ (hcl.set (by simpa using d)) f hl h)
def aeQ (P:Program)(ops:Array Oper)(Q:Exit->Act->World->Prop)(n:Nat)(U R:List Nat)(dep:Nat->List Nat)(env:Env)(w:World):Prop:=
 (U.all fun i=>(look env (kL ops i)).isNone&&Nat.blt (kL ops i) n)=true/\∃Φ:Nat->Value->World->Prop,(∀i∈U,∀v w w',Φ i v w->Le w w'->Φ i v w')/\(∀i∈U,Step P ops dep Φ env n w i)/\
  ∀(f:Nat->Value) (w':World),Le w w'->(∀i∈U,Φ i (f i) w')->(∀i∈U,∀k,uR (f i) k->w.heap.size<=k/\k<w'.heap.size)->(∀i∈U,∀j∈U,i≠j->∀k,uR (f i) k->¬uR (f j) k)->G P ops Q n R (U.map (fun i=>(kL ops i,f i))++env) w'
theorem E.free {R:List Nat}{dep:Nat->List Nat}(h:aeQ P ops Q n U R dep env w):E (fun _ a w=>∃env,sM a n env/\aeQ P ops Q n U R dep env w) n .normal env w:=fun _ ha=>⟨env,ha,h⟩
end
section
variable {P:Program}{ops:Array Oper}{Q:Exit->Act->World->Prop}{n:Nat}
def aeR (P:Program)(ops:Array Oper)(dep:Nat->List Nat)(Φ:Nat->Value->World->Prop)(env:Env)(n:Nat)(w0:World)(i:Nat):Prop:=
 ∀o,ops[i]? =some o->∀(f:Nat->Value) (w:World),Le w0 w->(∀j∈dep i,Φ j (f j) w)->∃v,(∀a,sM a n ((dep i).map (fun j=>(kL ops j,f j))++env)->∀w',(execOp a.eval o).run P w'= .ok (.value v) w')/\Φ i v w/\∀k,¬uR v k
def MZ (P:Program)(ops:Array Oper)(dep:Nat->List Nat)(Φ:Nat->Value->World->Prop)(env:Env)(n:Nat)(w0:World)(i:Nat):Prop:=
 (k2 ops i=true/\Step P ops dep Φ env n w0 i)\/(k2 ops i=false/\aeR P ops dep Φ env n w0 i)
variable {Φ:Nat->Value->World->Prop}{env:Env}{w0:World}
theorem MZ.aeS {dep:Nat->List Nat}{i j k d e:Nat}{o:Oper}(hk:k2 ops i=false)(hd:dep i=[j,k])(hj:kL ops j=d)(hke:kL ops k=e)(ho:ops[i]? =some o)
  (h:∀u u2 w,Le w0 w->Φ j u w->Φ k u2 w->∃v,Any P ((d,u)::(e,u2)::env) n o v/\Φ i v w/\∀k,¬uR v k):MZ P ops dep Φ env n w0 i:= .inr ⟨hk,fun o' ho' f w hle hp=>by
 rw[ho]at ho'
 injection ho' with ho'
 subst ho'
 rw[hd]at hp ⊢
 subst hj hke
 exact h (f j) (f k) w hle (hp j (by simp)) (hp k (by simp))⟩
def Q5 (ops:Array Oper)(U:List Nat)(dep:Nat->List Nat)(l1:Array Bool)(i:Nat):Bool:=
 !l1.getD i true&&(match ops[i]? with
  |some o=>(kd o.op==2||(kd o.op==0&&Region.free .any ops (nH l1 (U.filter fun j=>((reach ops).getD i 0).testBit j)) i))&&o.guard.isNone&&o.dst.isSome&&o.after.toList.all (fun e=> !Region.binds .any e||l1.getD e.on false||(U.contains e.on&&Nat.blt e.on i))
  |none=>false)&&(dep i).all fun j=>U.contains j&&((reach ops).getD i 0).testBit j
def K4 (ops:Array Oper)(U:List Nat)(dep:Nat->List Nat)(l1:Array Bool):Bool:=
 U.all (Q5 ops U dep l1)&&decide (U.map (kL ops)).Nodup&&(List.range ops.size).all fun k=>l1.getD k true||U.contains k||U.all fun i=> !k2 ops i||((reach ops).getD k 0).testBit i
variable {U R:List Nat}
theorem PG {dep:Nat->List Nat}{l1:Array Bool}(hs:Region.noSelect ops=true)(hsz:l1.size=ops.size)
  (hB:K4 ops U dep l1=true)(hR:GN ops R (nH l1 U)=true)(BS:(U.all fun i=>(look env (kL ops i)).isNone&&Nat.blt (kL ops i) n)=true)
  (hst:∀i∈U,∀v w w',Φ i v w->Le w w'->Φ i v w')(hstep:∀i∈U,MZ P ops dep Φ env n w0 i)
  (hfin:∀(f:Nat->Value) (w:World),Le w0 w->(∀i∈U,Φ i (f i) w)->(∀i∈U,∀k,uR (f i) k->w0.heap.size<=k/\k<w.heap.size)->(∀i∈U,∀j∈U,i≠j->∀k,uR (f i) k->¬uR (f j) k)->G P ops Q n R (U.map (fun i=>(kL ops i,f i))++env) w):
  ∀(m:Nat) (D:List Nat) (listed:Array Bool) (f:Nat->Value) (a:Act) (w:World),D.length=m->D.Nodup->(∀i∈D,i∈U)->listed.size=ops.size->
   (∀k,listed.getD k false=(l1.getD k false||(U.contains k&& !D.contains k&&decide (k<ops.size))))->Cl ops listed->aeP U D Φ env n w0 f ops a w->l9 P ops (pQ Q) (Le w0) (m+R.length) listed a w:=by
 simp only[K4,Bool.and_eq_true,List.all_eq_true,decide_eq_true_eq,List.mem_range]at hB
 obtain⟨⟨hU,hnd⟩,hrest⟩:=hB
 have hop:∀i∈U,l1.getD i true=false/\(∃o d,ops[i]? =some o/\(kd o.op=2\/(kd o.op=0/\Region.free .any ops (nH l1 (U.filter fun j=>((reach ops).getD i 0).testBit j)) i=true))/\o.guard=none/\o.dst=some d/\kL ops i=d/\(∀e∈o.after,Region.binds .any e=true->l1.getD e.on false=true\/(e.on∈U/\e.on<i)))/\∀j∈dep i,j∈U/\Pp ops i j:=by
  intro i hi
  have h:=hU i hi
  simp only[Q5,Bool.and_eq_true,Bool.not_eq_true',List.all_eq_true]at h
  obtain⟨⟨c,l⟩,t⟩:=h
  refine⟨c,?_,fun j hj=>⟨by simpa using(t j hj).1,pM ops i j (t j hj).2⟩⟩
  cases ho:ops[i]? with
  |none=>rw[ho]at l;cases l
  |some o=>
   rw[ho]at l
   simp only[Bool.and_eq_true,Bool.or_eq_true,beq_iff_eq,Option.isNone_iff_eq_none,List.all_eq_true]at l
   obtain⟨⟨⟨y,I⟩,C⟩,N⟩:=l
   obtain⟨d,hd⟩:=Option.isSome_iff_exists.1 C
   refine⟨o,d,rfl,y,I,hd,by unfold kL;rw[ho];simp[hd],fun e he hb=>?_⟩
   have:=N e (by simpa using he)
   simp only[Bool.or_eq_true,Bool.not_eq_true',Bool.and_eq_true,hb]at this
   rcases this with(h|h)|h
   ·cases h
   ·exact .inl h
   ·exact .inr ⟨by simpa using h.1,by simpa[Nat.blt_eq]using h.2⟩
 have hinj:∀i∈U,∀j∈U,kL ops i=kL ops j->i=j:=by
  intro i hi j hj h
  obtain⟨p,hp,rfl⟩:=List.getElem_of_mem hi
  obtain⟨q,hq,rfl⟩:=List.getElem_of_mem hj
  have hw:=List.pairwise_iff_getElem.1 hnd
  rcases Nat.lt_trichotomy p q with hpq|hpq|hpq
  ·exact absurd (by rw[List.getElem_map,List.getElem_map];exact h) (hw p q (by simpa using hp) (by simpa using hq) hpq)
  ·subst hpq
   rfl
  ·exact absurd (by rw[List.getElem_map,List.getElem_map];exact h.symm) (hw q p (by simpa using hq) (by simpa using hp) hpq)
 intro m
 induction m with
 |zero=>
  intro D listed f a w hD _ _ hlz hl hcl hI
  have O:D=[]:=List.length_eq_zero_iff.1 hD
  subst O
  have hle:listed=nH l1 U:=by
   refine Array.ext (by rw[rA,hlz,hsz]) fun k c l=>?_
   have:=hl k
   have t:=xL U l1 k
   rw[Array.getD_eq_getD_getElem?,Array.getElem?_eq_getElem c]at this
   rw[Array.getD_eq_getD_getElem?,Array.getElem?_eq_getElem l]at t
   simp only[Option.getD_some,List.contains_nil,Bool.not_false,Bool.and_true]at this t
   rw[this,t,hsz]
  subst hle
  have hg:=hfin f w hI.le (fun i hi=>hI.phi i hi (by simp)) (fun i hi=>hI.foot i hi (by simp)) (fun i hi j hj=>hI.apart i hi (by simp) j hj (by simp)) a (uS hI.rep f U (fun i hi=>hI.slot i hi (by simp)))
  rw[Nat.zero_add]
  exact vI (fun _ hw=>hI.le.trans hw) _ _ _ _ (JA hs R _ a w hcl hR hg)
 |succ m ih=>
  intro D listed f a w hD hDn Mq hlz hl hcl hI
  have hget:∀k,k<ops.size->listed.getD k true=listed.getD k false:=fun k hk=>by
   rw[Array.getD_eq_getD_getElem?,Array.getD_eq_getD_getElem?,Array.getElem?_eq_getElem (by omega)]
   rfl
  have A:∀i∈U,l1.getD i false=false/\i<ops.size:=fun i hi=>by
   have h:=(hop i hi).1
   have hlt:i<ops.size:=by
    obtain⟨o,_,ho,_⟩:=(hop i hi).2.1
    exact wK ho
   refine⟨?_,hlt⟩
   rw[Array.getD_eq_getD_getElem?,Array.getElem?_eq_getElem (by omega)]at h ⊢
   exact h
  have hun:∀i∈D,listed.getD i true=false:=fun i hi=>by
   rw[hget i (A i (Mq i hi)).2,hl i,(A i (Mq i hi)).1]
   have:D.contains i=true:=by simpa using hi
   rw[this]
   simp
  have KZ:∀i,i∈D->∃j,j∈D/\j∈Region.ready .any ops listed:=by
   intro i
   induction i using Nat.strongRecOn with
   |_ i ihi=>
    intro hi
    obtain⟨o,d,ho,_,_,_,_,haf⟩:=(hop i (Mq i hi)).2.1
    by_cases hall:∀e∈o.after,Region.binds .any e=true->listed.getD e.on false=true
    ·exact⟨i,hi,mem_ready.2 ⟨hun i hi,o,ho,hall⟩⟩
    ·obtain⟨e,c⟩:=Classical.not_forall.1 hall
     obtain⟨he,l⟩:=Classical.not_forall.1 c
     obtain⟨hb,hne⟩:=Classical.not_forall.1 l
     rcases haf e he hb with h|⟨c,l⟩
     ·exact absurd (by rw[hl,h];rfl) hne
     ·refine ihi e.on l ?_
      apply Classical.byContradiction
      intro hd
      refine hne ?_
      rw[hl]
      have:D.contains e.on=false:=by simpa using hd
      rw[this]
      simp[c,(A _ c).2]
  have hnot:∀i∈D,i∈Region.ready .any ops listed->∀j∈dep i,j∈U/\j∉D:=fun i Dv hi j hj=>by
   obtain⟨_,o,ho,hall⟩:=mem_ready.1 hi
   have c:=(hop i (Mq i Dv)).2.2 j hj
   refine⟨c.1,fun Jj=>?_⟩
   have t:=hcl.dep c.2 (fun oj hoj=>by rw[ho]at hoj;injection hoj with hoj;subst hoj;exact hall)
   have y:=hun j Jj
   rw[hget j (A j c.1).2,t]at y
   cases y
  simp only[List.all_eq_true,Bool.and_eq_true,Option.isNone_iff_eq_none,Nat.blt_eq]at BS
  have hnext:∀i,i∈D->i∈Region.ready .any ops listed->∀o d,ops[i]? =some o->o.dst=some d->kL ops i=d->∀v w',Le w w'->Φ i v w'->(∀k,uR v k->w.heap.size<=k/\k<w'.heap.size)->l9 P ops (pQ Q) (Le w0) (m+R.length) (listed.setIfInBounds i true) (a.put (some d) v) w':=by
   intro i Dv hi o d ho hd hdd v w' hle K3 wP
   have F6:=Mq i Dv
   have hne:∀j,j∈D.erase i↔j≠i/\j∈D:=fun j=>List.Nodup.mem_erase_iff hDn
   have hjd:∀j∈U,j∉D.erase i->j≠i->j∉D:=fun j _ c l t=>c ((hne j).2 ⟨l,t⟩)
   refine ih (D.erase i) (listed.setIfInBounds i true) (fun j=>if j=i then v else f j) _ w' ?_ (hDn.erase i) (fun j hj=>Mq j ((hne j).1 hj).2) (by rw[Array.size_setIfInBounds,hlz]) ?_ (hcl.set hi) ?_
   ·rw[List.length_erase_of_mem Dv,hD]
    rfl
   ·intro k
    by_cases hik:i=k
    ·subst hik
     have hlt:=(A i F6).2
     rw[Array.getD_eq_getD_getElem?,Array.getElem?_setIfInBounds_self_of_lt (by omega)]
     have c:(D.erase i).contains i=false:=by
      have:i∉D.erase i:=fun h=>((hne i).1 h).1 Z
      simpa using this
     rw[c]
     simp[F6,hlt]
    ·rw[getD_set_ne false hik,hl k]
     have c:(D.erase i).contains k=D.contains k:=by
      rw[Bool.eq_iff_iff]
      simp only[List.contains_iff_mem,hne]
      exact⟨fun h=>h.2,fun h=>⟨fun l=>hik l.symm,h⟩⟩
     rw[c]
   ·have hdn:look env d=none/\d<n:=by rw[<-hdd];exact BS i F6
    have hother:∀j∈U,j≠i->kL ops j≠d:=fun j hj hji h=>hji (hinj j hj i F6 (by rw[h,hdd]))
    have hput:∀s,s≠d->(a.put (some d) v).tmps[s]? =a.tmps[s]? :=fun s hsd=>by
     simp[Act.put,Array.getElem?_setIfInBounds_ne (Ne.symm hsd)]
    have hsame:(a.put (some d) v).tmps[d]? =some v:=by
     have:=hI.rep.2.1
     simp[Act.put,this,hdn.2]
    refine⟨⟨hI.rep.1,by simp[Act.put,hI.rep.2.1],fun s u hsu=>?_⟩,fun j hj Jj=>?_,hI.le.trans hle,fun j hj Jj=>?_,fun j hj Jj k hk'=>?_,fun j hj Jj q hq hqD hjq k B x=>?_⟩
    ·by_cases hsd:s=d
     ·subst hsd
      rw[hdn.1]at hsu
      cases hsu
     ·rw[hput s hsd]
      exact hI.rep.2.2 s u hsu
    ·by_cases hji:j=i
     ·subst hji
      rw[if_pos Z,hdd]
      exact hsame
     ·rw[if_neg hji,hput _ (hother j hj hji)]
      exact hI.slot j hj (hjd j hj Jj hji)
    ·by_cases hji:j=i
     ·subst hji
      rw[if_pos Z]
      exact K3
     ·rw[if_neg hji]
      exact hst j hj _ _ _ (hI.phi j hj (hjd j hj Jj hji)) hle
    ·by_cases hji:j=i
     ·subst hji
      rw[if_pos Z]at hk'
      have:=wP k hk'
      have:=hI.le.size
      omega
     ·rw[if_neg hji]at hk'
      have:=hI.foot j hj (hjd j hj Jj hji) k hk'
      have:=hle.size
      omega
    ·by_cases hji:j=i
     ·subst hji
      rw[if_pos Z]at B
      rw[if_neg (Ne.symm hjq)]at x
      have c:=wP k B
      have l:=hI.foot q hq (hjd q hq hqD (Ne.symm hjq)) k x
      omega
     ·rw[if_neg hji]at B
      by_cases hqi:q=i
      ·subst hqi
       rw[if_pos Z]at x
       have c:=wP k x
       have l:=hI.foot j hj (hjd j hj Jj hji) k B
       omega
      ·rw[if_neg hqi]at x
       exact hI.apart j hj (hjd j hj Jj hji) q hq (hjd q hq hqD hqi) hjq k B x
  rw[show m+1+R.length=(m+R.length)+1 by omega]
  by_cases hact:∃i,i∈D/\k2 ops i=true
  ·obtain⟨i0,F,K⟩:=hact
   have hin:∀i∈Region.ready .any ops listed,i∈D:=by
    intro i hi
    obtain⟨hu,o,ho,hall⟩:=mem_ready.1 hi
    have hlt:=wK ho
    rw[hget i hlt,hl i,Bool.or_eq_false_iff]at hu
    by_cases F6:i∈U
    ·apply Classical.byContradiction
     intro hd
     have:D.contains i=false:=by simpa using hd
     rw[this]at hu
     simp[F6,hlt]at hu
    ·exfalso
     have h:=hrest i hlt
     simp only[Bool.or_eq_true,List.all_eq_true,Bool.not_eq_true']at h
     rcases h with(h|h)|h
     ·rw[Array.getD_eq_getD_getElem?,Array.getElem?_eq_getElem (by omega)]at h
      have l:=hu.1
      rw[Array.getD_eq_getD_getElem?,Array.getElem?_eq_getElem (by omega)]at l
      simp only[Option.getD_some]at h l
      rw[h]at l
      cases l
     ·exact F6 (by simpa using h)
     ·have t:=hcl.dep (pM ops i i0 ((h i0 (Mq i0 F)).resolve_left (by rw[K];decide))) (fun oj hoj=>by rw[ho]at hoj;injection hoj with hoj;subst hoj;exact hall)
      have y:=hun i0 F
      rw[hget i0 (A i0 (Mq i0 F)).2,t]at y
      cases y
   refine⟨fun S=>?_,fun i hi=>?_⟩
   ·obtain⟨j,_,hj⟩:=KZ i0 F
    rw[S]at hj
    cases hj
   ·have Dv:=hin i hi
    have F6:=Mq i Dv
    obtain⟨o,d,ho,hk,hg,hd,hdd,_⟩:=(hop i F6).2.1
    rcases hstep i F6 with⟨x,V⟩|⟨x,L⟩
    ·have hef:=V o ho f w hI.le (fun j hj=>hI.phi j (hnot i Dv hi j hj).1 (hnot i Dv hi j hj).2) a (uS hI.rep f (dep i) (fun j hj=>hI.slot j (hnot i Dv hi j hj).1 (hnot i Dv hi j hj).2))
     unfold wpOp
     simp only[ho]
     rw[if_pos (by unfold Region.wanted;rw[hg])]
     left
     refine Oper.Dr (Oper.wp_mono (fun a' w' hh=>?_) hef)
     obtain⟨v,rfl,hle,K3,wP⟩:=hh
     rw[hd]
     refine⟨?_,hnext i Dv hi o d ho hd hdd v w' hle K3 wP⟩
     unfold Ob
     rw[if_pos x]
     exact fun _=>hI.le.trans hle
    ·obtain⟨v,hy,K3,wP⟩:=L o ho f w hI.le (fun j hj=>hI.phi j (hnot i Dv hi j hj).1 (hnot i Dv hi j hj).2)
     have hef:Ef P ((dep i).map (fun j=>(kL ops j,f j))++env) n o w (fun v' w'=>v'=v/\w'=w):=Ef.of_run (fun a' ha'=>hy a' ha' w) ⟨rfl,rfl⟩
     have hef:=hef a (uS hI.rep f (dep i) (fun j hj=>hI.slot j (hnot i Dv hi j hj).1 (hnot i Dv hi j hj).2))
     unfold wpOp
     simp only[ho]
     rw[if_pos (by unfold Region.wanted;rw[hg])]
     left
     refine Oper.Dr (Oper.wp_mono (fun a' w' hh=>?_) hef)
     obtain⟨v',rfl,hv,hw⟩:=hh
     subst hv
     subst hw
     rw[hd]
     refine⟨?_,hnext i Dv hi o d ho hd hdd _ _ (Le.refl _) K3 (fun k hk=>absurd hk (wP k))⟩
     unfold Ob
     rw[if_neg (by rw[x];decide)]
  ·obtain⟨i1,X⟩:∃i,i∈D:=by
    cases D with
    |nil=>simp at hD
    |cons i D=>exact⟨i,List.mem_cons_self⟩
   obtain⟨i,Dv,hi⟩:=KZ i1 X
   have F6:=Mq i Dv
   obtain⟨o,d,ho,hk,hg,hd,hdd,_⟩:=(hop i F6).2.1
   rcases hstep i F6 with⟨x,_⟩|⟨x,L⟩
   ·exact absurd ⟨i,Dv,x⟩ hact
   ·have hkn:¬kd o.op=2:=by unfold k2 at x;rw[ho]at x;simpa using x
    obtain⟨K,hfree⟩:=hk.resolve_left hkn
    obtain⟨v,hy,K3,wP⟩:=L o ho f w hI.le (fun j hj=>hI.phi j (hnot i Dv hi j hj).1 (hnot i Dv hi j hj).2)
    have hrep:=uS hI.rep f (dep i) (fun j hj=>hI.slot j (hnot i Dv hi j hj).1 (hnot i Dv hi j hj).2)
    refine oC (v:=v) ho (Region.noSelect_spec hs) (fun _ _ _ hf=>by cases hf.1) hkn _ listed a w hcl (fun j oj hj hne hun' hno=>Region.free_spec ho hfree j oj hj hne ?_ hno) hi (.inl ⟨by unfold Region.wanted;rw[hg],fun w' _=>hy a hrep w'⟩) (fun c=>absurd (K.symm.trans c) (by decide)) ?_
    ·have hlt:=wK hj
     have c:=hl j
     rw[<-hget j hlt,hun']at c
     have l:=(Bool.or_eq_false_iff.1 c.symm).1
     have t:=xL (U.filter fun j=>((reach ops).getD i 0).testBit j) l1 j
     have I:(U.filter fun j=>((reach ops).getD i 0).testBit j).contains j=false:=by
      rw[Bool.eq_false_iff]
      intro hc
      have hm:j∈U.filter fun j=>((reach ops).getD i 0).testBit j:=by simpa using hc
      have hr:=(List.mem_filter.1 hm).2
      obtain⟨_,o2,Y,aa⟩:=mem_ready.1 hi
      have C:=hcl.dep (pM ops i j hr) (fun ac H=>by rw[Y]at H;injection H with H;subst H;exact aa)
      rw[<-hget j hlt,hun']at C
      cases C
     rw[l,I,Bool.false_and,Bool.or_false]at t
     rw[Array.getD_eq_getD_getElem?,Array.getElem?_eq_getElem (by rw[rA];omega)]at t ⊢
     exact t
    ·rw[hd]
     exact hnext i Dv hi o d ho hd hdd v w (Le.refl _) K3 (fun k hk=>absurd hk (wP k))
def ab5 (ops:Array Oper)(P0 U R:List Nat)(dep:Nat->List Nat):Bool:=
 P0.length+(U.length+R.length)==ops.size&&Region.noSelect ops&&MX ops P0 (Array.replicate ops.size false)&&K4 ops U dep (nH (Array.replicate ops.size false) P0)&&GN ops R (nH (nH (Array.replicate ops.size false) P0) U)
def Q6 (P:Program)(ops:Array Oper)(Q:Exit->Act->World->Prop)(n:Nat)(U R:List Nat)(dep:Nat->List Nat)(env:Env)(w:World):Prop:=
 (U.all fun i=>(look env (kL ops i)).isNone&&Nat.blt (kL ops i) n)=true/\∃Φ:Nat->Value->World->Prop,(∀i∈U,∀v w w',Φ i v w->Le w w'->Φ i v w')/\(∀i∈U,MZ P ops dep Φ env n w i)/\
  ∀(f:Nat->Value) (w':World),Le w w'->(∀i∈U,Φ i (f i) w')->(∀i∈U,∀k,uR (f i) k->w.heap.size<=k/\k<w'.heap.size)->(∀i∈U,∀j∈U,i≠j->∀k,uR (f i) k->¬uR (f j) k)->G P ops Q n R (U.map (fun i=>(kL ops i,f i))++env) w'
variable {w:World}
theorem E.aeT {dep:Nat->List Nat}(h:Q6 P ops Q n U R dep env w):E (fun _ a w=>∃env,sM a n env/\Q6 P ops Q n U R dep env w) n .normal env w:=fun _ ha=>⟨env,ha,h⟩
theorem WC.aeU {id:Nat}(P0 U R:List Nat)(dep:Nat->List Nat)(hm:P.follows .mixedOrders=true)(hp:ab5 ops P0 U R dep=true)
  (h:∀w',Le w w'->G P ops (fun _ a w=>∃env,sM a n env/\Q6 P ops Q n U R dep env w) n P0 env w'):WC P Q n (.region id ops true) env w:=fun a ha=>by
 simp only[ab5,Bool.and_eq_true,beq_iff_eq]at hp
 obtain⟨⟨⟨⟨hl,hs⟩,c⟩,hpU⟩,hpR⟩:=hp
 have hn:U.Nodup:=by
  simp only[K4,Bool.and_eq_true,decide_eq_true_eq]at hpU
  exact List.Pairwise.of_map (kL ops) (fun a b h e=>h (by rw[e])) hpU.1.2
 have hz:(nH (Array.replicate ops.size false) P0).size=ops.size:=by rw[rA];simp
 have:=Bg (Q:=Q) (r:=U.length+R.length) (w:={w with drawn:=w.drawn+1}) (K:=fun a w=>∃env,sM a n env/\Q6 P ops Q n U R dep env w) hs (fun a' ⟨env',hr,BS,Φ,d,f,j⟩ hcl=>by
  refine PG hs hz hpU hpR BS d f j U.length U _ (fun _=>undef) a' _ Z hn (fun i hi=>hi) hz (fun k=>?_) hcl ⟨hr,fun i hi hd=>absurd hi hd,Le.refl _,fun i hi hd=>absurd hi hd,fun i hi hd=>absurd hi hd,fun i hi hd=>absurd hi hd⟩
  cases U.contains k<;>simp) P0 _ a (Cl.none _) c Z (h _ (Le.drew w) a ha)
 rw[hl]at this
 refine wp_mono (wp_region_any hm (pO _ _ _ _ this)) ?_
 rintro e a w ⟨rfl,hq⟩
 exact hq
end
section
variable {P:Program}{ops:Array Oper}{Q:Exit->Act->World->Prop}{n:Nat}{S:World->Prop}
def Dw (P:Program)(ops:Array Oper)(Q:Exit->Act->World->Prop)(S:World->Prop):Tr->Act->World->Prop
 | .nil,a,w=>Q .normal a w
 | .op _ i t,a,w=>∃o,ops[i]? =some o/\
  if kd o.op=2 then wpOp P ops Z4 i (fun a' w'=>S w'/\Dw P ops Q S t a' w') a w
  else∃v,YieldsIf P ops (fun w'=>kd o.op=1->S w') o v a/\Dw P ops Q S t (a.put o.dst v) w
 | .br t u,a,w=>Dw P ops Q S t a w/\Dw P ops Q S u a w
def uf (ops:Array Oper):Tr->Array Bool->Bool
 | .nil,listed=>(Region.ready .any ops listed).isEmpty
 | .op _ i t,listed=>(if k2 ops i then(Region.ready .any ops listed==[i])else(Region.ready .any ops listed).contains i&&Region.free .any ops listed i)&&uf ops t (listed.setIfInBounds i true)
 | .br (.op _ i t) (.op _ j u),listed=>Region.ready .any ops listed==[i,j]&&k2 ops i&&k2 ops j&&t.size==u.size&&uf ops t (listed.setIfInBounds i true)&&uf ops u (listed.setIfInBounds j true)
 | .br _ _,_=>false
variable {t:Tr}{w:World}
theorem PH {b:Bool}{i:Nat}{listed:Array Bool}{a:Act}(ih:∀a' w',S w'->Dw P ops Q S t a' w'->l9 P ops (pQ Q) S t.size (listed.setIfInBounds i true) a' w')
  (hk2:k2 ops i=true)(h:Dw P ops Q S (.op b i t) a w):
  wpOp P ops (pQ Q) i (fun a' w'=>Ob ops S i w w'/\l9 P ops (pQ Q) S t.size (listed.setIfInBounds i true) a' w') a w:=by
 obtain⟨o,ho,h⟩:=h
 have hk:kd o.op=2:=by unfold k2 at hk2;rw[ho]at hk2;simpa using hk2
 rw[if_pos hk]at h
 refine wpOp_mono (fun a' w' h'=>⟨?_,ih a' w' h'.1 h'.2⟩) (wL h)
 unfold Ob
 rw[if_pos hk2]
 exact fun _=>h'.1
theorem BU (hs:Region.noSelect ops=true):∀(t:Tr) (listed:Array Bool) (a:Act) (w:World),
  S w->Cl ops listed->uf ops t listed=true->Dw P ops Q S t a w->l9 P ops (pQ Q) S t.size listed a w
 | .nil,listed,a,w,_,_,hp,h=>⟨by simpa[uf]using hp,rfl,h⟩
 | .op b i t,listed,a,w,hS,hcl,hp,h=>by
  simp only[uf,Bool.and_eq_true]at hp
  obtain⟨hp1,hp2⟩:=hp
  by_cases d:k2 ops i=true
  ·rw[if_pos d,beq_iff_eq]at hp1
   refine⟨fun e=>(by rw[hp1]at e;cases e),fun j hj=>?_⟩
   rw[hp1]at hj
   obtain rfl:j=i:=by simpa using hj
   exact PH (fun a' w' hs' h'=>BU hs t _ a' w' hs' (hcl.set (by rw[hp1];simp)) hp2 h') d h
  ·rw[if_neg d]at hp1
   simp only[Bool.and_eq_true]at hp1
   obtain⟨o,ho,h⟩:=h
   have hk:¬kd o.op=2:=by unfold k2 at d;rw[ho]at d;simpa using d
   rw[if_neg hk]at h
   obtain⟨v,hy,h⟩:=h
   have hi:i∈Region.ready .any ops listed:=by simpa using hp1.1
   exact oC ho (Region.noSelect_spec hs) (fun _ _ _ hf=>by cases hf.1) hk _ listed a w hcl (Region.free_spec ho hp1.2) hi hy (fun _=>hS) (BU hs t _ _ _ hS (hcl.set hi) hp2 h)
 | .br (.op b i t) (.op c j u),listed,a,w,hS,hcl,hp,h=>by
  simp only[uf,Bool.and_eq_true,beq_iff_eq]at hp
  obtain⟨⟨⟨⟨⟨hr,f⟩,l⟩,hsz⟩,hp1⟩,hp2⟩:=hp
  refine⟨fun e=>(by rw[hr]at e;cases e),fun k hk=>?_⟩
  rw[hr]at hk
  simp only[List.mem_cons,List.not_mem_nil,or_false]at hk
  rcases hk with rfl|rfl
  ·exact PH (fun a' w' hs' h'=>BU hs t _ a' w' hs' (hcl.set (by rw[hr];simp)) hp1 h') f h.1
  ·show wpOp P ops (pQ Q) k (fun a' w'=>Ob ops S k w w'/\l9 P ops (pQ Q) S t.size (listed.setIfInBounds k true) a' w') a w
   rw[hsz]
   exact PH (fun a' w' hs' h'=>BU hs u _ a' w' hs' (hcl.set (by rw[hr];simp)) hp2 h') l h.2
 | .br .nil _,_,_,_,_,_,hp,_=>by simp[uf]at hp
 | .br (.br _ _) _,_,_,_,_,_,hp,_=>by simp[uf]at hp
 | .br (.op _ _ _) .nil,_,_,_,_,_,hp,_=>by simp[uf]at hp
 | .br (.op _ _ _) (.br _ _),_,_,_,_,_,hp,_=>by simp[uf]at hp
def M0 (ops:Array Oper)(t:Tr):Bool:=t.size==ops.size&&Region.noSelect ops&&uf ops t (Array.replicate ops.size false)
def PI (P:Program)(ops:Array Oper)(Q:Exit->Act->World->Prop)(n:Nat)(S:World->Prop)(t:Tr)(env:Env)(w:World):Prop:=∀a,sM a n env->Dw P ops Q S t a w
theorem BV:∀(L:List Nat) (a:Act) (w:World),PD P ops (fun _ a w=>Dw P ops Q S t a w) S L a w->Dw P ops Q S (app ops L t) a w
 |[],_,_,h=>h
 |i::rest,a,w,h=>by
  obtain⟨o,ho,h⟩:=h
  refine⟨o,ho,?_⟩
  split
  ·rename_i hk
   rw[if_pos hk]at h
   exact wpOp_mono (fun a' w' h'=>⟨h'.1,BV rest a' w' h'.2⟩) h
  ·rename_i hk
   rw[if_neg hk]at h
   obtain⟨v,hy,h⟩:=h
   exact⟨v,hy,BV rest _ _ h⟩
variable {L:List Nat}{env:Env}
theorem PI.app (h:GS P ops (fun _ a w=>Dw P ops Q S t a w) n S L env w):PI P ops Q n S (Sx.app ops L t) env w:=fun a ha=>BV L a w (h a ha)
theorem PI.br {u:Tr}(h1:PI P ops Q n S t env w)(h2:PI P ops Q n S u env w):E (fun _ a w=>Dw P ops Q S (.br t u) a w) n .normal env w:=fun a ha=>⟨h1 a ha,h2 a ha⟩
theorem Dx:∀(L:List Nat) (a:Act) (w:World),PD P ops Q S L a w->PD P ops (fun _ a w=>Dw P ops Q S .nil a w) S L a w
 |[],_,_,h=>h
 |i::rest,a,w,h=>by
  obtain⟨o,ho,h⟩:=h
  refine⟨o,ho,?_⟩
  split
  ·rename_i hk
   rw[if_pos hk]at h
   exact wpOp_mono (fun a' w' h'=>⟨h'.1,Dx rest a' w' h'.2⟩) h
  ·rename_i hk
   rw[if_neg hk]at h
   obtain⟨v,hy,h⟩:=h
   exact⟨v,hy,Dx rest _ _ h⟩
theorem PI.last (h:GS P ops Q n S L env w):PI P ops Q n S (Sx.app ops L .nil) env w:=fun a ha=>BV L a w (Dx L a w (h a ha))
theorem WC.ac9 {id:Nat}(S:World->World->Prop)(t:Array Oper->Tr)(hm:P.follows .mixedOrders=true)(hp:M0 ops (t ops)=true)
  (h:∀w',Le w w'->S w' w'/\PI P ops Q n (S w') (t ops) env w'):WC P Q n (.region id ops true) env w:=fun a ha=>by
 simp only[M0,Bool.and_eq_true,beq_iff_eq]at hp
 obtain⟨⟨hl,hs⟩,hp⟩:=hp
 obtain⟨c,d⟩:=h _ (Le.drew w)
 have:=BU hs (t ops) _ a _ c (Cl.none _) hp (d a ha)
 rw[hl]at this
 refine wp_mono (wp_region_any hm (pO _ _ _ _ this)) ?_
 rintro e a w ⟨rfl,hq⟩
 exact hq
end
section
variable {P:Program}{ops:Array Oper}{Q:Exit->Act->World->Prop}{n:Nat}
def V5 (ops:Array Oper)(P0 U R:List Nat)(dep:Nat->List Nat):Bool:=
 P0.length+(U.length+R.length)==ops.size&&Region.noSelect ops&&MX ops P0 (Array.replicate ops.size false)&&Q4 ops U dep (nH (Array.replicate ops.size false) P0)&&BR ops R (nH (nH (Array.replicate ops.size false) P0) U)
def Q7 (P:Program)(ops:Array Oper)(Q:Exit->Act->World->Prop)(n:Nat)(U R:List Nat)(dep:Nat->List Nat)(env:Env)(w:World):Prop:=
 (U.all fun i=>(look env (kL ops i)).isNone&&Nat.blt (kL ops i) n)=true/\∃Φ:Nat->Value->World->Prop,(∀i∈U,∀v w w',Φ i v w->Le w w'->Φ i v w')/\(∀i∈U,Step P ops dep Φ env n w i)/\
  ∀(f:Nat->Value) (w':World),Le w w'->(∀i∈U,Φ i (f i) w')->(∀i∈U,∀k,uR (f i) k->w.heap.size<=k/\k<w'.heap.size)->(∀i∈U,∀j∈U,i≠j->∀k,uR (f i) k->¬uR (f j) k)->GS P ops Q n (Le w) R (U.map (fun i=>(kL ops i,f i))++env) w'
variable {env:Env}{w:World}
theorem E.aeV {U R:List Nat}{dep:Nat->List Nat}(h:Q7 P ops Q n U R dep env w):E (fun _ a w=>∃env,sM a n env/\Q7 P ops Q n U R dep env w) n .normal env w:=fun _ ha=>⟨env,ha,h⟩
theorem WC.ada {id:Nat}(P0 U R:List Nat)(dep:Nat->List Nat)(hm:P.follows .mixedOrders=true)(hp:V5 ops P0 U R dep=true)
  (h:∀w',Le w w'->G P ops (fun _ a w=>∃env,sM a n env/\Q7 P ops Q n U R dep env w) n P0 env w'):WC P Q n (.region id ops true) env w:=fun a ha=>by
 simp only[V5,Bool.and_eq_true,beq_iff_eq]at hp
 obtain⟨⟨⟨⟨hl,hs⟩,j⟩,hpU⟩,hpR⟩:=hp
 have hn:U.Nodup:=by
  simp only[Q4,Bool.and_eq_true,decide_eq_true_eq]at hpU
  exact List.Pairwise.of_map (kL ops) (fun a b h e=>h (by rw[e])) hpU.1.2
 have hz:(nH (Array.replicate ops.size false) P0).size=ops.size:=by rw[rA];simp
 have:=Bg (Q:=Q) (r:=U.length+R.length) (w:={w with drawn:=w.drawn+1}) (K:=fun a w=>∃env,sM a n env/\Q7 P ops Q n U R dep env w) hs (fun a' ⟨env',hr,BS,Φ,l,m,o⟩ hcl=>by
  refine Tt hs hz hpU BS l m (fun f c hle s t u d v x=>GZ hs R _ d c hle x hpR (o f c hle s t u d v)) U.length U _ (fun _=>undef) a' _ Z hn (fun i hi=>hi) hz (fun k=>?_) hcl ⟨hr,fun i hi hd=>absurd hi hd,Le.refl _,fun i hi hd=>absurd hi hd,fun i hi hd=>absurd hi hd,fun i hi hd=>absurd hi hd⟩
  cases U.contains k<;>simp) P0 _ a (Cl.none _) j Z (h _ (Le.drew w) a ha)
 rw[hl]at this
 refine wp_mono (wp_region_any hm (pO _ _ _ _ this)) ?_
 rintro e a w ⟨rfl,hq⟩
 exact hq
end
section
variable {P:Program}{ops:Array Oper}{Q:Exit->Act->World->Prop}{n:Nat}
def SI (late:List Nat)(S1 S2:World->Prop)(j:Nat)(w:World):Prop:=if late.contains j=true then S2 w else S1 w
def bef (ops:Array Oper)(late:List Nat)(i:Nat):Bool:=late.all fun j=>((reach ops).getD j 0).testBit i
def ObI (ops:Array Oper)(S:Nat->World->Prop)(j:Nat)(w w':World):Prop:=if k2 ops j=true then(nS ops j=true->S j w')else w'=w
def Dy (P:Program)(ops:Array Oper)(Q:Exit->Act->World->Prop)(S:Nat->World->Prop):Nat->Array Bool->Act->World->Prop
 |0,listed,a,w=>Region.ready .any ops listed=[]/\Q .normal a w
 |fuel+1,listed,a,w=>
  (Region.ready .any ops listed=[]->Q .normal a w)/\
  ∀i∈Region.ready .any ops listed,wpOp P ops Q i (fun a' w'=>ObI ops S i w w'/\Dy P ops Q S fuel (listed.setIfInBounds i true) a' w') a w
theorem G6 {S:Nat->World->Prop}:∀(fuel:Nat) (listed:Array Bool) (a:Act) (w:World),Dy P ops Q S fuel listed a w->wpAny P .any ops Q fuel listed a w
 |0,_,_,_,h=>h
 |fuel+1,_,_,_,h=>⟨h.1,fun i hi=>wpOp_mono (fun a' w' h'=>G6 fuel _ a' w' h'.2) (h.2 i hi)⟩
theorem BX {late:List Nat}{S1 S2:World->Prop}(h12:∀w,S1 w->S2 w){i:Nat}{oi:Oper}{v:Value}(hi:ops[i]? =some oi)(hsel:∀(j:Nat) (o:Oper) cs b,ops[j]? =some o->o.op≠ .select cs b)
  (hQ:∀c a w,¬Q (.panic c) a w)(hk:kd oi.op≠2):
  ∀(fuel:Nat) (listed:Array Bool) (a:Act) (w:World),Cl ops listed->
   (∀j oj,ops[j]? =some oj->j≠i->listed.getD j true=false->(∀e∈oj.after,Region.binds .any e=true->e.on≠i)->oi.apart ops oj=true)->
   i∈Region.ready .any ops listed->YieldsIf P ops (fun w'=>kd oi.op=1->if bef ops late i=true then S1 w' else S2 w') oi v a->(kd oi.op=1->if bef ops late i=true then S1 w else S2 w)->
   Dy P ops Q (SI late S1 S2) fuel (listed.setIfInBounds i true) (a.put oi.dst v) w->Dy P ops Q (SI late S1 S2) (fuel+1) listed a w:=by
 intro fuel
 have hQ':∀c a w,Q (.panic c) (a.put oi.dst v) w->Q (.panic c) a w:=fun c a w h=>absurd h (hQ _ _ _)
 have n:k2 ops i=false:=by unfold k2;rw[hi];simpa using hk
 have hob:∀w,ObI ops (SI late S1 S2) i w w:=fun w=>by unfold ObI;rw[if_neg (by rw[n];simp)]
 induction fuel with
 |zero=>
  intro listed a w _ _ hr hy hS H
  refine⟨fun h=>(by rw[h]at hr;cases hr),fun j hj=>?_⟩
  by_cases hji:j=i
  ·subst hji;exact hy.wpOp hi hS ⟨hob w,H⟩
  ·have:=ready_mono hj hji
   rw[H.1]at this
   cases this
 |succ fuel ih=>
  intro listed a w hcl hfree hr hy hS H
  refine⟨fun h=>(by rw[h]at hr;cases hr),fun j hj=>?_⟩
  by_cases hji:j=i
  ·subst hji;exact hy.wpOp hi hS ⟨hob w,H⟩
  ·have d:=H.2 j (ready_mono hj hji)
   obtain⟨hjun,oj,hoj,hall⟩:=mem_ready.1 hj
   have hnot:∀e∈oj.after,Region.binds .any e=true->e.on≠i:=fun e he hb heq=>by
    have d:=hall e he hb
    have f:=(mem_ready.1 hr).1
    rw[heq]at d
    rcases Nat.lt_or_ge i listed.size with h'|h'
    ·simp[h']at f d;rw[f]at d;cases d
    ·simp[Array.getElem?_eq_none h']at d
   have Z0:¬Pp ops j i:=fun hd=>by
    have d:=hcl.dep hd (fun oj' KS=>by rw[hoj]at KS;injection KS with KS;subst KS;exact hall)
    have f:=(mem_ready.1 hr).1
    rcases Nat.lt_or_ge i listed.size with h'|h'
    ·simp[h']at f d;rw[f]at d;cases d
    ·simp[Array.getElem?_eq_none h']at d
   have s:=wpOp_putIf hoj (hfree j oj hoj hji hjun hnot) (fun cs b=>hsel i oi cs b hi) (fun cs b=>hsel j oj cs b hoj) hQ' hy d
   have hfree':∀k ok,ops[k]? =some ok->k≠i->(listed.setIfInBounds j true).getD k true=false->
     (∀e∈ok.after,Region.binds .any e=true->e.on≠i)->oi.apart ops ok=true:=fun k ok hk hki hun hno=>by
    refine hfree k ok hk hki ?_ hno
    by_cases hjk:j=k
    ·subst hjk;exact hjun
    ·rw[getD_set_ne true hjk]at hun;exact hun
   refine wpOp_mono (fun a' w' l=>⟨l.2.1,ih (listed.setIfInBounds j true) a' w' (hcl.set hj) hfree' (ready_mono hr (Ne.symm hji)) l.1 ?_ ?_⟩) s
   ·intro m
    have KT:=l.2.1
    unfold ObI at KT
    split at KT
    ·have hs:=KT (ab1 hi (Ne.symm hji) m Z0)
     unfold SI at hs
     by_cases hl:late.contains j=true
     ·rw[if_pos hl]at hs
      rw[if_neg (fun hb=>Z0 (pM ops j i (by unfold bef at hb;rw[List.all_eq_true]at hb;exact hb j (by simpa using hl))))]
      exact hs
     ·rw[if_neg hl]at hs
      split
      ·exact hs
      ·exact h12 _ hs
    ·rw[KT];exact hS m
   ·rw[Array.setIfInBounds_comm _ _ hji]
    exact l.2.2
def V6 (P:Program)(ops:Array Oper)(Q:Exit->Act->World->Prop)(late:List Nat)(S1 S2:World->Prop):List Nat->Act->World->Prop
 |[],a,w=>Q .normal a w
 |i::rest,a,w=>∃o,ops[i]? =some o/\
  if kd o.op=2 then wpOp P ops Z4 i (fun a' w'=>(nS ops i=true->SI late S1 S2 i w')/\V6 P ops Q late S1 S2 rest a' w') a w
  else∃v,YieldsIf P ops (fun w'=>kd o.op=1->if bef ops late i=true then S1 w' else S2 w') o v a/\V6 P ops Q late S1 S2 rest (a.put o.dst v) w
def k0 (ops:Array Oper)(j:Nat):Bool:=match ops[j]? with |some o=>kd o.op==0|none=>false
def M3 (ops:Array Oper):List Nat->Array Bool->Bool
 |[],listed=>(Region.ready .any ops listed).isEmpty
 |i::rest,listed=>(if k2 ops i then(Region.ready .any ops listed==[i])else k0 ops i&&(Region.ready .any ops listed).contains i&&Region.free .any ops listed i)&&M3 ops rest (listed.setIfInBounds i true)
def JF (ops:Array Oper):List Nat->Array Bool->Bool
 |[],listed=>(Region.ready .any ops listed).isEmpty
 |i::rest,listed=>if k2 ops i then M3 ops (i::rest) listed else(Region.ready .any ops listed).contains i&&Region.free .any ops listed i&&JF ops rest (listed.setIfInBounds i true)
def Q8 (ops:Array Oper)(plan:List Nat):Bool:=plan.length==ops.size&&Region.noSelect ops&&JF ops plan (Array.replicate ops.size false)
variable {late:List Nat}{S1 S2:World->Prop}
theorem PK (hs:Region.noSelect ops=true)(h12:∀w,S1 w->S2 w):∀(L:List Nat) (listed:Array Bool) (a:Act) (w:World),Cl ops listed->M3 ops L listed=true->V6 P ops Q late S1 S2 L a w->Dy P ops (pQ Q) (SI late S1 S2) L.length listed a w:=by
 intro L
 induction L with
 |nil=>
  intro listed a w _ hp h
  exact⟨by simpa[M3]using hp,rfl,h⟩
 |cons i rest ih=>
  intro listed a w hcl hp h
  obtain⟨o,ho,h⟩:=h
  simp only[M3,Bool.and_eq_true]at hp
  obtain⟨c,e⟩:=hp
  by_cases d:k2 ops i=true
  ·rw[if_pos d,beq_iff_eq]at c
   have hk:kd o.op=2:=by unfold k2 at d;rw[ho]at d;simpa using d
   rw[if_pos hk]at h
   refine⟨fun f=>(by rw[c]at f;cases f),fun j hj=>?_⟩
   rw[c]at hj
   obtain rfl:j=i:=by simpa using hj
   refine wpOp_mono (fun a' w' h'=>⟨?_,?_⟩) (wL h)
   ·unfold ObI;rw[if_pos d];exact h'.1
   ·exact ih (listed.setIfInBounds j true) a' w' (hcl.set (by rw[c];simp)) e h'.2
  ·rw[if_neg d]at c
   simp only[Bool.and_eq_true]at c
   have hk:kd o.op=0:=by have:=c.1.1;unfold k0 at this;rw[ho]at this;simpa using this
   rw[if_neg (by rw[hk];decide)]at h
   obtain⟨v,hy,h⟩:=h
   exact BX h12 ho (Region.noSelect_spec hs) (fun _ _ _ hf=>by cases hf.1) (by rw[hk];decide) _ listed a w hcl (Region.free_spec ho c.2) (by simpa using c.1.2) hy (fun k=>by rw[hk]at k;cases k) (ih _ _ _ (hcl.set (by simpa using c.1.2)) e h)
theorem PL (hs:Region.noSelect ops=true)(h12:∀w,S1 w->S2 w):∀(L:List Nat) (listed:Array Bool) (a:Act) (w:World),S1 w->Cl ops listed->JF ops L listed=true->V6 P ops Q late S1 S2 L a w->Dy P ops (pQ Q) (SI late S1 S2) L.length listed a w:=by
 intro L
 induction L with
 |nil=>
  intro listed a w _ _ hp h
  exact⟨by simpa[JF]using hp,rfl,h⟩
 |cons i rest ih=>
  intro listed a w hS hcl hp h
  by_cases c:k2 ops i=true
  ·unfold JF at hp
   rw[if_pos c]at hp
   exact PK hs h12 (i::rest) listed a w hcl hp h
  ·obtain⟨o,ho,h⟩:=h
   unfold JF at hp
   rw[if_neg c]at hp
   simp only[Bool.and_eq_true]at hp
   have hk:¬kd o.op=2:=by unfold k2 at c;rw[ho]at c;simpa using c
   rw[if_neg hk]at h
   obtain⟨v,hy,h⟩:=h
   exact BX h12 ho (Region.noSelect_spec hs) (fun _ _ _ hf=>by cases hf.1) hk _ listed a w hcl (Region.free_spec ho hp.1.2) (by simpa using hp.1.1) hy (fun _=>by split;exact hS;exact h12 _ hS) (ih _ _ _ hS (hcl.set (by simpa using hp.1.1)) hp.2 h)
def GI (P:Program)(ops:Array Oper)(Q:Exit->Act->World->Prop)(n:Nat)(late:List Nat)(S1 S2:World->Prop)(plan:List Nat)(env:Env)(w:World):Prop:=∀a,sM a n env->V6 P ops Q late S1 S2 plan a w
variable {env:Env}{w:World}
theorem GI.nil (h:E Q n .normal env w):GI P ops Q n late S1 S2 [] env w:=fun a ha=>h a ha
variable {i d:Nat}{o:Oper}{plan:List Nat}{v:Value}
theorem GI.any (ho:ops[i]? =some o)(hk:kd o.op=0)(hr:Any P env n o v)(hg:o.guard=none)(hd:o.dst=some d)
  (hn:Nat.blt d n=true)(h:GI P ops Q n late S1 S2 plan ((d,v)::env) w):GI P ops Q n late S1 S2 (i::plan) env w:=fun a ha=>
 ⟨o,ho,by
  rw[if_neg (by rw[hk];decide)]
  refine⟨v,.inl ⟨by unfold Region.wanted;rw[hg],fun w' _=>hr a ha w'⟩,?_⟩
  rw[hd]
  exact h _ (ha.put hn v)⟩
theorem GI.rd (ho:ops[i]? =some o)(hk:kd o.op=1)(hb:bef ops late i=true)(hr:∀w',S1 w'->Rd P w' env n o v)(hg:o.guard=none)(hd:o.dst=some d)
  (hn:Nat.blt d n=true)(h:GI P ops Q n late S1 S2 plan ((d,v)::env) w):GI P ops Q n late S1 S2 (i::plan) env w:=fun a ha=>
 ⟨o,ho,by
  rw[if_neg (by rw[hk];decide)]
  refine⟨v,.inl ⟨by unfold Region.wanted;rw[hg],fun w' hw=>hr w' (by have:=hw hk;rwa [if_pos hb]at this) a ha w' (Le.refl w')⟩,?_⟩
  rw[hd]
  exact h _ (ha.put hn v)⟩
theorem GI.rd2 (h12:∀w,S1 w->S2 w)(ho:ops[i]? =some o)(hk:kd o.op=1)(hr:∀w',S2 w'->Rd P w' env n o v)(hg:o.guard=none)(hd:o.dst=some d)
  (hn:Nat.blt d n=true)(h:GI P ops Q n late S1 S2 plan ((d,v)::env) w):GI P ops Q n late S1 S2 (i::plan) env w:=fun a ha=>
 ⟨o,ho,by
  rw[if_neg (by rw[hk];decide)]
  refine⟨v,.inl ⟨by unfold Region.wanted;rw[hg],fun w' hw=>hr w' (by have:=hw hk;split at this;exact h12 _ this;exact this) a ha w' (Le.refl w')⟩,?_⟩
  rw[hd]
  exact h _ (ha.put hn v)⟩
theorem GI.ef (ho:ops[i]? =some o)(hk:kd o.op=2)(hg:o.guard=none)(hd:o.dst=some d)(hn:Nat.blt d n=true)
  (h:Ef P env n o w fun v w'=>(nS ops i=true->SI late S1 S2 i w')/\GI P ops Q n late S1 S2 plan ((d,v)::env) w'):GI P ops Q n late S1 S2 (i::plan) env w:=fun a ha=>
 ⟨o,ho,by
  rw[if_pos hk]
  unfold wpOp
  simp only[ho]
  rw[if_pos (by unfold Region.wanted;rw[hg])]
  left
  exact Oper.wp_mono (fun a' w' ⟨v,c,e,f⟩=>⟨e,by subst c;rw[hd];exact f _ (ha.put hn v)⟩) (h a ha)⟩
theorem GI.jR (ho:ops[i]? =some o)(hk:kd o.op=2)(hg:o.guard=none)(hd:o.dst=none)
  (h:Ef P env n o w fun _ w'=>(nS ops i=true->SI late S1 S2 i w')/\GI P ops Q n late S1 S2 plan env w'):GI P ops Q n late S1 S2 (i::plan) env w:=fun a ha=>
 ⟨o,ho,by
  rw[if_pos hk]
  unfold wpOp
  simp only[ho]
  rw[if_pos (by unfold Region.wanted;rw[hg])]
  left
  exact Oper.wp_mono (fun a' w' ⟨v,c,d,e⟩=>⟨d,by subst c;rw[hd];exact e _ ha⟩) (h a ha)⟩
theorem WC.aeW {id:Nat}(late:List Nat)(S1 S2:World->World->Prop)(plan:List Nat)(h12:∀w w',S1 w w'->S2 w w')(hm:P.follows .mixedOrders=true)(hp:Q8 ops plan=true)
  (h:∀w',Le w w'->S1 w' w'/\GI P ops Q n late (S1 w') (S2 w') plan env w'):WC P Q n (.region id ops true) env w:=fun a ha=>by
 simp only[Q8,Bool.and_eq_true,beq_iff_eq]at hp
 obtain⟨⟨hl,hs⟩,hp⟩:=hp
 obtain⟨c,d⟩:=h _ (Le.drew w)
 have:=PL (late:=late) hs (h12 _) plan _ a _ c (Cl.none _) hp (d a ha)
 rw[hl]at this
 refine wp_mono (wp_region_any hm (G6 _ _ _ _ this)) ?_
 rintro e a w ⟨rfl,hq⟩
 exact hq
end
end Go.Sx
