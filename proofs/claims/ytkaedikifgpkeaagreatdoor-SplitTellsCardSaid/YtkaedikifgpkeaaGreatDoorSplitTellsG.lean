/- SplitTells: for every input the law answers true and leaves its arguments as they were. -/
import Derived.Test.YtkaedikifgpkeaaGreatDoorSplitTellsF
import Derived.Lib.AppendZerosOnto
set_option linter.unusedVariables false
set_option linter.unusedSimpArgs false
namespace Go.Sx
open Go Go.RowKit
section
variable {P:Program}{env:Env}{n:Nat}{d:Option Nat}{T:TypeId}{p:String}{af:Array Edge}{g:Option (Nat×Bool)}{w:World}{K:Value->World->Prop}
def qf (P:Program)(t i off:Nat):Prop:=∃fs f s,P.underlying t=some (.struct fs)/\fs[i]? =some f/\f.offset=off/\Sz P f.type s/\0<s
theorem Any.fieldAddr {t i off:Nat}{x:Operand}{gb o:Nat}(hf:qf P t i off)(hx:ev env x=some (.pointer (some ⟨gb,o,none⟩))):Any P env n ⟨d,.fieldAddr t x i,T,p,af,g⟩ (.pointer (some ⟨gb,o+off,none⟩)):=fun a ha w=>by
  obtain⟨fs,f,s,b,c,e,h,k⟩:=hf
  have j:¬s=0:=by omega
  simp[execOp,ha.eval hx,Instr.fieldAt,run_underlying b,c,Instr.sureAddr,fieldPlace,h.run,j,e,add_lit]
theorem Any.eZ {t off:Nat}{x:Operand}{gb i:Nat}(hf:qf P t i off)(hx:ev env x=some (.pointer (some ⟨gb,0,none⟩))):Any P env n ⟨d,.fieldAddr t x i,T,p,af,g⟩ (.pointer (some ⟨gb,off,none⟩)):=by
  have:=Any.fieldAddr (n:=n) (d:=d) (T:=T) (p:=p) (af:=af) (g:=g) hf hx
  rwa [Nat.zero_add]at this
def JM (P:Program)(t:Nat)(pl:List (Nat×Nat)):Prop:=∃fs:Array Field,P.underlying t=some (.struct fs)/\∀w:World,(fs.mapM (m:=Sem) fun f=>do pure (f.offset,<-sizeOf f.type)).run P w= .ok pl.toArray w
theorem Any.Wh {t:Nat}{z:Value}{pl:List (Nat×Nat)}{parts:Array (Nat×Operand)}{vs:List (Nat×Value)}{cells:Array Value}(hu:JM P t pl)(hz:Zr P t z)(hp:R5 env parts.toList=some vs)
    (hf:Instr.fill (pl.toArray[·]?) z.cells vs=some cells):Any P env n ⟨d,.build t parts,T,p,af,g⟩ (.agg cells):=fun a ha w=>by
  obtain⟨fs,b,c⟩:=hu
  have hparts:parts.map (fun(i,x)=>(i,a.eval x))=vs.toArray:=by rw[<-ha.xe hp];apply Array.ext';simp
  simp only[execOp,Instr.build,Sem.run_bind,hz.run,Result.andThen_ok,run_underlying b,c,hparts]
  rw[hf]
  simp
def OG (w:World)(k:Nat)(A:Option Addr)(m:Nat)(rows:List (List Value)):Prop:=rows.length=m/\(∀r∈rows,r.length=k)/\Sl w k A m rows.flatten
theorem OG.le {w w':World}{k:Nat}{A:Option Addr}{m:Nat}{rows:List (List Value)}(h:OG w k A m rows)(hl:Le w w'):OG w' k A m rows:=⟨h.1,h.2.1,h.2.2.le hl⟩
theorem OG.nil (w:World)(k:Nat)(A:Option Addr):OG w k A 0 []:=⟨rfl,(fun r hr=>by cases hr),⟨by simp,fun j u hu=>by simp at hu⟩⟩
theorem Fw {k:Nat}:∀(rows:List (List Value)),(∀r∈rows,r.length=k)->∀(j:Nat) (r:List Value),rows[j]? =some r->∀(i:Nat) (u:Value),r[i]? =some u->rows.flatten[j*k+i]? =some u
  |[],_,j,r,hr,_,_,_=>by simp at hr
  |q::rows,hk,0,r,hr,i,u,hu=>by
    simp at hr
    subst hr
    simp only[List.flatten_cons,Nat.zero_mul,Nat.zero_add]
    rw[List.getElem?_append_left (List.getElem?_eq_some_iff.1 hu).1]
    exact hu
  |q::rows,hk,j+1,r,hr,i,u,hu=>by
    have hq:q.length=k:=hk q (by simp)
    have ih:=Fw rows (fun q hq=>hk q (by simp[hq])) j r (by simpa using hr) i u hu
    simp only[List.flatten_cons]
    rw[List.getElem?_append_right (by rw[hq,Nat.succ_mul];omega),hq,show(j+1)*k+i-k=j*k+i by rw[Nat.succ_mul];omega]
    exact ih
theorem y5 {k:Nat}:∀(rows:List (List Value)),(∀r∈rows,r.length=k)->rows.flatten.length=rows.length*k
  |[],_=>by simp
  |r::rows,h=>by
    rw[List.flatten_cons,List.length_append,y5 rows (fun q hq=>h q (by simp[hq])),h r (by simp),List.length_cons,Nat.succ_mul,Nat.add_comm]
theorem OG.isSome {k:Nat}{A:Option Addr}{m:Nat}{rows:List (List Value)}(h:OG w k A m rows)(hm:0<m)(hk:0<k):A.isSome=true:=h.2.2.isSome (j:=0) hm hk
theorem Rd.XI {t:TypeId}{x:Operand}{k:Nat}{A:Option Addr}{m j:Nat}{rows:List (List Value)}{r:List Value}(hu:kH P t k)(hx:ev env x=some (ptr A (j*k)))(hR:OG w k A m rows)(hr:rows[j]? =some r)(hp:0<k):
    Rd P w env n ⟨d,.load t x,T,p,af,g⟩ (.agg r.toArray):=by
  have hl:r.length=k:=hR.2.1 r (List.mem_of_getElem? hr)
  exact Rd.J2 r (by rw[hl];exact hu) hx hR.2.2 (fun i u hi=>Fw rows hR.2.1 j r hr i u hi) (by omega)
theorem Own.rws {base e k:Nat}{A:Option Addr}{m c:Nat}{rows:List (List Value)}(h:Own w base e k A m c rows.flatten)(hl:rows.length=m)(hk:∀r∈rows,r.length=k):OG w k A m rows:=⟨hl,hk,h.sl⟩
theorem fA.aas {gb:Nat}{e t e' s:TypeId}{vs:Array Value}(h:fA w gb e vs)(ht:P.underlying t=some (.slice e'))(hs:vs.size=s)(hp:0<s)(h1:∀u∈vs.toList,u.oneCell'=true):Src P s t (.slice (some ⟨gb,0,none⟩) 1 1) 1 vs.toList w:=
  (h.sl (s:=s) (n:=1) (by omega)).src ht hp 1 h1
theorem Own.nil (w:World)(base e s:Nat)(A:Option Addr):Own w base e s A 0 0 []:=⟨by simp,.inl ⟨rfl,rfl⟩⟩
theorem Rd.cap {t e:TypeId}{x:Operand}{A:Option Addr}{l c:Nat}{ats:Array TypeId}(ht:P.underlying t=some (.slice e))(ha:ats=#[t])(hx:ev env x=some (.slice A l c)):
    Rd P w env n ⟨d,.call ⟨.builtin .cap,#[x],ats⟩,T,p,af,g⟩ (.int .i64 (c:Int)):=fun a hr w' _=>by
  subst ha
  simp[execOp,resolve,invoke,builtin,hr.eval hx,Builtin.cap_,run_underlying ht,goInt]
end
end Go.Sx

namespace Go.Sx
open Go Go.RowKit
section
variable {P:Program}{ops:Array Oper}{Q:Exit->Act->World->Prop}{n:Nat}{S:World->Prop}
def SY (P:Program)(ops:Array Oper)(Q:Exit->Act->World->Prop)(S:World->Prop):List Nat->Act->World->Prop
  |[],a,w=>Q .normal a w
  |i::rest,a,w=>∃o,ops[i]? =some o/\
    if kd o.op=2 then wpOp P ops SK i (fun a' w'=>S w'/\SY P ops Q S rest a' w') a w
    else∃v,YieldsIf P ops (fun w'=>kd o.op=1->S w') o v a/\SY P ops Q S rest (a.put o.dst v) w
def y7 (ops:Array Oper):List Nat->Array Bool->Bool
  |[],listed=>(Region.ready .any ops listed).isEmpty
  |i::rest,listed=>
    (if k2 ops i then(Region.ready .any ops listed==[i])
     else(Region.ready .any ops listed).contains i&&Region.free .any ops listed i)&&y7 ops rest (listed.setIfInBounds i true)
def AB (ops:Array Oper)(plan:List Nat):Bool:=plan.length==ops.size&&Region.noSelect ops&&y7 ops plan (Array.replicate ops.size false)
theorem J7 (hs:Region.noSelect ops=true):∀(L:List Nat) (listed:Array Bool) (a:Act) (w:World),
    S w->Cl ops listed->y7 ops L listed=true->SY P ops Q S L a w->kG P ops (qH Q) S L.length listed a w:=by
  intro L
  induction L with
  |nil=>
    intro listed a w _ _ hp h
    refine⟨by simpa[y7]using hp,rfl,h⟩
  |cons i rest ih=>
    intro listed a w hS hcl hp h
    obtain⟨o,ho,h⟩:=h
    simp only[y7,Bool.and_eq_true]at hp
    obtain⟨b,d⟩:=hp
    by_cases hk:kd o.op=2
    · rw[if_pos hk]at h
      have c:k2 ops i=true:=by unfold k2;rw[ho];simpa using hk
      rw[if_pos c,beq_iff_eq]at b
      refine⟨fun e=>(by rw[b]at e;cases e),fun j hj=>?_⟩
      rw[b]at hj
      obtain rfl:j=i:=by simpa using hj
      refine wpOp_mono (fun a' w' h'=>⟨?_,?_⟩) (wX h)
      · unfold Ob;rw[if_pos c];exact fun _=>h'.1
      · exact ih (listed.setIfInBounds j true) a' w' h'.1 (hcl.set (by rw[b];simp)) d h'.2
    · rw[if_neg hk]at h
      obtain⟨v,hy,h⟩:=h
      have c:¬k2 ops i=true:=by unfold k2;rw[ho];simpa using hk
      rw[if_neg c]at b
      simp only[Bool.and_eq_true]at b
      exact mf ho (Region.noSelect_spec hs) (fun _ _ _ hf=>by cases hf.1) hk _ listed a w hcl (Region.free_spec ho b.2) (by simpa using b.1) hy (fun _=>hS) (ih _ _ _ hS (hcl.set (by simpa using b.1)) d h)
def GS (P:Program)(ops:Array Oper)(Q:Exit->Act->World->Prop)(n:Nat)(S:World->Prop)(plan:List Nat)(env:Env)(w:World):Prop:=∀a,mV a n env->SY P ops Q S plan a w
theorem GS.nil {env:Env}{w:World}(h:E Q n .normal env w):GS P ops Q n S [] env w:=fun a ha=>h a ha
theorem GS.any {env:Env}{w:World}{i:Nat}{o:Oper}{plan:List Nat}{v:Value}{d:Nat}(ho:ops[i]? =some o)(hk:kd o.op=0)(hr:Any P env n o v)(hg:o.guard=none)(hd:o.dst=some d)
    (hn:Nat.blt d n=true)(h:GS P ops Q n S plan ((d,v)::env) w):GS P ops Q n S (i::plan) env w:=fun a ha=>
  ⟨o,ho,by
    rw[if_neg (by rw[hk];decide)]
    refine⟨v,.inl ⟨by unfold Region.wanted;rw[hg],fun w' _=>hr a ha w'⟩,?_⟩
    rw[hd]
    exact h _ (ha.put hn v)⟩
theorem GS.rd {env:Env}{w:World}{i:Nat}{o:Oper}{plan:List Nat}{v:Value}{d:Nat}(ho:ops[i]? =some o)(hk:kd o.op=1)(hr:∀w',S w'->Rd P w' env n o v)(hg:o.guard=none)(hd:o.dst=some d)
    (hn:Nat.blt d n=true)(h:GS P ops Q n S plan ((d,v)::env) w):GS P ops Q n S (i::plan) env w:=fun a ha=>
  ⟨o,ho,by
    rw[if_neg (by rw[hk];decide)]
    refine⟨v,.inl ⟨by unfold Region.wanted;rw[hg],fun w' hw=>hr w' (hw hk) a ha w' (Le.refl w')⟩,?_⟩
    rw[hd]
    exact h _ (ha.put hn v)⟩
theorem GS.ef {env:Env}{w:World}{i:Nat}{o:Oper}{plan:List Nat}{d:Nat}(ho:ops[i]? =some o)(hk:kd o.op=2)(hg:o.guard=none)(hd:o.dst=some d)(hn:Nat.blt d n=true)
    (h:Ef P env n o w fun v w'=>S w'/\GS P ops Q n S plan ((d,v)::env) w'):GS P ops Q n S (i::plan) env w:=fun a ha=>
  ⟨o,ho,by
    rw[if_pos hk]
    unfold wpOp
    simp only[ho]
    rw[if_pos (by unfold Region.wanted;rw[hg])]
    left
    exact Oper.wp_mono (fun a' w' ⟨v,b,c,e⟩=>⟨c,by subst b;rw[hd];exact e _ (ha.put hn v)⟩) (h a ha)⟩
theorem GS.iO {env:Env}{w:World}{i:Nat}{o:Oper}{plan:List Nat}(ho:ops[i]? =some o)(hk:kd o.op=2)(hg:o.guard=none)(hd:o.dst=none)
    (h:Ef P env n o w fun _ w'=>S w'/\GS P ops Q n S plan env w'):GS P ops Q n S (i::plan) env w:=fun a ha=>
  ⟨o,ho,by
    rw[if_pos hk]
    unfold wpOp
    simp only[ho]
    rw[if_pos (by unfold Region.wanted;rw[hg])]
    left
    exact Oper.wp_mono (fun a' w' ⟨v,b,c,d⟩=>⟨c,by subst b;rw[hd];exact d _ ha⟩) (h a ha)⟩
theorem WC.PD {env:Env}{w:World}{id:Nat}(S:World->World->Prop)(plan:List Nat)(hm:P.follows .mixedOrders=true)(hp:AB ops plan=true)
    (h:∀w',Le w w'->S w' w'/\GS P ops Q n (S w') plan env w'):WC P Q n (.region id ops true) env w:=fun a ha=>by
  simp only[AB,Bool.and_eq_true,beq_iff_eq]at hp
  obtain⟨⟨hl,hs⟩,hp⟩:=hp
  obtain⟨b,c⟩:=h _ (Le.drew w)
  have:=J7 hs plan _ a _ b (Cl.none _) hp (c a ha)
  rw[hl]at this
  refine wp_mono (wp_region_any hm (lU _ _ _ _ this)) ?_
  rintro e a w ⟨rfl,hq⟩
  exact hq
end
end Go.Sx

namespace Go.Sx
open Go Go.RowKit
section
variable {P:Program}{ops:Array Oper}{Q:Exit->Act->World->Prop}{n:Nat}{S:World->Prop}
def k1 (ops:Array Oper)(j:Nat):Bool:=match ops[j]? with |some o=>kd o.op==1|none=>false
def BH (ops:Array Oper)(l:List Nat):Bool:=l.any fun j=>nS ops j||k1 ops j
def S9 (P:Program)(ops:Array Oper)(Q:Exit->Act->World->Prop)(S:World->Prop):List Nat->Act->World->Prop
  |[],a,w=>Q .normal a w
  |i::rest,a,w=>∃o,ops[i]? =some o/\
    if kd o.op=2 then wpOp P ops SK i (fun a' w'=>((nS ops i||BH ops rest)=true->S w')/\S9 P ops Q S rest a' w') a w
    else∃v,YieldsIf P ops (fun w'=>kd o.op=1->S w') o v a/\S9 P ops Q S rest (a.put o.dst v) w
theorem J8 (hs:Region.noSelect ops=true):∀(L:List Nat) (listed:Array Bool) (a:Act) (w:World),
    (BH ops L=true->S w)->Cl ops listed->y7 ops L listed=true->S9 P ops Q S L a w->kG P ops (qH Q) S L.length listed a w:=by
  intro L
  induction L with
  |nil=>
    intro listed a w _ _ hp h
    refine⟨by simpa[y7]using hp,rfl,h⟩
  |cons i rest ih=>
    intro listed a w hS hcl hp h
    obtain⟨o,ho,h⟩:=h
    simp only[y7,Bool.and_eq_true]at hp
    obtain⟨b,d⟩:=hp
    by_cases hk:kd o.op=2
    · rw[if_pos hk]at h
      have c:k2 ops i=true:=by unfold k2;rw[ho];simpa using hk
      rw[if_pos c,beq_iff_eq]at b
      refine⟨fun e=>(by rw[b]at e;cases e),fun j hj=>?_⟩
      rw[b]at hj
      obtain rfl:j=i:=by simpa using hj
      refine wpOp_mono (fun a' w' h'=>⟨?_,?_⟩) (wX h)
      · unfold Ob;rw[if_pos c];exact fun hn=>h'.1 (by rw[hn,Bool.true_or])
      · exact ih (listed.setIfInBounds j true) a' w' (fun hn=>h'.1 (by rw[hn,Bool.or_true])) (hcl.set (by rw[b];simp)) d h'.2
    · rw[if_neg hk]at h
      obtain⟨v,hy,h⟩:=h
      have c:¬k2 ops i=true:=by unfold k2;rw[ho];simpa using hk
      rw[if_neg c]at b
      simp only[Bool.and_eq_true]at b
      have f:kd o.op=1->S w:=fun k=>hS (by unfold BH;rw[List.any_cons];have:k1 ops i=true:=(by unfold k1;rw[ho];simpa using k);rw[this,Bool.or_true,Bool.true_or])
      exact mf ho (Region.noSelect_spec hs) (fun _ _ _ hf=>by cases hf.1) hk _ listed a w hcl (Region.free_spec ho b.2) (by simpa using b.1) hy f (ih _ _ _ (fun hn=>hS (by unfold BH at hn ⊢;rw[List.any_cons,hn,Bool.or_true])) (hcl.set (by simpa using b.1)) d h)
def GR (P:Program)(ops:Array Oper)(Q:Exit->Act->World->Prop)(n:Nat)(S:World->Prop)(plan:List Nat)(env:Env)(w:World):Prop:=∀a,mV a n env->S9 P ops Q S plan a w
theorem GR.nil {env:Env}{w:World}(h:E Q n .normal env w):GR P ops Q n S [] env w:=fun a ha=>h a ha
theorem GR.any {env:Env}{w:World}{i:Nat}{o:Oper}{plan:List Nat}{v:Value}{d:Nat}(ho:ops[i]? =some o)(hk:kd o.op=0)(hr:Any P env n o v)(hg:o.guard=none)(hd:o.dst=some d)
    (hn:Nat.blt d n=true)(h:GR P ops Q n S plan ((d,v)::env) w):GR P ops Q n S (i::plan) env w:=fun a ha=>
  ⟨o,ho,by
    rw[if_neg (by rw[hk];decide)]
    refine⟨v,.inl ⟨by unfold Region.wanted;rw[hg],fun w' _=>hr a ha w'⟩,?_⟩
    rw[hd]
    exact h _ (ha.put hn v)⟩
theorem GR.rd {env:Env}{w:World}{i:Nat}{o:Oper}{plan:List Nat}{v:Value}{d:Nat}(ho:ops[i]? =some o)(hk:kd o.op=1)(hr:∀w',S w'->Rd P w' env n o v)(hg:o.guard=none)(hd:o.dst=some d)
    (hn:Nat.blt d n=true)(h:GR P ops Q n S plan ((d,v)::env) w):GR P ops Q n S (i::plan) env w:=fun a ha=>
  ⟨o,ho,by
    rw[if_neg (by rw[hk];decide)]
    refine⟨v,.inl ⟨by unfold Region.wanted;rw[hg],fun w' hw=>hr w' (hw hk) a ha w' (Le.refl w')⟩,?_⟩
    rw[hd]
    exact h _ (ha.put hn v)⟩
theorem GR.ef {env:Env}{w:World}{i:Nat}{o:Oper}{plan:List Nat}{d:Nat}(ho:ops[i]? =some o)(hk:kd o.op=2)(hg:o.guard=none)(hd:o.dst=some d)(hn:Nat.blt d n=true)
    (h:Ef P env n o w fun v w'=>((nS ops i||BH ops plan)=true->S w')/\GR P ops Q n S plan ((d,v)::env) w'):GR P ops Q n S (i::plan) env w:=fun a ha=>
  ⟨o,ho,by
    rw[if_pos hk]
    unfold wpOp
    simp only[ho]
    rw[if_pos (by unfold Region.wanted;rw[hg])]
    left
    exact Oper.wp_mono (fun a' w' ⟨v,b,c,e⟩=>⟨c,by subst b;rw[hd];exact e _ (ha.put hn v)⟩) (h a ha)⟩
theorem GR.iO {env:Env}{w:World}{i:Nat}{o:Oper}{plan:List Nat}(ho:ops[i]? =some o)(hk:kd o.op=2)(hg:o.guard=none)(hd:o.dst=none)
    (h:Ef P env n o w fun _ w'=>((nS ops i||BH ops plan)=true->S w')/\GR P ops Q n S plan env w'):GR P ops Q n S (i::plan) env w:=fun a ha=>
  ⟨o,ho,by
    rw[if_pos hk]
    unfold wpOp
    simp only[ho]
    rw[if_pos (by unfold Region.wanted;rw[hg])]
    left
    exact Oper.wp_mono (fun a' w' ⟨v,b,c,d⟩=>⟨c,by subst b;rw[hd];exact d _ ha⟩) (h a ha)⟩
theorem GR.Np {env:Env}{w:World}{i:Nat}{o:Oper}{plan:List Nat}{v:Value}{d j dj:Nat}{b want:Bool}(ho:ops[i]? =some o)(hk:kd o.op=0)(hr:Any P env n o v)(hg:o.guard=some (j,want))
    (hj:(ops[j]?).bind (·.dst)=some dj)(hv:look env dj=some (.bool b))(hb:b=want)(hd:o.dst=some d)
    (hn:Nat.blt d n=true)(h:GR P ops Q n S plan ((d,v)::env) w):GR P ops Q n S (i::plan) env w:=fun a ha=>
  ⟨o,ho,by
    rw[if_neg (by rw[hk];decide)]
    refine⟨v,.inl ⟨by rw[jw ha hg hj hv,hb];simp,fun w' _=>hr a ha w'⟩,?_⟩
    rw[hd]
    exact h _ (ha.put hn v)⟩
theorem GR.yg {env:Env}{w:World}{i:Nat}{o:Oper}{plan:List Nat}{v:Value}{d j dj:Nat}{b want:Bool}(ho:ops[i]? =some o)(hk:kd o.op=1)(hr:∀w',S w'->Rd P w' env n o v)(hg:o.guard=some (j,want))
    (hj:(ops[j]?).bind (·.dst)=some dj)(hv:look env dj=some (.bool b))(hb:b=want)(hd:o.dst=some d)
    (hn:Nat.blt d n=true)(h:GR P ops Q n S plan ((d,v)::env) w):GR P ops Q n S (i::plan) env w:=fun a ha=>
  ⟨o,ho,by
    rw[if_neg (by rw[hk];decide)]
    refine⟨v,.inl ⟨by rw[jw ha hg hj hv,hb];simp,fun w' hw=>hr w' (hw hk) a ha w' (Le.refl w')⟩,?_⟩
    rw[hd]
    exact h _ (ha.put hn v)⟩
theorem GR.mW {env:Env}{w:World}{i:Nat}{o:Oper}{plan:List Nat}{d j dj:Nat}{b want:Bool}(ho:ops[i]? =some o)(hk:kd o.op=2)(hg:o.guard=some (j,want))
    (hj:(ops[j]?).bind (·.dst)=some dj)(hv:look env dj=some (.bool b))(hb:b=want)(hd:o.dst=some d)(hn:Nat.blt d n=true)
    (h:Ef P env n o w fun v w'=>((nS ops i||BH ops plan)=true->S w')/\GR P ops Q n S plan ((d,v)::env) w'):GR P ops Q n S (i::plan) env w:=fun a ha=>
  ⟨o,ho,by
    rw[if_pos hk]
    unfold wpOp
    simp only[ho]
    rw[if_pos (by rw[jw ha hg hj hv,hb];simp)]
    left
    exact Oper.wp_mono (fun a' w' ⟨v,c,e,f⟩=>⟨e,by subst c;rw[hd];exact f _ (ha.put hn v)⟩) (h a ha)⟩
theorem WC.XJ {env:Env}{w:World}{id:Nat}(S:World->World->Prop)(plan:List Nat)(hm:P.follows .mixedOrders=true)(hp:AB ops plan=true)
    (h:∀w',Le w w'->S w' w'/\GR P ops Q n (S w') plan env w'):WC P Q n (.region id ops true) env w:=fun a ha=>by
  simp only[AB,Bool.and_eq_true,beq_iff_eq]at hp
  obtain⟨⟨hl,hs⟩,hp⟩:=hp
  obtain⟨b,c⟩:=h _ (Le.drew w)
  have:=J8 hs plan _ a _ (fun _=>b) (Cl.none _) hp (c a ha)
  rw[hl]at this
  refine wp_mono (wp_region_any hm (lU _ _ _ _ this)) ?_
  rintro e a w ⟨rfl,hq⟩
  exact hq
end
end Go.Sx

namespace Go.Sx
open Go Go.RowKit
section
variable {P:Program}{ops:Array Oper}{Q:Exit->Act->World->Prop}{n:Nat}
def qD:Value->Nat->Prop
  | .slice A _ c,k=>rowOf A c=some k
  | .pointer (some p),k=>p.block=k
  |_,_=>False
def jo (ops:Array Oper)(i:Nat):Nat:=((ops[i]?).bind (·.dst)).getD 0
def PE (ops:Array Oper)(U:List Nat)(dep:Nat->List Nat)(l1:Array Bool)(i:Nat):Bool:=
  !l1.getD i true&&(match ops[i]? with
    |some o=>kd o.op==2&&o.guard.isNone&&o.dst.isSome&&o.after.toList.all (fun e=> !Region.binds .any e||l1.getD e.on false||(U.contains e.on&&Nat.blt e.on i))
    |none=>false)&&(dep i).all fun j=>U.contains j&&((reach ops).getD i 0).testBit j
def LK (ops:Array Oper)(U:List Nat)(dep:Nat->List Nat)(l1:Array Bool):Bool:=
  U.all (PE ops U dep l1)&&decide (U.map (jo ops)).Nodup&&(List.range ops.size).all fun k=>l1.getD k true||U.contains k||U.all fun i=>((reach ops).getD k 0).testBit i
def kK (l:Array Bool)(U:List Nat):Array Bool:=U.foldl (fun l i=>l.setIfInBounds i true) l
theorem nE:∀(U:List Nat) (l:Array Bool),(kK l U).size=l.size
  |[],_=>rfl
  |i::U,l=>by
    show(kK (l.setIfInBounds i true) U).size=_
    rw[nE U,Array.size_setIfInBounds]
theorem si:∀(U:List Nat) (l:Array Bool) (k:Nat),(kK l U).getD k false=(l.getD k false||(U.contains k&&decide (k<l.size)))
  |[],l,k=>by simp[kK]
  |i::U,l,k=>by
    show(kK (l.setIfInBounds i true) U).getD k false=_
    rw[si U,Array.size_setIfInBounds]
    by_cases hik:i=k
    · subst hik
      by_cases hlt:i<l.size
      · simp[hlt]
      · simp[hlt]
    · rw[getD_set_ne false hik]
      have:(k==i)=false:=by simpa using fun h=>hik h.symm
      rw[List.contains_cons,this,Bool.false_or]
structure XK (U D:List Nat)(Φ:Nat->Value->World->Prop)(env:Env)(n:Nat)(w0:World)(f:Nat->Value)(ops:Array Oper)(a:Act)(w:World):Prop where
  rep:mV a n env
  slot:∀i∈U,i∉D->a.tmps[jo ops i]? =some (f i)
  le:Le w0 w
  phi:∀i∈U,i∉D->Φ i (f i) w
  foot:∀i∈U,i∉D->∀k,qD (f i) k->w0.heap.size<=k/\k<w.heap.size
  apart:∀i∈U,i∉D->∀j∈U,j∉D->i≠j->∀k,qD (f i) k->¬qD (f j) k
theorem qg {env:Env}{a:Act}(h:mV a n env)(f:Nat->Value):∀(L:List Nat),(∀i∈L,a.tmps[jo ops i]? =some (f i))->mV a n (L.map (fun i=>(jo ops i,f i))++env)
  |[],_=>h
  |i::L,hs=>by
    have ih:=qg h f L (fun j hj=>hs j (List.mem_cons_of_mem _ hj))
    refine⟨ih.1,ih.2.1,fun k v hk=>?_⟩
    rw[List.map_cons,List.cons_append]at hk
    by_cases hki:jo ops i=k
    · subst hki
      rw[uL]at hk
      injection hk with hk
      subst hk
      exact hs i List.mem_cons_self
    · rw[rY _ _ hki]at hk
      exact ih.2.2 k v hk
def Step (P:Program)(ops:Array Oper)(dep:Nat->List Nat)(Φ:Nat->Value->World->Prop)(env:Env)(n:Nat)(w0:World)(i:Nat):Prop:=
  ∀o,ops[i]? =some o->∀(f:Nat->Value) (w:World),Le w0 w->(∀j∈dep i,Φ j (f j) w)->Ef P ((dep i).map (fun j=>(jo ops j,f j))++env) n o w fun v w'=>Le w w'/\Φ i v w'/\∀k,qD v k->w.heap.size<=k/\k<w'.heap.size
theorem Step.JN {dep:Nat->List Nat}{Φ:Nat->Value->World->Prop}{env:Env}{w0:World}{i:Nat}{o:Oper}(hd:dep i=[])(ho:ops[i]? =some o)
    (h:∀w,Le w0 w->Ef P env n o w fun v w'=>Le w w'/\Φ i v w'/\∀k,qD v k->w.heap.size<=k/\k<w'.heap.size):Step P ops dep Φ env n w0 i:=fun o' ho' f w hle _=>by
  rw[ho]at ho'
  injection ho' with ho'
  subst ho'
  rw[hd]
  exact h w hle
theorem Step.Ta {dep:Nat->List Nat}{Φ:Nat->Value->World->Prop}{env:Env}{w0:World}{i j d:Nat}{o:Oper}(hd:dep i=[j])(hj:jo ops j=d)(ho:ops[i]? =some o)
    (h:∀v w,Le w0 w->Φ j v w->Ef P ((d,v)::env) n o w fun v w'=>Le w w'/\Φ i v w'/\∀k,qD v k->w.heap.size<=k/\k<w'.heap.size):Step P ops dep Φ env n w0 i:=fun o' ho' f w hle hp=>by
  rw[ho]at ho'
  injection ho' with ho'
  subst ho'
  rw[hd]at hp ⊢
  subst hj
  exact h (f j) w hle (hp j (List.mem_singleton.2 rfl))
theorem Ns {U R:List Nat}{dep:Nat->List Nat}{Φ:Nat->Value->World->Prop}{env:Env}{w0:World}{l1:Array Bool}(hs:Region.noSelect ops=true)(hsz:l1.size=ops.size)
    (hB:LK ops U dep l1=true)(hR:wY ops R (kK l1 U)=true)(xu:(U.all fun i=>(look env (jo ops i)).isNone&&Nat.blt (jo ops i) n)=true)
    (hst:∀i∈U,∀v w w',Φ i v w->Le w w'->Φ i v w')(hstep:∀i∈U,Step P ops dep Φ env n w0 i)
    (hfin:∀(f:Nat->Value) (w:World),Le w0 w->(∀i∈U,Φ i (f i) w)->(∀i∈U,∀k,qD (f i) k->w0.heap.size<=k/\k<w.heap.size)->(∀i∈U,∀j∈U,i≠j->∀k,qD (f i) k->¬qD (f j) k)->G P ops Q n R (U.map (fun i=>(jo ops i,f i))++env) w):
    ∀(m:Nat) (D:List Nat) (listed:Array Bool) (f:Nat->Value) (a:Act) (w:World),D.length=m->D.Nodup->(∀i∈D,i∈U)->listed.size=ops.size->
      (∀k,listed.getD k false=(l1.getD k false||(U.contains k&& !D.contains k&&decide (k<ops.size))))->Cl ops listed->XK U D Φ env n w0 f ops a w->kG P ops (qH Q) (Le w0) (m+R.length) listed a w:=by
  simp only[LK,Bool.and_eq_true,List.all_eq_true,decide_eq_true_eq,List.mem_range]at hB
  obtain⟨⟨hU,hnd⟩,hrest⟩:=hB
  have hop:∀i∈U,l1.getD i true=false/\(∃o d,ops[i]? =some o/\kd o.op=2/\o.guard=none/\o.dst=some d/\jo ops i=d/\(∀e∈o.after,Region.binds .any e=true->l1.getD e.on false=true\/(e.on∈U/\e.on<i)))/\∀j∈dep i,j∈U/\LB ops i j:=by
    intro i hi
    have h:=hU i hi
    simp only[PE,Bool.and_eq_true,Bool.not_eq_true',List.all_eq_true]at h
    obtain⟨⟨c,b⟩,l⟩:=h
    refine⟨c,?_,fun j hj=>⟨by simpa using(l j hj).1,nC ops i j (l j hj).2⟩⟩
    cases ho:ops[i]? with
    |none=>rw[ho]at b;cases b
    |some o=>
      rw[ho]at b
      simp only[Bool.and_eq_true,beq_iff_eq,Option.isNone_iff_eq_none,List.all_eq_true]at b
      obtain⟨⟨⟨x,C⟩,F⟩,H⟩:=b
      obtain⟨d,hd⟩:=Option.isSome_iff_exists.1 F
      refine⟨o,d,rfl,x,C,hd,by unfold jo;rw[ho];simp[hd],fun e he hb=>?_⟩
      have:=H e (by simpa using he)
      simp only[Bool.or_eq_true,Bool.not_eq_true',Bool.and_eq_true,hb]at this
      rcases this with(h|h)|h
      · cases h
      · exact .inl h
      · exact .inr ⟨by simpa using h.1,by simpa[Nat.blt_eq]using h.2⟩
  have hinj:∀i∈U,∀j∈U,jo ops i=jo ops j->i=j:=by
    intro i hi j hj h
    obtain⟨p,hp,rfl⟩:=List.getElem_of_mem hi
    obtain⟨q,hq,rfl⟩:=List.getElem_of_mem hj
    have hw:=List.pairwise_iff_getElem.1 hnd
    rcases Nat.lt_trichotomy p q with hpq|hpq|hpq
    · exact absurd (by rw[List.getElem_map,List.getElem_map];exact h) (hw p q (by simpa using hp) (by simpa using hq) hpq)
    · subst hpq
      rfl
    · exact absurd (by rw[List.getElem_map,List.getElem_map];exact h.symm) (hw q p (by simpa using hq) (by simpa using hp) hpq)
  intro m
  induction m with
  |zero=>
    intro D listed f a w hD _ _ hlz hl hcl hI
    have I:D=[]:=List.length_eq_zero_iff.1 hD
    subst I
    have hle:listed=kK l1 U:=by
      refine Array.ext (by rw[nE,hlz,hsz]) fun k c b=>?_
      have:=hl k
      have l:=si U l1 k
      rw[Array.getD_eq_getD_getElem?,Array.getElem?_eq_getElem c]at this
      rw[Array.getD_eq_getD_getElem?,Array.getElem?_eq_getElem b]at l
      simp only[Option.getD_some,List.contains_nil,Bool.not_false,Bool.and_true]at this l
      rw[this,l,hsz]
    subst hle
    have hg:=hfin f w hI.le (fun i hi=>hI.phi i hi (by simp)) (fun i hi=>hI.foot i hi (by simp)) (fun i hi j hj=>hI.apart i hi (by simp) j hj (by simp)) a (qg hI.rep f U (fun i hi=>hI.slot i hi (by simp)))
    rw[Nat.zero_add]
    exact oG (fun _ hw=>hI.le.trans hw) _ _ _ _ (uK hs R _ a w hcl hR hg)
  |succ m ih=>
    intro D listed f a w hD hDn Gw hlz hl hcl hI
    have hget:∀k,k<ops.size->listed.getD k true=listed.getD k false:=fun k hk=>by
      rw[Array.getD_eq_getD_getElem?,Array.getD_eq_getD_getElem?,Array.getElem?_eq_getElem (by omega)]
      rfl
    have y:∀i∈U,l1.getD i false=false/\i<ops.size:=fun i hi=>by
      have h:=(hop i hi).1
      have hlt:i<ops.size:=by
        obtain⟨o,_,ho,_⟩:=(hop i hi).2.1
        exact rf ho
      refine⟨?_,hlt⟩
      rw[Array.getD_eq_getD_getElem?,Array.getElem?_eq_getElem (by omega)]at h ⊢
      exact h
    have hun:∀i∈D,listed.getD i true=false:=fun i hi=>by
      rw[hget i (y i (Gw i hi)).2,hl i,(y i (Gw i hi)).1]
      have:D.contains i=true:=by simpa using hi
      rw[this]
      simp
    have Fx:∀i,i∈D->∃j,j∈Region.ready .any ops listed:=by
      intro i
      induction i using Nat.strongRecOn with
      |_ i ihi=>
        intro hi
        obtain⟨o,d,ho,_,_,_,_,haf⟩:=(hop i (Gw i hi)).2.1
        by_cases hall:∀e∈o.after,Region.binds .any e=true->listed.getD e.on false=true
        · exact⟨i,mem_ready.2 ⟨hun i hi,o,ho,hall⟩⟩
        · obtain⟨e,c⟩:=Classical.not_forall.1 hall
          obtain⟨he,b⟩:=Classical.not_forall.1 c
          obtain⟨hb,hne⟩:=Classical.not_forall.1 b
          rcases haf e he hb with h|⟨c,b⟩
          · exact absurd (by rw[hl,h];rfl) hne
          · refine ihi e.on b ?_
            apply Classical.byContradiction
            intro hd
            refine hne ?_
            rw[hl]
            have:D.contains e.on=false:=by simpa using hd
            rw[this]
            simp[c,(y _ c).2]
    obtain⟨i0,A⟩:∃i,i∈D:=by
      cases D with
      |nil=>simp at hD
      |cons i D=>exact⟨i,List.mem_cons_self⟩
    have hin:∀i∈Region.ready .any ops listed,i∈D:=by
      intro i hi
      obtain⟨hu,o,ho,hall⟩:=mem_ready.1 hi
      have hlt:=rf ho
      rw[hget i hlt,hl i,Bool.or_eq_false_iff]at hu
      by_cases AJ:i∈U
      · apply Classical.byContradiction
        intro hd
        have:D.contains i=false:=by simpa using hd
        rw[this]at hu
        simp[AJ,hlt]at hu
      · exfalso
        have h:=hrest i hlt
        simp only[Bool.or_eq_true,List.all_eq_true]at h
        rcases h with(h|h)|h
        · rw[Array.getD_eq_getD_getElem?,Array.getElem?_eq_getElem (by omega)]at h
          have b:=hu.1
          rw[Array.getD_eq_getD_getElem?,Array.getElem?_eq_getElem (by omega)]at b
          simp only[Option.getD_some]at h b
          rw[h]at b
          cases b
        · exact AJ (by simpa using h)
        · have l:=hcl.dep (nC ops i i0 (h i0 (Gw i0 A))) (fun oj hoj=>by rw[ho]at hoj;injection hoj with hoj;subst hoj;exact hall)
          have x:=hun i0 A
          rw[hget i0 (y i0 (Gw i0 A)).2,l]at x
          cases x
    rw[show m+1+R.length=(m+R.length)+1 by omega]
    refine⟨fun J=>?_,fun i hi=>?_⟩
    · obtain⟨j,hj⟩:=Fx i0 A
      rw[J]at hj
      cases hj
    · have yx:=hin i hi
      have AJ:=Gw i yx
      obtain⟨_,o',ho',hall⟩:=mem_ready.1 hi
      obtain⟨o,d,ho,hk,hg,hd,hdd,_⟩:=(hop i AJ).2.1
      rw[ho]at ho'
      injection ho' with ho'
      subst ho'
      have hnot:∀j∈dep i,j∈U/\j∉D:=fun j hj=>by
        have c:=(hop i AJ).2.2 j hj
        refine⟨c.1,fun DR=>?_⟩
        have l:=hcl.dep c.2 (fun oj hoj=>by rw[ho]at hoj;injection hoj with hoj;subst hoj;exact hall)
        have x:=hun j DR
        rw[hget j (y j c.1).2,l]at x
        cases x
      have hef:=hstep i AJ o ho f w hI.le (fun j hj=>hI.phi j (hnot j hj).1 (hnot j hj).2) a (qg hI.rep f (dep i) (fun j hj=>hI.slot j (hnot j hj).1 (hnot j hj).2))
      simp only[List.all_eq_true,Bool.and_eq_true,Option.isNone_iff_eq_none,Nat.blt_eq]at xu
      unfold wpOp
      simp only[ho]
      rw[if_pos (by unfold Region.wanted;rw[hg])]
      left
      refine Oper.tV (Oper.wp_mono (fun a' w' hh=>?_) hef)
      obtain⟨v,rfl,hle,Fy,ry⟩:=hh
      have hne:∀j,j∈D.erase i↔j≠i/\j∈D:=fun j=>List.Nodup.mem_erase_iff hDn
      have hjd:∀j∈U,j∉D.erase i->j≠i->j∉D:=fun j _ c b l=>c ((hne j).2 ⟨b,l⟩)
      refine⟨?_,ih (D.erase i) (listed.setIfInBounds i true) (fun j=>if j=i then v else f j) _ w' ?_ (hDn.erase i) (fun j hj=>Gw j ((hne j).1 hj).2) (by rw[Array.size_setIfInBounds,hlz]) ?_ (hcl.set hi) ?_⟩
      · unfold Ob
        split
        · exact fun _=>hI.le.trans hle
        · rename_i t
          exact absurd (by unfold k2;rw[ho];simpa using hk) t
      · rw[List.length_erase_of_mem yx,hD]
        rfl
      · intro k
        by_cases hik:i=k
        · subst hik
          have hlt:=(y i AJ).2
          rw[Array.getD_eq_getD_getElem?,Array.getElem?_setIfInBounds_self_of_lt (by omega)]
          have c:(D.erase i).contains i=false:=by
            have:i∉D.erase i:=fun h=>((hne i).1 h).1 rfl
            simpa using this
          rw[c]
          simp[AJ,hlt]
        · rw[getD_set_ne false hik,hl k]
          have c:(D.erase i).contains k=D.contains k:=by
            rw[Bool.eq_iff_iff]
            simp only[List.contains_iff_mem,hne]
            exact⟨fun h=>h.2,fun h=>⟨fun b=>hik b.symm,h⟩⟩
          rw[c]
      · have hdn:look env d=none/\d<n:=by rw[<-hdd];exact xu i AJ
        rw[hd]
        have hother:∀j∈U,j≠i->jo ops j≠d:=fun j hj hji h=>hji (hinj j hj i AJ (by rw[h,hdd]))
        have hput:∀s,s≠d->(a.put (some d) v).tmps[s]? =a.tmps[s]? :=fun s hsd=>by
          simp[Act.put,Array.getElem?_setIfInBounds_ne (Ne.symm hsd)]
        have hsame:(a.put (some d) v).tmps[d]? =some v:=by
          have:=hI.rep.2.1
          simp[Act.put,this,hdn.2]
        refine⟨⟨hI.rep.1,by simp[Act.put,hI.rep.2.1],fun s u hsu=>?_⟩,fun j hj DR=>?_,hI.le.trans hle,fun j hj DR=>?_,fun j hj DR k hk'=>?_,fun j hj DR q hq XL hjq k z t=>?_⟩
        · by_cases hsd:s=d
          · subst hsd
            rw[hdn.1]at hsu
            cases hsu
          · rw[hput s hsd]
            exact hI.rep.2.2 s u hsu
        · by_cases hji:j=i
          · subst hji
            rw[if_pos rfl,hdd]
            exact hsame
          · rw[if_neg hji,hput _ (hother j hj hji)]
            exact hI.slot j hj (hjd j hj DR hji)
        · by_cases hji:j=i
          · subst hji
            rw[if_pos rfl]
            exact Fy
          · rw[if_neg hji]
            exact hst j hj _ _ _ (hI.phi j hj (hjd j hj DR hji)) hle
        · by_cases hji:j=i
          · subst hji
            rw[if_pos rfl]at hk'
            have:=ry k hk'
            have:=hI.le.size
            omega
          · rw[if_neg hji]at hk'
            have:=hI.foot j hj (hjd j hj DR hji) k hk'
            have:=hle.size
            omega
        · by_cases hji:j=i
          · subst hji
            rw[if_pos rfl]at z
            rw[if_neg (Ne.symm hjq)]at t
            have c:=ry k z
            have b:=hI.foot q hq (hjd q hq XL (Ne.symm hjq)) k t
            omega
          · rw[if_neg hji]at z
            by_cases hqi:q=i
            · subst hqi
              rw[if_pos rfl]at t
              have c:=ry k t
              have b:=hI.foot j hj (hjd j hj DR hji) k z
              omega
            · rw[if_neg hqi]at t
              exact hI.apart j hj (hjd j hj DR hji) q hq (hjd q hq XL hqi) hjq k z t
def Hw (ops:Array Oper):List Nat->Array Bool->Bool
  |[],_=>true
  |i::rest,listed=> !k2 ops i&&(Region.ready .any ops listed).contains i&&Region.free .any ops listed i&&Hw ops rest (listed.setIfInBounds i true)
theorem wo {K:Act->World->Prop}{w:World}{r:Nat}{l1:Array Bool}(hs:Region.noSelect ops=true)(hK:∀a,K a w->Cl ops l1->kG P ops (qH Q) (Le w) r l1 a w):∀(L:List Nat) (listed:Array Bool) (a:Act),
    Cl ops listed->Hw ops L listed=true->l1=kK listed L->R4 P ops (fun _ a w=>K a w) L a w->kG P ops (qH Q) (Le w) (L.length+r) listed a w
  |[],listed,a,hcl,_,hl,h=>by
    rw[show l1=listed from hl]at hK
    rw[List.length_nil,Nat.zero_add]
    exact hK a h hcl
  |i::rest,listed,a,hcl,hp,hl,h=>by
    obtain⟨o,ho,h⟩:=h
    simp only[Hw,Bool.and_eq_true,Bool.not_eq_true']at hp
    obtain⟨⟨⟨b,c⟩,d⟩,e⟩:=hp
    have hk:¬kd o.op=2:=by unfold k2 at b;rw[ho]at b;simpa using b
    rw[if_neg hk]at h
    obtain⟨v,hy,h⟩:=h
    rw[List.length_cons,show rest.length+1+r=rest.length+r+1 by omega]
    exact mf ho (Region.noSelect_spec hs) (fun _ _ _ hf=>by cases hf.1) hk _ listed a w hcl (Region.free_spec ho d) (by simpa using c) hy (fun _=>Le.refl w) (wo hs hK rest _ _ (hcl.set (by simpa using c)) e hl h)
def U2 (ops:Array Oper)(P0 U R:List Nat)(dep:Nat->List Nat):Bool:=
  P0.length+(U.length+R.length)==ops.size&&Region.noSelect ops&&Hw ops P0 (Array.replicate ops.size false)&&LK ops U dep (kK (Array.replicate ops.size false) P0)&&wY ops R (kK (kK (Array.replicate ops.size false) P0) U)
def Tc (P:Program)(ops:Array Oper)(Q:Exit->Act->World->Prop)(n:Nat)(U R:List Nat)(dep:Nat->List Nat)(env:Env)(w:World):Prop:=
  (U.all fun i=>(look env (jo ops i)).isNone&&Nat.blt (jo ops i) n)=true/\∃Φ:Nat->Value->World->Prop,(∀i∈U,∀v w w',Φ i v w->Le w w'->Φ i v w')/\(∀i∈U,Step P ops dep Φ env n w i)/\
    ∀(f:Nat->Value) (w':World),Le w w'->(∀i∈U,Φ i (f i) w')->(∀i∈U,∀k,qD (f i) k->w.heap.size<=k/\k<w'.heap.size)->(∀i∈U,∀j∈U,i≠j->∀k,qD (f i) k->¬qD (f j) k)->G P ops Q n R (U.map (fun i=>(jo ops i,f i))++env) w'
theorem E.free {U R:List Nat}{dep:Nat->List Nat}{env:Env}{w:World}(h:Tc P ops Q n U R dep env w):E (fun _ a w=>∃env,mV a n env/\Tc P ops Q n U R dep env w) n .normal env w:=fun _ ha=>⟨env,ha,h⟩
theorem WC.XM {env:Env}{w:World}{id:Nat}(P0 U R:List Nat)(dep:Nat->List Nat)(hm:P.follows .mixedOrders=true)(hp:U2 ops P0 U R dep=true)
    (h:∀w',Le w w'->G P ops (fun _ a w=>∃env,mV a n env/\Tc P ops Q n U R dep env w) n P0 env w'):WC P Q n (.region id ops true) env w:=fun a ha=>by
  simp only[U2,Bool.and_eq_true,beq_iff_eq]at hp
  obtain⟨⟨⟨⟨hl,hs⟩,c⟩,Wi⟩,hpR⟩:=hp
  have hn:U.Nodup:=by
    simp only[LK,Bool.and_eq_true,decide_eq_true_eq]at Wi
    exact List.Pairwise.of_map (jo ops) (fun a b h e=>h (by rw[e])) Wi.1.2
  have hz:(kK (Array.replicate ops.size false) P0).size=ops.size:=by rw[nE];simp
  have:=wo (Q:=Q) (r:=U.length+R.length) (w:={w with drawn:=w.drawn+1}) (K:=fun a w=>∃env,mV a n env/\Tc P ops Q n U R dep env w) hs (fun a' ⟨env',hr,xu,Φ,d,f,j⟩ hcl=>by
    refine Ns hs hz Wi hpR xu d f j U.length U _ (fun _=>undef) a' _ rfl hn (fun i hi=>hi) hz (fun k=>?_) hcl ⟨hr,fun i hi hd=>absurd hi hd,Le.refl _,fun i hi hd=>absurd hi hd,fun i hi hd=>absurd hi hd,fun i hi hd=>absurd hi hd⟩
    cases U.contains k<;>simp) P0 _ a (Cl.none _) c rfl (h _ (Le.drew w) a ha)
  rw[hl]at this
  refine wp_mono (wp_region_any hm (lU _ _ _ _ this)) ?_
  rintro e a w ⟨rfl,hq⟩
  exact hq
end
end Go.Sx

namespace Go.Sx
open Go Go.RowKit
section
variable {P:Program}{ops:Array Oper}{Q:Exit->Act->World->Prop}{n:Nat}
theorem Step.of2 {dep:Nat->List Nat}{Φ:Nat->Value->World->Prop}{env:Env}{w0:World}{i j k d e:Nat}{o:Oper}(hd:dep i=[j,k])(hj:jo ops j=d)(hk:jo ops k=e)(ho:ops[i]? =some o)
    (h:∀v u w,Le w0 w->Φ j v w->Φ k u w->Ef P ((d,v)::(e,u)::env) n o w fun r w'=>Le w w'/\Φ i r w'/\∀q,qD r q->w.heap.size<=q/\q<w'.heap.size):Step P ops dep Φ env n w0 i:=fun o' ho' f w hle hp=>by
  rw[ho]at ho'
  injection ho' with ho'
  subst ho'
  rw[hd]at hp ⊢
  subst hj
  subst hk
  exact h (f j) (f k) w hle (hp j (by simp)) (hp k (by simp))
def XN (P:Program)(ops:Array Oper)(dep:Nat->List Nat)(Φ:Nat->Value->World->Prop)(env:Env)(n:Nat)(w0:World)(i:Nat):Prop:=
  ∀o,ops[i]? =some o->∀(f:Nat->Value) (w:World),Le w0 w->(∀j∈dep i,Φ j (f j) w)->∃v,(∀a,mV a n ((dep i).map (fun j=>(jo ops j,f j))++env)->∀w',(execOp a.eval o).run P w'= .ok (.value v) w')/\Φ i v w/\∀k,¬qD v k
def vN (P:Program)(ops:Array Oper)(dep:Nat->List Nat)(Φ:Nat->Value->World->Prop)(env:Env)(n:Nat)(w0:World)(i:Nat):Prop:=
  (k2 ops i=true/\Step P ops dep Φ env n w0 i)\/(k2 ops i=false/\XN P ops dep Φ env n w0 i)
theorem vN.Ei {dep:Nat->List Nat}{Φ:Nat->Value->World->Prop}{env:Env}{w0:World}{i j d:Nat}{o:Oper}(hk:k2 ops i=false)(hd:dep i=[j])(hj:jo ops j=d)(ho:ops[i]? =some o)
    (h:∀u w,Le w0 w->Φ j u w->∃v,Any P ((d,u)::env) n o v/\Φ i v w/\∀k,¬qD v k):vN P ops dep Φ env n w0 i:= .inr ⟨hk,fun o' ho' f w hle hp=>by
  rw[ho]at ho'
  injection ho' with ho'
  subst ho'
  rw[hd]at hp ⊢
  subst hj
  exact h (f j) w hle (hp j (List.mem_singleton.2 rfl))⟩
def LM (ops:Array Oper)(U:List Nat)(dep:Nat->List Nat)(l1:Array Bool)(i:Nat):Bool:=
  !l1.getD i true&&(match ops[i]? with
    |some o=>(kd o.op==2||(kd o.op==0&&Region.free .any ops (kK l1 (U.filter fun j=>((reach ops).getD i 0).testBit j)) i))&&o.guard.isNone&&o.dst.isSome&&o.after.toList.all (fun e=> !Region.binds .any e||l1.getD e.on false||(U.contains e.on&&Nat.blt e.on i))
    |none=>false)&&(dep i).all fun j=>U.contains j&&((reach ops).getD i 0).testBit j
def Fz (ops:Array Oper)(U:List Nat)(dep:Nat->List Nat)(l1:Array Bool):Bool:=
  U.all (LM ops U dep l1)&&decide (U.map (jo ops)).Nodup&&(List.range ops.size).all fun k=>l1.getD k true||U.contains k||U.all fun i=> !k2 ops i||((reach ops).getD k 0).testBit i
theorem J9 {U R:List Nat}{dep:Nat->List Nat}{Φ:Nat->Value->World->Prop}{env:Env}{w0:World}{l1:Array Bool}(hs:Region.noSelect ops=true)(hsz:l1.size=ops.size)
    (hB:Fz ops U dep l1=true)(hR:wY ops R (kK l1 U)=true)(xu:(U.all fun i=>(look env (jo ops i)).isNone&&Nat.blt (jo ops i) n)=true)
    (hst:∀i∈U,∀v w w',Φ i v w->Le w w'->Φ i v w')(hstep:∀i∈U,vN P ops dep Φ env n w0 i)
    (hfin:∀(f:Nat->Value) (w:World),Le w0 w->(∀i∈U,Φ i (f i) w)->(∀i∈U,∀k,qD (f i) k->w0.heap.size<=k/\k<w.heap.size)->(∀i∈U,∀j∈U,i≠j->∀k,qD (f i) k->¬qD (f j) k)->G P ops Q n R (U.map (fun i=>(jo ops i,f i))++env) w):
    ∀(m:Nat) (D:List Nat) (listed:Array Bool) (f:Nat->Value) (a:Act) (w:World),D.length=m->D.Nodup->(∀i∈D,i∈U)->listed.size=ops.size->
      (∀k,listed.getD k false=(l1.getD k false||(U.contains k&& !D.contains k&&decide (k<ops.size))))->Cl ops listed->XK U D Φ env n w0 f ops a w->kG P ops (qH Q) (Le w0) (m+R.length) listed a w:=by
  simp only[Fz,Bool.and_eq_true,List.all_eq_true,decide_eq_true_eq,List.mem_range]at hB
  obtain⟨⟨hU,hnd⟩,hrest⟩:=hB
  have hop:∀i∈U,l1.getD i true=false/\(∃o d,ops[i]? =some o/\(kd o.op=2\/(kd o.op=0/\Region.free .any ops (kK l1 (U.filter fun j=>((reach ops).getD i 0).testBit j)) i=true))/\o.guard=none/\o.dst=some d/\jo ops i=d/\(∀e∈o.after,Region.binds .any e=true->l1.getD e.on false=true\/(e.on∈U/\e.on<i)))/\∀j∈dep i,j∈U/\LB ops i j:=by
    intro i hi
    have h:=hU i hi
    simp only[LM,Bool.and_eq_true,Bool.not_eq_true',List.all_eq_true]at h
    obtain⟨⟨b,c⟩,l⟩:=h
    refine⟨b,?_,fun j hj=>⟨by simpa using(l j hj).1,nC ops i j (l j hj).2⟩⟩
    cases ho:ops[i]? with
    |none=>rw[ho]at c;cases c
    |some o=>
      rw[ho]at c
      simp only[Bool.and_eq_true,Bool.or_eq_true,beq_iff_eq,Option.isNone_iff_eq_none,List.all_eq_true]at c
      obtain⟨⟨⟨x,H⟩,A⟩,K⟩:=c
      obtain⟨d,hd⟩:=Option.isSome_iff_exists.1 A
      refine⟨o,d,rfl,x,H,hd,by unfold jo;rw[ho];simp[hd],fun e he hb=>?_⟩
      have:=K e (by simpa using he)
      simp only[Bool.or_eq_true,Bool.not_eq_true',Bool.and_eq_true,hb]at this
      rcases this with(h|h)|h
      · cases h
      · exact .inl h
      · exact .inr ⟨by simpa using h.1,by simpa[Nat.blt_eq]using h.2⟩
  have hinj:∀i∈U,∀j∈U,jo ops i=jo ops j->i=j:=by
    intro i hi j hj h
    obtain⟨p,hp,rfl⟩:=List.getElem_of_mem hi
    obtain⟨q,hq,rfl⟩:=List.getElem_of_mem hj
    have hw:=List.pairwise_iff_getElem.1 hnd
    rcases Nat.lt_trichotomy p q with hpq|hpq|hpq
    · exact absurd (by rw[List.getElem_map,List.getElem_map];exact h) (hw p q (by simpa using hp) (by simpa using hq) hpq)
    · subst hpq
      rfl
    · exact absurd (by rw[List.getElem_map,List.getElem_map];exact h.symm) (hw q p (by simpa using hq) (by simpa using hp) hpq)
  intro m
  induction m with
  |zero=>
    intro D listed f a w hD _ _ hlz hl hcl hI
    have L:D=[]:=List.length_eq_zero_iff.1 hD
    subst L
    have hle:listed=kK l1 U:=by
      refine Array.ext (by rw[nE,hlz,hsz]) fun k b c=>?_
      have:=hl k
      have l:=si U l1 k
      rw[Array.getD_eq_getD_getElem?,Array.getElem?_eq_getElem b]at this
      rw[Array.getD_eq_getD_getElem?,Array.getElem?_eq_getElem c]at l
      simp only[Option.getD_some,List.contains_nil,Bool.not_false,Bool.and_true]at this l
      rw[this,l,hsz]
    subst hle
    have hg:=hfin f w hI.le (fun i hi=>hI.phi i hi (by simp)) (fun i hi=>hI.foot i hi (by simp)) (fun i hi j hj=>hI.apart i hi (by simp) j hj (by simp)) a (qg hI.rep f U (fun i hi=>hI.slot i hi (by simp)))
    rw[Nat.zero_add]
    exact oG (fun _ hw=>hI.le.trans hw) _ _ _ _ (uK hs R _ a w hcl hR hg)
  |succ m ih=>
    intro D listed f a w hD hDn Gw hlz hl hcl hI
    have hget:∀k,k<ops.size->listed.getD k true=listed.getD k false:=fun k hk=>by
      rw[Array.getD_eq_getD_getElem?,Array.getD_eq_getD_getElem?,Array.getElem?_eq_getElem (by omega)]
      rfl
    have y:∀i∈U,l1.getD i false=false/\i<ops.size:=fun i hi=>by
      have h:=(hop i hi).1
      have hlt:i<ops.size:=by
        obtain⟨o,_,ho,_⟩:=(hop i hi).2.1
        exact rf ho
      refine⟨?_,hlt⟩
      rw[Array.getD_eq_getD_getElem?,Array.getElem?_eq_getElem (by omega)]at h ⊢
      exact h
    have hun:∀i∈D,listed.getD i true=false:=fun i hi=>by
      rw[hget i (y i (Gw i hi)).2,hl i,(y i (Gw i hi)).1]
      have:D.contains i=true:=by simpa using hi
      rw[this]
      simp
    have Fx:∀i,i∈D->∃j,j∈D/\j∈Region.ready .any ops listed:=by
      intro i
      induction i using Nat.strongRecOn with
      |_ i ihi=>
        intro hi
        obtain⟨o,d,ho,_,_,_,_,haf⟩:=(hop i (Gw i hi)).2.1
        by_cases hall:∀e∈o.after,Region.binds .any e=true->listed.getD e.on false=true
        · exact⟨i,hi,mem_ready.2 ⟨hun i hi,o,ho,hall⟩⟩
        · obtain⟨e,b⟩:=Classical.not_forall.1 hall
          obtain⟨he,c⟩:=Classical.not_forall.1 b
          obtain⟨hb,hne⟩:=Classical.not_forall.1 c
          rcases haf e he hb with h|⟨b,c⟩
          · exact absurd (by rw[hl,h];rfl) hne
          · refine ihi e.on c ?_
            apply Classical.byContradiction
            intro hd
            refine hne ?_
            rw[hl]
            have:D.contains e.on=false:=by simpa using hd
            rw[this]
            simp[b,(y _ b).2]
    have hnot:∀i∈D,i∈Region.ready .any ops listed->∀j∈dep i,j∈U/\j∉D:=fun i yx hi j hj=>by
      obtain⟨_,o,ho,hall⟩:=mem_ready.1 hi
      have b:=(hop i (Gw i yx)).2.2 j hj
      refine⟨b.1,fun DR=>?_⟩
      have l:=hcl.dep b.2 (fun oj hoj=>by rw[ho]at hoj;injection hoj with hoj;subst hoj;exact hall)
      have x:=hun j DR
      rw[hget j (y j b.1).2,l]at x
      cases x
    simp only[List.all_eq_true,Bool.and_eq_true,Option.isNone_iff_eq_none,Nat.blt_eq]at xu
    have hnext:∀i,i∈D->i∈Region.ready .any ops listed->∀o d,ops[i]? =some o->o.dst=some d->jo ops i=d->∀v w',Le w w'->Φ i v w'->(∀k,qD v k->w.heap.size<=k/\k<w'.heap.size)->kG P ops (qH Q) (Le w0) (m+R.length) (listed.setIfInBounds i true) (a.put (some d) v) w':=by
      intro i yx hi o d ho hd hdd v w' hle Fy ry
      have AJ:=Gw i yx
      have hne:∀j,j∈D.erase i↔j≠i/\j∈D:=fun j=>List.Nodup.mem_erase_iff hDn
      have hjd:∀j∈U,j∉D.erase i->j≠i->j∉D:=fun j _ b c l=>b ((hne j).2 ⟨c,l⟩)
      refine ih (D.erase i) (listed.setIfInBounds i true) (fun j=>if j=i then v else f j) _ w' ?_ (hDn.erase i) (fun j hj=>Gw j ((hne j).1 hj).2) (by rw[Array.size_setIfInBounds,hlz]) ?_ (hcl.set hi) ?_
      · rw[List.length_erase_of_mem yx,hD]
        rfl
      · intro k
        by_cases hik:i=k
        · subst hik
          have hlt:=(y i AJ).2
          rw[Array.getD_eq_getD_getElem?,Array.getElem?_setIfInBounds_self_of_lt (by omega)]
          have b:(D.erase i).contains i=false:=by
            have:i∉D.erase i:=fun h=>((hne i).1 h).1 rfl
            simpa using this
          rw[b]
          simp[AJ,hlt]
        · rw[getD_set_ne false hik,hl k]
          have b:(D.erase i).contains k=D.contains k:=by
            rw[Bool.eq_iff_iff]
            simp only[List.contains_iff_mem,hne]
            exact⟨fun h=>h.2,fun h=>⟨fun c=>hik c.symm,h⟩⟩
          rw[b]
      · have hdn:look env d=none/\d<n:=by rw[<-hdd];exact xu i AJ
        have hother:∀j∈U,j≠i->jo ops j≠d:=fun j hj hji h=>hji (hinj j hj i AJ (by rw[h,hdd]))
        have hput:∀s,s≠d->(a.put (some d) v).tmps[s]? =a.tmps[s]? :=fun s hsd=>by
          simp[Act.put,Array.getElem?_setIfInBounds_ne (Ne.symm hsd)]
        have hsame:(a.put (some d) v).tmps[d]? =some v:=by
          have:=hI.rep.2.1
          simp[Act.put,this,hdn.2]
        refine⟨⟨hI.rep.1,by simp[Act.put,hI.rep.2.1],fun s u hsu=>?_⟩,fun j hj DR=>?_,hI.le.trans hle,fun j hj DR=>?_,fun j hj DR k hk'=>?_,fun j hj DR q hq XL hjq k z t=>?_⟩
        · by_cases hsd:s=d
          · subst hsd
            rw[hdn.1]at hsu
            cases hsu
          · rw[hput s hsd]
            exact hI.rep.2.2 s u hsu
        · by_cases hji:j=i
          · subst hji
            rw[if_pos rfl,hdd]
            exact hsame
          · rw[if_neg hji,hput _ (hother j hj hji)]
            exact hI.slot j hj (hjd j hj DR hji)
        · by_cases hji:j=i
          · subst hji
            rw[if_pos rfl]
            exact Fy
          · rw[if_neg hji]
            exact hst j hj _ _ _ (hI.phi j hj (hjd j hj DR hji)) hle
        · by_cases hji:j=i
          · subst hji
            rw[if_pos rfl]at hk'
            have:=ry k hk'
            have:=hI.le.size
            omega
          · rw[if_neg hji]at hk'
            have:=hI.foot j hj (hjd j hj DR hji) k hk'
            have:=hle.size
            omega
        · by_cases hji:j=i
          · subst hji
            rw[if_pos rfl]at z
            rw[if_neg (Ne.symm hjq)]at t
            have b:=ry k z
            have c:=hI.foot q hq (hjd q hq XL (Ne.symm hjq)) k t
            omega
          · rw[if_neg hji]at z
            by_cases hqi:q=i
            · subst hqi
              rw[if_pos rfl]at t
              have b:=ry k t
              have c:=hI.foot j hj (hjd j hj DR hji) k z
              omega
            · rw[if_neg hqi]at t
              exact hI.apart j hj (hjd j hj DR hji) q hq (hjd q hq XL hqi) hjq k z t
    rw[show m+1+R.length=(m+R.length)+1 by omega]
    by_cases hact:∃i,i∈D/\k2 ops i=true
    · obtain⟨i0,C,I⟩:=hact
      have hin:∀i∈Region.ready .any ops listed,i∈D:=by
        intro i hi
        obtain⟨hu,o,ho,hall⟩:=mem_ready.1 hi
        have hlt:=rf ho
        rw[hget i hlt,hl i,Bool.or_eq_false_iff]at hu
        by_cases AJ:i∈U
        · apply Classical.byContradiction
          intro hd
          have:D.contains i=false:=by simpa using hd
          rw[this]at hu
          simp[AJ,hlt]at hu
        · exfalso
          have h:=hrest i hlt
          simp only[Bool.or_eq_true,List.all_eq_true,Bool.not_eq_true']at h
          rcases h with(h|h)|h
          · rw[Array.getD_eq_getD_getElem?,Array.getElem?_eq_getElem (by omega)]at h
            have c:=hu.1
            rw[Array.getD_eq_getD_getElem?,Array.getElem?_eq_getElem (by omega)]at c
            simp only[Option.getD_some]at h c
            rw[h]at c
            cases c
          · exact AJ (by simpa using h)
          · have l:=hcl.dep (nC ops i i0 ((h i0 (Gw i0 C)).resolve_left (by rw[I];decide))) (fun oj hoj=>by rw[ho]at hoj;injection hoj with hoj;subst hoj;exact hall)
            have x:=hun i0 C
            rw[hget i0 (y i0 (Gw i0 C)).2,l]at x
            cases x
      refine⟨fun N=>?_,fun i hi=>?_⟩
      · obtain⟨j,_,hj⟩:=Fx i0 C
        rw[N]at hj
        cases hj
      · have yx:=hin i hi
        have AJ:=Gw i yx
        obtain⟨o,d,ho,hk,hg,hd,hdd,_⟩:=(hop i AJ).2.1
        rcases hstep i AJ with⟨t,O⟩|⟨t,J⟩
        · have hef:=O o ho f w hI.le (fun j hj=>hI.phi j (hnot i yx hi j hj).1 (hnot i yx hi j hj).2) a (qg hI.rep f (dep i) (fun j hj=>hI.slot j (hnot i yx hi j hj).1 (hnot i yx hi j hj).2))
          unfold wpOp
          simp only[ho]
          rw[if_pos (by unfold Region.wanted;rw[hg])]
          left
          refine Oper.tV (Oper.wp_mono (fun a' w' hh=>?_) hef)
          obtain⟨v,rfl,hle,Fy,ry⟩:=hh
          rw[hd]
          refine⟨?_,hnext i yx hi o d ho hd hdd v w' hle Fy ry⟩
          unfold Ob
          rw[if_pos t]
          exact fun _=>hI.le.trans hle
        · obtain⟨v,hy,Fy,ry⟩:=J o ho f w hI.le (fun j hj=>hI.phi j (hnot i yx hi j hj).1 (hnot i yx hi j hj).2)
          have hef:Ef P ((dep i).map (fun j=>(jo ops j,f j))++env) n o w (fun v' w'=>v'=v/\w'=w):=Ef.of_run (fun a' ha'=>hy a' ha' w) ⟨rfl,rfl⟩
          have hef:=hef a (qg hI.rep f (dep i) (fun j hj=>hI.slot j (hnot i yx hi j hj).1 (hnot i yx hi j hj).2))
          unfold wpOp
          simp only[ho]
          rw[if_pos (by unfold Region.wanted;rw[hg])]
          left
          refine Oper.tV (Oper.wp_mono (fun a' w' hh=>?_) hef)
          obtain⟨v',rfl,hv,hw⟩:=hh
          subst hv
          subst hw
          rw[hd]
          refine⟨?_,hnext i yx hi o d ho hd hdd _ _ (Le.refl _) Fy (fun k hk=>absurd hk (ry k))⟩
          unfold Ob
          rw[if_neg (by rw[t];decide)]
    · obtain⟨i1,S⟩:∃i,i∈D:=by
        cases D with
        |nil=>simp at hD
        |cons i D=>exact⟨i,List.mem_cons_self⟩
      obtain⟨i,yx,hi⟩:=Fx i1 S
      have AJ:=Gw i yx
      obtain⟨o,d,ho,hk,hg,hd,hdd,_⟩:=(hop i AJ).2.1
      rcases hstep i AJ with⟨t,_⟩|⟨t,J⟩
      · exact absurd ⟨i,yx,t⟩ hact
      · have hkn:¬kd o.op=2:=by unfold k2 at t;rw[ho]at t;simpa using t
        obtain⟨I,hfree⟩:=hk.resolve_left hkn
        obtain⟨v,hy,Fy,ry⟩:=J o ho f w hI.le (fun j hj=>hI.phi j (hnot i yx hi j hj).1 (hnot i yx hi j hj).2)
        have hrep:=qg hI.rep f (dep i) (fun j hj=>hI.slot j (hnot i yx hi j hj).1 (hnot i yx hi j hj).2)
        refine mf (v:=v) ho (Region.noSelect_spec hs) (fun _ _ _ hf=>by cases hf.1) hkn _ listed a w hcl (fun j oj hj hne hun' hno=>Region.free_spec ho hfree j oj hj hne ?_ hno) hi (.inl ⟨by unfold Region.wanted;rw[hg],fun w' _=>hy a hrep w'⟩) (fun b=>absurd (I.symm.trans b) (by decide)) ?_
        · have hlt:=rf hj
          have b:=hl j
          rw[<-hget j hlt,hun']at b
          have c:=(Bool.or_eq_false_iff.1 b.symm).1
          have l:=si (U.filter fun j=>((reach ops).getD i 0).testBit j) l1 j
          have H:(U.filter fun j=>((reach ops).getD i 0).testBit j).contains j=false:=by
            rw[Bool.eq_false_iff]
            intro hc
            have hm:j∈U.filter fun j=>((reach ops).getD i 0).testBit j:=by simpa using hc
            have hr:=(List.mem_filter.1 hm).2
            obtain⟨_,X,T,V⟩:=mem_ready.1 hi
            have A:=hcl.dep (nC ops i j hr) (fun Y F=>by rw[T]at F;injection F with F;subst F;exact V)
            rw[<-hget j hlt,hun']at A
            cases A
          rw[c,H,Bool.false_and,Bool.or_false]at l
          rw[Array.getD_eq_getD_getElem?,Array.getElem?_eq_getElem (by rw[nE];omega)]at l ⊢
          exact l
        · rw[hd]
          exact hnext i yx hi o d ho hd hdd v w (Le.refl _) Fy (fun k hk=>absurd hk (ry k))
def U3 (ops:Array Oper)(P0 U R:List Nat)(dep:Nat->List Nat):Bool:=
  P0.length+(U.length+R.length)==ops.size&&Region.noSelect ops&&Hw ops P0 (Array.replicate ops.size false)&&Fz ops U dep (kK (Array.replicate ops.size false) P0)&&wY ops R (kK (kK (Array.replicate ops.size false) P0) U)
def LP (P:Program)(ops:Array Oper)(Q:Exit->Act->World->Prop)(n:Nat)(U R:List Nat)(dep:Nat->List Nat)(env:Env)(w:World):Prop:=
  (U.all fun i=>(look env (jo ops i)).isNone&&Nat.blt (jo ops i) n)=true/\∃Φ:Nat->Value->World->Prop,(∀i∈U,∀v w w',Φ i v w->Le w w'->Φ i v w')/\(∀i∈U,vN P ops dep Φ env n w i)/\
    ∀(f:Nat->Value) (w':World),Le w w'->(∀i∈U,Φ i (f i) w')->(∀i∈U,∀k,qD (f i) k->w.heap.size<=k/\k<w'.heap.size)->(∀i∈U,∀j∈U,i≠j->∀k,qD (f i) k->¬qD (f j) k)->G P ops Q n R (U.map (fun i=>(jo ops i,f i))++env) w'
theorem E.Hy {U R:List Nat}{dep:Nat->List Nat}{env:Env}{w:World}(h:LP P ops Q n U R dep env w):E (fun _ a w=>∃env,mV a n env/\LP P ops Q n U R dep env w) n .normal env w:=fun _ ha=>⟨env,ha,h⟩
theorem WC.Hz {env:Env}{w:World}{id:Nat}(P0 U R:List Nat)(dep:Nat->List Nat)(hm:P.follows .mixedOrders=true)(hp:U3 ops P0 U R dep=true)
    (h:∀w',Le w w'->G P ops (fun _ a w=>∃env,mV a n env/\LP P ops Q n U R dep env w) n P0 env w'):WC P Q n (.region id ops true) env w:=fun a ha=>by
  simp only[U3,Bool.and_eq_true,beq_iff_eq]at hp
  obtain⟨⟨⟨⟨hl,hs⟩,c⟩,Wi⟩,hpR⟩:=hp
  have hn:U.Nodup:=by
    simp only[Fz,Bool.and_eq_true,decide_eq_true_eq]at Wi
    exact List.Pairwise.of_map (jo ops) (fun a b h e=>h (by rw[e])) Wi.1.2
  have hz:(kK (Array.replicate ops.size false) P0).size=ops.size:=by rw[nE];simp
  have:=wo (Q:=Q) (r:=U.length+R.length) (w:={w with drawn:=w.drawn+1}) (K:=fun a w=>∃env,mV a n env/\LP P ops Q n U R dep env w) hs (fun a' ⟨env',hr,xu,Φ,d,f,j⟩ hcl=>by
    refine J9 hs hz Wi hpR xu d f j U.length U _ (fun _=>undef) a' _ rfl hn (fun i hi=>hi) hz (fun k=>?_) hcl ⟨hr,fun i hi hd=>absurd hi hd,Le.refl _,fun i hi hd=>absurd hi hd,fun i hi hd=>absurd hi hd,fun i hi hd=>absurd hi hd⟩
    cases U.contains k<;>simp) P0 _ a (Cl.none _) c rfl (h _ (Le.drew w) a ha)
  rw[hl]at this
  refine wp_mono (wp_region_any hm (lU _ _ _ _ this)) ?_
  rintro e a w ⟨rfl,hq⟩
  exact hq
end
end Go.Sx

namespace Go.Sx
open Go Go.RowKit
section
variable {P:Program}{ops:Array Oper}{Q:Exit->Act->World->Prop}{n:Nat}{S:World->Prop}
theorem GS.Np {env:Env}{w:World}{i:Nat}{o:Oper}{plan:List Nat}{v:Value}{d j dj:Nat}{b want:Bool}(ho:ops[i]? =some o)(hk:kd o.op=0)(hr:Any P env n o v)(hg:o.guard=some (j,want))
    (hj:(ops[j]?).bind (·.dst)=some dj)(hv:look env dj=some (.bool b))(hb:b=want)(hd:o.dst=some d)
    (hn:Nat.blt d n=true)(h:GS P ops Q n S plan ((d,v)::env) w):GS P ops Q n S (i::plan) env w:=fun a ha=>
  ⟨o,ho,by
    rw[if_neg (by rw[hk];decide)]
    refine⟨v,.inl ⟨by rw[jw ha hg hj hv,hb];simp,fun w' _=>hr a ha w'⟩,?_⟩
    rw[hd]
    exact h _ (ha.put hn v)⟩
theorem GS.yg {env:Env}{w:World}{i:Nat}{o:Oper}{plan:List Nat}{v:Value}{d j dj:Nat}{b want:Bool}(ho:ops[i]? =some o)(hk:kd o.op=1)(hr:∀w',S w'->Rd P w' env n o v)(hg:o.guard=some (j,want))
    (hj:(ops[j]?).bind (·.dst)=some dj)(hv:look env dj=some (.bool b))(hb:b=want)(hd:o.dst=some d)
    (hn:Nat.blt d n=true)(h:GS P ops Q n S plan ((d,v)::env) w):GS P ops Q n S (i::plan) env w:=fun a ha=>
  ⟨o,ho,by
    rw[if_neg (by rw[hk];decide)]
    refine⟨v,.inl ⟨by rw[jw ha hg hj hv,hb];simp,fun w' hw=>hr w' (hw hk) a ha w' (Le.refl w')⟩,?_⟩
    rw[hd]
    exact h _ (ha.put hn v)⟩
theorem GS.mW {env:Env}{w:World}{i:Nat}{o:Oper}{plan:List Nat}{d j dj:Nat}{b want:Bool}(ho:ops[i]? =some o)(hk:kd o.op=2)(hg:o.guard=some (j,want))
    (hj:(ops[j]?).bind (·.dst)=some dj)(hv:look env dj=some (.bool b))(hb:b=want)(hd:o.dst=some d)(hn:Nat.blt d n=true)
    (h:Ef P env n o w fun v w'=>S w'/\GS P ops Q n S plan ((d,v)::env) w'):GS P ops Q n S (i::plan) env w:=fun a ha=>
  ⟨o,ho,by
    rw[if_pos hk]
    unfold wpOp
    simp only[ho]
    rw[if_pos (by rw[jw ha hg hj hv,hb];simp)]
    left
    exact Oper.wp_mono (fun a' w' ⟨v,c,e,f⟩=>⟨e,by subst c;rw[hd];exact f _ (ha.put hn v)⟩) (h a ha)⟩
end
end Go.Sx

