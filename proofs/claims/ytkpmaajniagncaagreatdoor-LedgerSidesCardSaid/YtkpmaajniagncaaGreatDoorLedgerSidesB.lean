/- LedgerSides: for every input the law answers true and leaves its arguments as they were. -/
import Derived.Test.YtkpmaajniagncaaGreatDoorLedgerSidesA
import Derived.OrdersHeld
import Derived.WalkKit
set_option linter.unusedVariables false
set_option linter.unusedSimpArgs false
namespace Go
abbrev J (n : Int) : Value := .int .i64 n
end Go
namespace Go.Sx
open Go Go.RowKit
def Le (w w':World):Prop:=Below w.heap.size w w'
theorem Le.refl (w:World):Le w w:=Below.refl _ _
theorem Le.trans {a b c:World}(h:Le a b)(k:Le b c):Le a c:=Below.trans h (Below.mono k h.size)
theorem Le.drew (w:World):Le w {w with drawn:=w.drawn+1}:=⟨rfl,rfl,rfl,Nat.le_refl _,fun _ _=>rfl⟩
variable {w w':World}
theorem Le.size (h:Le w w'):w.heap.size<=w'.heap.size:=Below.size h
theorem Le.cell (h:Le w w'){p:Addr}{v:Value}(hc:w.cell? p=some v):w'.cell? p=some v:=
 (Below.cell h (block_lt_of_cell hc)).trans hc
theorem Le.block (h:Le w w'){g:Nat}{o:Obj}(hg:w.heap[g]? =some o):w'.heap[g]? =some o:=by
 rcases Nat.lt_or_ge g w.heap.size with hlt|hge
 ·exact(Below.block h g hlt).trans hg
 ·rw[Array.getElem?_eq_none hge]at hg;cases hg
def kd:Op->Nat
 | .move _| .assign _| .pick .. | .nilCheck _| .binOp .. | .unOp .. | .fieldAddr .. | .field .. | .indexAddr .. | .extract .. | .slice .. | .build ..
 | .makeFunc .. | .makeInterface .. | .index .. | .sliceToArrayPointer .. =>0
 | .convert .. | .load .. | .lookup .. | .typeAssert .. =>1
 | .call c=>match c.callee with | .builtin .len| .builtin .cap| .builtin .min| .builtin .max=>1|_=>2
 |_=>2
section
variable {P:Program}{ops:Array Oper}
inductive Pp (ops:Array Oper):Nat->Nat->Prop
 |one {j:Nat} {oj:Oper} {e:Edge} (hj:ops[j]? =some oj) (he:e∈oj.after) (hb:Region.binds .any e=true):Pp ops j e.on
 |step {j i:Nat} {oj:Oper} {e:Edge} (hj:ops[j]? =some oj) (he:e∈oj.after) (hb:Region.binds .any e=true) (h:Pp ops e.on i):Pp ops j i
def ZZ (r:Array Nat)(l:List Edge):Nat:=l.foldl (fun m e=>if Region.binds .any e then m|||(1<<<e.on)|||r.getD e.on 0 else m) 0
def reach (ops:Array Oper):Array Nat:=ops.foldl (fun r o=>r.push (ZZ r o.after.toList)) #[]
theorem AR {r:Array Nat}{k:Nat}{ok:Oper}(hk:ops[k]? =some ok)(hr:∀j i,(r.getD j 0).testBit i=true->Pp ops j i):
  ∀(l:List Edge) (m:Nat),(∀e∈l,e∈ok.after)->(∀i,m.testBit i=true->Pp ops k i)->
   ∀i,(l.foldl (fun m e=>if Region.binds .any e then m|||(1<<<e.on)|||r.getD e.on 0 else m) m).testBit i=true->Pp ops k i
 |[],m,_,hm,i,h=>hm i h
 |e::l,m,hl,hm,i,h=>by
  rw[List.foldl_cons]at h
  refine AR hk hr l _ (fun e' he'=>hl e' (List.mem_cons_of_mem _ he')) ?_ i h
  intro i hi
  split at hi
  ·rename_i hb
   have he:=hl e List.mem_cons_self
   rw[Nat.testBit_or,Nat.testBit_or,Bool.or_eq_true,Bool.or_eq_true]at hi
   rcases hi with(hi|hi)|hi
   ·exact hm i hi
   ·have hie:e.on=i:=by
     rw[Nat.testBit_shiftLeft]at hi
     simp only[Bool.and_eq_true,decide_eq_true_eq,Nat.testBit_one_eq_true_iff_self_eq_zero]at hi
     omega
    rw[<-hie]
    exact .one hk he hb
   ·exact .step hk he hb (hr _ _ hi)
  ·exact hm i hi
theorem pM (ops:Array Oper):∀j i,((reach ops).getD j 0).testBit i=true->Pp ops j i:=by
 have key:(fun(n:Nat) (r:Array Nat)=>r.size=n/\∀j i,(r.getD j 0).testBit i=true->Pp ops j i) ops.size (reach ops):=by
  unfold reach
  refine Array.foldl_induction (motive:=fun(n:Nat) (r:Array Nat)=>r.size=n/\∀j i,(r.getD j 0).testBit i=true->Pp ops j i) ⟨rfl,fun j i h=>by simp at h⟩ ?_
  intro k r ⟨hs,hr⟩
  refine⟨by simp[hs],fun j i h=>?_⟩
  by_cases hj:j<r.size
  ·rw[Array.getD_eq_getD_getElem?,Array.getElem?_push_lt hj]at h
   exact hr j i (by rw[Array.getD_eq_getD_getElem?,Array.getElem?_eq_getElem hj];exact h)
  ·by_cases hjk:j=r.size
   ·subst hjk
    rw[Array.getD_eq_getD_getElem?,Array.getElem?_push_size]at h
    have hk:ops[r.size]? =some ops[k]:=by rw[hs];exact Array.getElem?_eq_getElem k.2
    exact AR hk hr _ 0 (fun e he=>by simpa using he) (fun i hi=>by simp at hi) i h
   ·rw[Array.getD_eq_getD_getElem?,Array.getElem?_eq_none (by simp;omega)]at h
    simp at h
 exact key.2
def nS (ops:Array Oper)(j:Nat):Bool:=
 (List.range ops.size).any fun i=>i != j&&(match ops[i]? with
  |some oi=>kd oi.op==1&& !(((reach ops).getD j 0).testBit i)
  |_=>false)
variable {i j:Nat}{oi:Oper}
theorem ab1 (hi:ops[i]? =some oi)(hne:i≠j)(hk:kd oi.op=1)
  (hno:¬Pp ops j i):nS ops j=true:=by
 unfold nS
 rw[List.any_eq_true]
 have hlt:i<ops.size:=by
  rcases Nat.lt_or_ge i ops.size with h|h
  ·exact h
  ·simp[Array.getElem?_eq_none h]at hi
 refine⟨i,by simpa using hlt,?_⟩
 simp only[hi,hk,bne_iff_ne.2 hne,Bool.true_and,beq_self_eq_true,Bool.not_eq_true']
 rw[Bool.eq_false_iff]
 exact fun h=>hno (pM ops j i h)
def Cl (ops:Array Oper)(listed:Array Bool):Prop:=∀k ok,ops[k]? =some ok->listed.getD k false=true->∀e∈ok.after,Region.binds .any e=true->listed.getD e.on false=true
variable {listed:Array Bool}
theorem Cl.set (h:Cl ops listed){j:Nat}(hj:j∈Region.ready .any ops listed):Cl ops (listed.setIfInBounds j true):=by
 intro k ok hk hl e he hb
 obtain⟨_,oj,hoj,hall⟩:=mem_ready.1 hj
 by_cases hkj:j=k
 ·subst hkj
  rw[hoj]at hk
  injection hk with hk
  subst hk
  exact getD_set_true (hall e he hb)
 ·rw[getD_set_ne false hkj]at hl
  exact getD_set_true (h k ok hk hl e he hb)
theorem Cl.dep (h:Cl ops listed){j i:Nat}(hd:Pp ops j i):(∀oj,ops[j]? =some oj->∀e∈oj.after,Region.binds .any e=true->listed.getD e.on false=true)->listed.getD i false=true:=by
 induction hd with
 |one hj he hb=>exact fun hall=>hall _ hj _ he hb
 |step hj he hb _ ih=>exact fun hall=>ih fun ok hk e' he' hb'=>h _ ok hk (hall _ hj _ he hb) e' he' hb'
theorem Cl.none (n:Nat):Cl ops (Array.replicate n false):=fun k ok _ hl=>by
 rw[Array.getD_eq_getD_getElem?,Array.getElem?_replicate]at hl
 split at hl<;>simp at hl
def k2 (ops:Array Oper)(j:Nat):Bool:=match ops[j]? with |some o=>kd o.op==2|none=>false
def Ob (ops:Array Oper)(S:World->Prop)(j:Nat)(w w':World):Prop:=if k2 ops j=true then(nS ops j=true->S w')else w'=w
def l9 (P:Program)(ops:Array Oper)(Q:Exit->Act->World->Prop)(S:World->Prop):Nat->Array Bool->Act->World->Prop
 |0,listed,a,w=>Region.ready .any ops listed=[]/\Q .normal a w
 |fuel+1,listed,a,w=>
  (Region.ready .any ops listed=[]->Q .normal a w)/\
  ∀i∈Region.ready .any ops listed,wpOp P ops Q i (fun a' w'=>Ob ops S i w w'/\l9 P ops Q S fuel (listed.setIfInBounds i true) a' w') a w
variable {Q:Exit->Act->World->Prop}{S:World->Prop}
theorem pO:∀(fuel:Nat) (listed:Array Bool) (a:Act) (w:World),l9 P ops Q S fuel listed a w->wpAny P .any ops Q fuel listed a w
 |0,_,_,_,h=>h
 |fuel+1,_,_,_,h=>⟨h.1,fun i hi=>wpOp_mono (fun a' w' h'=>pO fuel _ a' w' h'.2) (h.2 i hi)⟩
variable {S':World->Prop}
theorem Ob.mono (hs:∀w,S w->S' w)(h:Ob ops S j w w'):Ob ops S' j w w':=by
 unfold Ob at*
 split
 ·rename_i hk;rw[if_pos hk]at h;exact fun hn=>hs _ (h hn)
 ·rename_i hk;rw[if_neg hk]at h;exact h
theorem vI (hs:∀w,S w->S' w):∀(fuel:Nat) (listed:Array Bool) (a:Act) (w:World),l9 P ops Q S fuel listed a w->l9 P ops Q S' fuel listed a w
 |0,_,_,_,h=>h
 |fuel+1,_,_,_,h=>⟨h.1,fun i hi=>wpOp_mono (fun a' w' h'=>⟨h'.1.mono hs,vI hs fuel _ a' w' h'.2⟩) (h.2 i hi)⟩
def still (ops:Array Oper)(listed:Array Bool):Bool:=(List.range ops.size).all fun j=>listed.getD j true|| !nS ops j
theorem Tm (h:still ops listed=true)(i:Nat):still ops (listed.setIfInBounds i true)=true:=by
 unfold still at*
 rw[List.all_eq_true]at*
 intro j hj
 have:=h j hj
 simp only[Bool.or_eq_true]at*
 rcases this with h'|h'
 ·left
  by_cases hij:i=j
  ·subst hij
   by_cases hlt:i<listed.size
   ·simp[hlt]
   ·simp[hlt]
  ·rw[getD_set_ne true hij];exact h'
 ·exact .inr h'
theorem wK {o:Oper}(h:ops[i]? =some o):i<ops.size:=by
 rcases Nat.lt_or_ge i ops.size with h'|h'
 ·exact h'
 ·simp[Array.getElem?_eq_none h']at h
theorem MM (h:still ops listed=true){i:Nat}(hi:i∈Region.ready .any ops listed):nS ops i=false:=by
 obtain⟨hun,o,ho,_⟩:=mem_ready.1 hi
 unfold still at h
 rw[List.all_eq_true]at h
 have:=h i (by simpa using wK ho)
 rw[hun]at this
 simpa using this
theorem xH:∀(fuel:Nat) (listed:Array Bool) (a:Act) (w:World),still ops listed=true->l9 P ops Q S fuel listed a w->l9 P ops Q S' fuel listed a w
 |0,_,_,_,_,h=>h
 |fuel+1,_,_,_,hst,h=>⟨h.1,fun i hi=>wpOp_mono (fun a' w' h'=>⟨by
  have h1:=h'.1
  unfold Ob at*
  split
  ·intro hn;rw[MM hst hi]at hn;cases hn
  ·rename_i hk;rw[if_neg hk]at h1;exact h1,xH fuel _ a' w' (Tm hst i) h'.2⟩) (h.2 i hi)⟩
theorem oC {v:Value}(hi:ops[i]? =some oi)(hsel:∀(j:Nat) (o:Oper) cs b,ops[j]? =some o->o.op≠ .select cs b)
  (hQ:∀c a w,¬Q (.panic c) a w)(hk:kd oi.op≠2):
  ∀(fuel:Nat) (listed:Array Bool) (a:Act) (w:World),Cl ops listed->
   (∀j oj,ops[j]? =some oj->j≠i->listed.getD j true=false->(∀e∈oj.after,Region.binds .any e=true->e.on≠i)->oi.apart ops oj=true)->
   i∈Region.ready .any ops listed->YieldsIf P ops (fun w'=>kd oi.op=1->S w') oi v a->(kd oi.op=1->S w)->
   l9 P ops Q S fuel (listed.setIfInBounds i true) (a.put oi.dst v) w->l9 P ops Q S (fuel+1) listed a w:=by
 intro fuel
 have hQ':∀c a w,Q (.panic c) (a.put oi.dst v) w->Q (.panic c) a w:=fun c a w h=>absurd h (hQ _ _ _)
 have n:k2 ops i=false:=by unfold k2;rw[hi];simpa using hk
 have hob:∀w,Ob ops S i w w:=fun w=>by unfold Ob;rw[if_neg (by rw[n];simp)]
 induction fuel with
 |zero=>
  intro listed a w _ _ hr hy hS H
  refine⟨fun h=>(by rw[h]at hr;cases hr),fun j hj=>?_⟩
  by_cases hji:j=i
  ·subst hji;exact hy.wpOp hi hS ⟨hob w,H⟩
  ·have:=ready_mono hj hji
   rw[H.1]at this
   cases this
 |succ fuel ih=>
  intro listed a w hcl hfree hr hy hS H
  refine⟨fun h=>(by rw[h]at hr;cases hr),fun j hj=>?_⟩
  by_cases hji:j=i
  ·subst hji;exact hy.wpOp hi hS ⟨hob w,H⟩
  ·have d:=H.2 j (ready_mono hj hji)
   obtain⟨hjun,oj,hoj,hall⟩:=mem_ready.1 hj
   have hnot:∀e∈oj.after,Region.binds .any e=true->e.on≠i:=fun e he hb heq=>by
    have d:=hall e he hb
    have f:=(mem_ready.1 hr).1
    rw[heq]at d
    rcases Nat.lt_or_ge i listed.size with h'|h'
    ·simp[h']at f d;rw[f]at d;cases d
    ·simp[Array.getElem?_eq_none h']at d
   have Z0:¬Pp ops j i:=fun hd=>by
    have d:=hcl.dep hd (fun oj' KS=>by rw[hoj]at KS;injection KS with KS;subst KS;exact hall)
    have f:=(mem_ready.1 hr).1
    rcases Nat.lt_or_ge i listed.size with h'|h'
    ·simp[h']at f d;rw[f]at d;cases d
    ·simp[Array.getElem?_eq_none h']at d
   have s:=wpOp_putIf hoj (hfree j oj hoj hji hjun hnot) (fun cs b=>hsel i oi cs b hi) (fun cs b=>hsel j oj cs b hoj) hQ' hy d
   have hfree':∀k ok,ops[k]? =some ok->k≠i->(listed.setIfInBounds j true).getD k true=false->
     (∀e∈ok.after,Region.binds .any e=true->e.on≠i)->oi.apart ops ok=true:=fun k ok hk hki hun hno=>by
    refine hfree k ok hk hki ?_ hno
    by_cases hjk:j=k
    ·subst hjk;exact hjun
    ·rw[getD_set_ne true hjk]at hun;exact hun
   refine wpOp_mono (fun a' w' l=>⟨l.2.1,ih (listed.setIfInBounds j true) a' w' (hcl.set hj) hfree' (ready_mono hr (Ne.symm hji)) l.1 ?_ ?_⟩) s
   ·intro m
    have KT:=l.2.1
    unfold Ob at KT
    split at KT
    ·exact KT (ab1 hi (Ne.symm hji) m Z0)
    ·rw[KT];exact hS m
   ·rw[Array.setIfInBounds_comm _ _ hji]
    exact l.2.2
def Z4:Exit->Act->World->Prop:=fun _ _ _=>False
def pQ (Q:Exit->Act->World->Prop):Exit->Act->World->Prop:=fun e a w=>e= .normal/\Q .normal a w
theorem wL {K:Act->World->Prop}{a:Act}(h:wpOp P ops Z4 i K a w):wpOp P ops Q i K a w:=by
 unfold wpOp at*
 split
 ·rename_i hn;simpa[hn]using h
 ·rename_i o ho
  simp only[ho]at h
  split
  ·rename_i hw
   simp only[hw,if_true]at h
   rcases h with h|⟨_,_,_,hf⟩
   ·left
    unfold Oper.wp at*
    generalize (execOp a.eval o).run P w=r at*
    cases r with
    |ok n w'=>
     cases n<;>simp only[Oper.upon]at h ⊢ <;>first|exact h|skip
     case enter f args=>
      refine Calls.mono h fun e w'' he=>?_
      cases e with
      |returned v=>exact he
      |panicked c=>exact he.elim
      |outgrown=>obtain⟨_,_,hf⟩:=he;exact hf.elim
    |halt x w'=>cases x<;>simp only[Oper.upon]at h ⊢ <;>exact h.elim
   ·exact hf.elim
  ·rename_i hw;simp only[hw]at h;exact h
def Z5 (P:Program)(ops:Array Oper)(Q:Exit->Act->World->Prop):List Nat->Act->World->Prop
 |[],a,w=>Q .normal a w
 |i::rest,a,w=>∃o,ops[i]? =some o/\
  if kd o.op=2 then wpOp P ops Z4 i (fun a' w'=>((nS ops i||rest.any (nS ops))=true->Le w w')/\Z5 P ops Q rest a' w') a w
  else∃v,YieldsIf P ops (fun w'=>kd o.op=1->Le w w') o v a/\Z5 P ops Q rest (a.put o.dst v) w
def GN (ops:Array Oper):List Nat->Array Bool->Bool
 |[],listed=>(Region.ready .any ops listed).isEmpty
 |i::rest,listed=>
  (if k2 ops i then(Region.ready .any ops listed==[i])&&((nS ops i||rest.any (nS ops))||still ops (listed.setIfInBounds i true))
   else(Region.ready .any ops listed).contains i&&Region.free .any ops listed i)&&GN ops rest (listed.setIfInBounds i true)
def Pq (ops:Array Oper)(plan:List Nat):Bool:=plan.length==ops.size&&Region.noSelect ops&&GN ops plan (Array.replicate ops.size false)
theorem JA (hs:Region.noSelect ops=true):∀(L:List Nat) (listed:Array Bool) (a:Act) (w:World),
  Cl ops listed->GN ops L listed=true->Z5 P ops Q L a w->l9 P ops (pQ Q) (Le w) L.length listed a w:=by
 intro L
 induction L with
 |nil=>
  intro listed a w _ hp h
  refine⟨by simpa[GN]using hp,rfl,h⟩
 |cons i rest ih=>
  intro listed a w hcl hp h
  obtain⟨o,ho,h⟩:=h
  simp only[GN,Bool.and_eq_true]at hp
  obtain⟨c,e⟩:=hp
  by_cases hk:kd o.op=2
  ·rw[if_pos hk]at h
   have d:k2 ops i=true:=by unfold k2;rw[ho];simpa using hk
   rw[if_pos d]at c
   rw[Bool.and_eq_true,beq_iff_eq,Bool.or_eq_true]at c
   obtain⟨hr,hst⟩:=c
   refine⟨fun f=>(by rw[hr]at f;cases f),fun j hj=>?_⟩
   rw[hr]at hj
   obtain rfl:j=i:=by simpa using hj
   refine wpOp_mono (fun a' w' h'=>⟨?_,?_⟩) (wL h)
   ·unfold Ob;rw[if_pos d];exact fun hn=>h'.1 (by rw[hn,Bool.true_or])
   ·have:=ih (listed.setIfInBounds j true) a' w' (hcl.set (by rw[hr];simp)) e h'.2
    rcases hst with hst|hst
    ·exact vI (fun _ hw=>(h'.1 hst).trans hw) _ _ _ _ this
    ·exact xH _ _ _ _ hst this
  ·rw[if_neg hk]at h
   obtain⟨v,hy,h⟩:=h
   have d:¬k2 ops i=true:=by unfold k2;rw[ho];simpa using hk
   rw[if_neg d]at c
   simp only[Bool.and_eq_true]at c
   exact oC ho (Region.noSelect_spec hs) (fun _ _ _ hf=>by cases hf.1) hk _ listed a w hcl (Region.free_spec ho c.2) (by simpa using c.1) hy (fun _=>Le.refl w) (ih _ _ _ (hcl.set (by simpa using c.1)) e h)
theorem Z6 {id:Nat}{a:Act}(plan:List Nat)(hm:P.follows .mixedOrders=true)(hp:Pq ops plan=true)
  (h:Z5 P ops Q plan a {w with drawn:=w.drawn+1}):(Code.region id ops true).wp P Q a w:=by
 simp only[Pq,Bool.and_eq_true,beq_iff_eq]at hp
 obtain⟨⟨hl,hs⟩,hp⟩:=hp
 have:=JA hs plan _ a _ (Cl.none _) hp h
 rw[hl]at this
 refine wp_mono (wp_region_any hm (pO _ _ _ _ this)) ?_
 rintro e a w ⟨rfl,hq⟩
 exact hq
end
abbrev Env:=List (Nat×Value)
def look:Env->Nat->Option Value
 |[],_=>none
 |(j,v)::e,i=>bif Nat.beq j i then some v else look e i
def ev (env:Env):Operand->Option Value
 | .tmp t=>look env t
 | .const v=>some v
 | .global g=>some (.pointer (some ⟨g,0,none⟩))
 | .func f=>some (.func (.func f) #[] #[])
def evs (env:Env):List Operand->Option (List Value)
 |[]=>some []
 |x::xs=>match ev env x,evs env xs with
  |some v,some vs=>some (v::vs)
  |_,_=>none
def sM (a:Act)(n:Nat)(env:Env):Prop:=a.defers=[]/\a.tmps.size=n/\∀i v,look env i=some v->a.tmps[i]? =some v
theorem zM (e:Env)(i:Nat)(v:Value):look ((i,v)::e) i=some v:=by simp[look]
theorem xI (e:Env){i j:Nat}(v:Value)(h:j≠i):look ((j,v)::e) i=look e i:=by
 have:Nat.beq j i=false:=by rw[Bool.eq_false_iff];intro hb;exact h (Nat.eq_of_beq_eq_true hb)
 simp[look,this]
variable {n:Nat}{env:Env}
theorem sM.eval {a:Act}(h:sM a n env){x:Operand}{v:Value}(hx:ev env x=some v):a.eval x=v:=by
 cases x with
 |tmp t=>have:=h.2.2 t v hx;simp[Act.eval,this]
 |const u=>simpa[ev,Act.eval]using hx
 |global g=>simpa[ev,Act.eval]using hx
 |func f=>simpa[ev,Act.eval]using hx
theorem sM.QT {a:Act}(h:sM a n env):∀{xs:List Operand} {vs:List Value},evs env xs=some vs->xs.map a.eval=vs
 |[],vs,hv=>by simp[evs]at hv;simp[hv]
 |x::xs,vs,hv=>by
  simp only[evs]at hv
  split at hv
  ·rename_i v vs' h1 h2
   injection hv with hv
   subst hv
   simp[h.eval h1,h.QT h2]
  ·cases hv
theorem sM.put {a:Act}(h:sM a n env){d:Nat}(hd:Nat.blt d n=true)(v:Value):sM (a.put (some d) v) n ((d,v)::env):=by
 have hlt:d<n:=by simpa[Nat.blt_eq]using hd
 refine⟨h.1,by simp[Act.put,h.2.1],fun i u hu=>?_⟩
 by_cases hdi:d=i
 ·subst hdi
  rw[zM]at hu
  injection hu with hu
  subst hu
  simp[Act.put,h.2.1,hlt]
 ·rw[xI _ _ hdi]at hu
  have:=h.2.2 i u hu
  simp[Act.put,hdi,this]
def Sub (e' e:Env):Prop:=∀i v,look e' i=some v->look e i=some v
theorem Sub.nil (e:Env):Sub [] e:=fun i v h=>by simp[look]at h
variable {e' e:Env}{s:Nat}{v:Value}
theorem Sub.cons (h:look e s=some v)(hs:Sub e' e):Sub ((s,v)::e') e:=fun i u hu=>by
 by_cases hsi:s=i
 ·subst hsi;rw[zM]at hu;rw[<-hu];exact h
 ·rw[xI _ _ hsi]at hu;exact hs i u hu
theorem Sub.cons' {u:Value}(h:look e s=some u)(hv:u=v)(hs:Sub e' e):Sub ((s,v)::e') e:=by subst hv;exact .cons h hs
theorem Sub.refl (e:Env):Sub e e:=fun _ _ h=>h
theorem sM.sub {a:Act}(h:sM a n env)(hs:Sub e' env):sM a n e':=⟨h.1,h.2.1,fun i v hv=>h.2.2 i v (hs i v hv)⟩
def sO:Nat->List Value->Env
 |_,[]=>[]
 |k,v::vs=>(k,v)::sO (k+1) vs
theorem yP:∀(vs:List Value) (k i:Nat) (v:Value),look (sO k vs) i=some v->k<=i/\vs[i-k]? =some v
 |[],_,_,_,h=>by simp[sO,look]at h
 |u::vs,k,i,v,h=>by
  by_cases hki:k=i
  ·subst hki
   rw[sO,zM]at h
   simpa using h
  ·rw[sO,xI _ _ hki]at h
   obtain⟨h1,h2⟩:=yP vs (k+1) i v h
   refine⟨by omega,?_⟩
   rw[show i-k=(i-(k+1))+1 by omega]
   simpa using h2
section
variable {P:Program}
def Any (P:Program)(env:Env)(n:Nat)(o:Oper)(v:Value):Prop:=∀a,sM a n env->∀w,(execOp a.eval o).run P w= .ok (.value v) w
def Rd (P:Program)(w0:World)(env:Env)(n:Nat)(o:Oper)(v:Value):Prop:=∀a,sM a n env->∀w,Le w0 w->(execOp a.eval o).run P w= .ok (.value v) w
variable {o:Oper}
theorem Any.rd (h:Any P env n o v)(w0:World):Rd P w0 env n o v:=fun a ha w _=>h a ha w
def Ef (P:Program)(env:Env)(n:Nat)(o:Oper)(w:World)(K:Value->World->Prop):Prop:=
 ∀a,sM a n env->o.wp P a w (fun a' w'=>∃v,a'=a.put o.dst v/\K v w') Z4
variable {K:Act->World->Prop}{Q:Exit->Act->World->Prop}
theorem Oper.Dr {a:Act}(h:o.wp P a w K Z4):o.wp P a w K Q:=by
 unfold Oper.wp at*
 generalize (execOp a.eval o).run P w=r at*
 cases r with
 |ok n w'=>
  cases n<;>simp only[Oper.upon]at h ⊢ <;>first|exact h|skip
  case enter f args=>
   refine Calls.mono h fun e w'' he=>?_
   cases e with
   |returned v=>exact he
   |panicked c=>exact he.elim
   |outgrown=>obtain⟨_,_,hf⟩:=he;exact hf.elim
 |halt x w'=>cases x<;>simp only[Oper.upon]at h ⊢ <;>exact h.elim
variable {ops:Array Oper}{Q:Exit->Act->World->Prop}{n:Nat}
def W (P:Program)(ops:Array Oper)(Q:Exit->Act->World->Prop)(n:Nat)(rest:List Oper)(env:Env)(w:World):Prop:=∀a,sM a n env->wpList P ops Q rest a w
def E (Q:Exit->Act->World->Prop)(n:Nat)(ex:Exit)(env:Env)(w:World):Prop:=∀a,sM a n env->Q ex a w
def WC (P:Program)(Q:Exit->Act->World->Prop)(n:Nat)(c:Code)(env:Env)(w:World):Prop:=∀a,sM a n env->Code.wp P c Q a w
theorem W.nil (h:E Q n .normal env w):W P ops Q n [] env w:=fun a ha=>h a ha
variable {d:Nat}
theorem W.rd {rest:List Oper}(hr:Rd P w env n o v)(hg:o.guard=none)(hd:o.dst=some d)(hn:Nat.blt d n=true)
  (h:W P ops Q n rest ((d,v)::env) w):W P ops Q n (o::rest) env w:=fun a ha=>
 wpList_plain hg fun K hK=>by
  unfold Oper.wp
  rw[hr a ha w (Le.refl w),Oper.upon_value,hd]
  exact hK _ _ (h _ (ha.put hn v))
theorem W.any {rest:List Oper}(hr:Any P env n o v)(hg:o.guard=none)(hd:o.dst=some d)(hn:Nat.blt d n=true)
 (h:W P ops Q n rest ((d,v)::env) w):W P ops Q n (o::rest) env w:=W.rd (hr.rd w) hg hd hn h
theorem W.ef {rest:List Oper}(hg:o.guard=none)(hd:o.dst=some d)(hn:Nat.blt d n=true)
  (h:Ef P env n o w fun v w'=>W P ops Q n rest ((d,v)::env) w'):W P ops Q n (o::rest) env w:=fun a ha=>
 wpList_plain hg fun K hK=>Oper.Dr (Oper.wp_mono (fun a' w' ⟨v,c,e⟩=>hK _ _ (by subst c;rw[hd];exact e _ (ha.put hn v))) (h a ha))
theorem W.jR {rest:List Oper}(hg:o.guard=none)(hd:o.dst=none)
  (h:Ef P env n o w fun _ w'=>W P ops Q n rest env w'):W P ops Q n (o::rest) env w:=fun a ha=>
 wpList_plain hg fun K hK=>Oper.Dr (Oper.wp_mono (fun a' w' ⟨v,c,d⟩=>hK _ _ (by subst c;rw[hd];exact d _ ha)) (h a ha))
theorem Ps {a:Act}(ha:sM a n env){j dj:Nat}{b:Bool}(hj:(ops[j]?).bind (·.dst)=some dj)(hv:look env dj=some (.bool b)):yielded ops a.tmps j=some b:=by
 unfold yielded
 rw[hj]
 simp[ha.2.2 dj _ hv]
theorem oQ {a:Act}(ha:sM a n env){o:Oper}{j dj:Nat}{b want:Bool}(hg:o.guard=some (j,want))(hj:(ops[j]?).bind (·.dst)=some dj)(hv:look env dj=some (.bool b)):
  Region.wanted o (yielded ops a.tmps)=(b==want):=by
 unfold Region.wanted
 rw[hg]
 simp only[Ps ha hj hv]
 cases b<;>cases want<;>rfl
variable {j dj:Nat}{want:Bool}
theorem W.Fx {rest:List Oper}{b:Bool}(hr:Rd P w env n o v)(hg:o.guard=some (j,want))(hj:(ops[j]?).bind (·.dst)=some dj)
  (hv:look env dj=some (.bool b))(hb:b=want)(hd:o.dst=some d)(hn:Nat.blt d n=true)
  (h:W P ops Q n rest ((d,v)::env) w):W P ops Q n (o::rest) env w:=fun a ha=>by
 refine wpList_step fun K hK=>?_
 rw[oQ ha hg hj hv,hb]
 simp only[beq_self_eq_true,if_true]
 unfold Oper.wp
 rw[hr a ha w (Le.refl w),Oper.upon_value,hd]
 exact hK _ _ (h _ (ha.put hn v))
theorem W.MN {rest:List Oper}{b:Bool}(hg:o.guard=some (j,want))(hj:(ops[j]?).bind (·.dst)=some dj)
  (hv:look env dj=some (.bool b))(hb:b=want)(hd:o.dst=some d)(hn:Nat.blt d n=true)
  (h:Ef P env n o w fun v w'=>W P ops Q n rest ((d,v)::env) w'):W P ops Q n (o::rest) env w:=fun a ha=>by
 refine wpList_step fun K hK=>?_
 rw[oQ ha hg hj hv,hb]
 simp only[beq_self_eq_true,if_true]
 exact Oper.Dr (Oper.wp_mono (fun a' w' ⟨v,c,e⟩=>hK _ _ (by subst c;rw[hd];exact e _ (ha.put hn v))) (h a ha))
theorem W.skip {rest:List Oper}{b:Bool}(hg:o.guard=some (j,want))(hj:(ops[j]?).bind (·.dst)=some dj)
  (hv:look env dj=some (.bool b))(hb:b= !want)(hd:o.dst=some d)(hn:Nat.blt d n=true)
  (h:W P ops Q n rest ((d,undef)::env) w):W P ops Q n (o::rest) env w:=fun a ha=>by
 refine wpList_step fun K hK=>?_
 rw[oQ ha hg hj hv,hb,hd]
 have:((!want)==want)=false:=by cases want<;>rfl
 simp only[this,Bool.false_eq_true,if_false]
 exact hK _ _ (h _ (ha.put hn undef))
theorem KU {a:Act}(ha:sM a n env){j dj:Nat}(hj:(ops[j]?).bind (·.dst)=some dj)(hv:look env dj=some undef):yielded ops a.tmps j=none:=by
 unfold yielded
 rw[hj]
 simp[ha.2.2 dj _ hv,undef]
theorem ER {a:Act}(ha:sM a n env){o:Oper}{j dj:Nat}{want:Bool}(hg:o.guard=some (j,want))(hj:(ops[j]?).bind (·.dst)=some dj)(hv:look env dj=some undef):
  Region.wanted o (yielded ops a.tmps)=false:=by
 unfold Region.wanted
 rw[hg]
 simp only[KU ha hj hv]
 cases want<;>rfl
theorem W.mh {rest:List Oper}(hg:o.guard=some (j,want))(hj:(ops[j]?).bind (·.dst)=some dj)
  (hv:look env dj=some undef)(hd:o.dst=some d)(hn:Nat.blt d n=true)
  (h:W P ops Q n rest ((d,undef)::env) w):W P ops Q n (o::rest) env w:=fun a ha=>by
 refine wpList_step fun K hK=>?_
 rw[ER ha hg hj hv,hd]
 simp only[Bool.false_eq_true,if_false]
 exact hK _ _ (h _ (ha.put hn undef))
def G (P:Program)(ops:Array Oper)(Q:Exit->Act->World->Prop)(n:Nat)(plan:List Nat)(env:Env)(w:World):Prop:=∀a,sM a n env->Z5 P ops Q plan a w
theorem G.nil (h:E Q n .normal env w):G P ops Q n [] env w:=fun a ha=>h a ha
variable {i:Nat}{plan:List Nat}
theorem G.any (ho:ops[i]? =some o)(hk:kd o.op=0)(hr:Any P env n o v)(hg:o.guard=none)(hd:o.dst=some d)
  (hn:Nat.blt d n=true)(h:G P ops Q n plan ((d,v)::env) w):G P ops Q n (i::plan) env w:=fun a ha=>
 ⟨o,ho,by
  rw[if_neg (by rw[hk];decide)]
  refine⟨v,.inl ⟨by unfold Region.wanted;rw[hg],fun w' _=>hr a ha w'⟩,?_⟩
  rw[hd]
  exact h _ (ha.put hn v)⟩
theorem G.rd (ho:ops[i]? =some o)(hk:kd o.op=1)(hr:Rd P w env n o v)(hg:o.guard=none)(hd:o.dst=some d)
  (hn:Nat.blt d n=true)(h:G P ops Q n plan ((d,v)::env) w):G P ops Q n (i::plan) env w:=fun a ha=>
 ⟨o,ho,by
  rw[if_neg (by rw[hk];decide)]
  refine⟨v,.inl ⟨by unfold Region.wanted;rw[hg],fun w' hw=>hr a ha w' (hw hk)⟩,?_⟩
  rw[hd]
  exact h _ (ha.put hn v)⟩
theorem G.VQ {b:Bool}(ho:ops[i]? =some o)(hk:kd o.op=0)(hr:Any P env n o v)(hg:o.guard=some (j,want))
  (hj:(ops[j]?).bind (·.dst)=some dj)(hv:look env dj=some (.bool b))(hb:b=want)(hd:o.dst=some d)
  (hn:Nat.blt d n=true)(h:G P ops Q n plan ((d,v)::env) w):G P ops Q n (i::plan) env w:=fun a ha=>
 ⟨o,ho,by
  rw[if_neg (by rw[hk];decide)]
  refine⟨v,.inl ⟨by rw[oQ ha hg hj hv,hb];simp,fun w' _=>hr a ha w'⟩,?_⟩
  rw[hd]
  exact h _ (ha.put hn v)⟩
theorem G.Fx {b:Bool}(ho:ops[i]? =some o)(hk:kd o.op=1)(hr:Rd P w env n o v)(hg:o.guard=some (j,want))
  (hj:(ops[j]?).bind (·.dst)=some dj)(hv:look env dj=some (.bool b))(hb:b=want)(hd:o.dst=some d)
  (hn:Nat.blt d n=true)(h:G P ops Q n plan ((d,v)::env) w):G P ops Q n (i::plan) env w:=fun a ha=>
 ⟨o,ho,by
  rw[if_neg (by rw[hk];decide)]
  refine⟨v,.inl ⟨by rw[oQ ha hg hj hv,hb];simp,fun w' hw=>hr a ha w' (hw hk)⟩,?_⟩
  rw[hd]
  exact h _ (ha.put hn v)⟩
theorem G.ef (ho:ops[i]? =some o)(hk:kd o.op=2)(hg:o.guard=none)(hd:o.dst=some d)(hn:Nat.blt d n=true)
  (h:Ef P env n o w fun v w'=>((nS ops i||plan.any (nS ops))=true->Le w w')/\G P ops Q n plan ((d,v)::env) w'):G P ops Q n (i::plan) env w:=fun a ha=>
 ⟨o,ho,by
  rw[if_pos hk]
  unfold wpOp
  simp only[ho]
  rw[if_pos (by unfold Region.wanted;rw[hg])]
  left
  exact Oper.wp_mono (fun a' w' ⟨v,c,e,f⟩=>⟨e,by subst c;rw[hd];exact f _ (ha.put hn v)⟩) (h a ha)⟩
theorem G.jR (ho:ops[i]? =some o)(hk:kd o.op=2)(hg:o.guard=none)(hd:o.dst=none)
  (h:Ef P env n o w fun _ w'=>((nS ops i||plan.any (nS ops))=true->Le w w')/\G P ops Q n plan env w'):G P ops Q n (i::plan) env w:=fun a ha=>
 ⟨o,ho,by
  rw[if_pos hk]
  unfold wpOp
  simp only[ho]
  rw[if_pos (by unfold Region.wanted;rw[hg])]
  left
  exact Oper.wp_mono (fun a' w' ⟨v,c,d,e⟩=>⟨d,by subst c;rw[hd];exact e _ ha⟩) (h a ha)⟩
theorem G.MN {b:Bool}(ho:ops[i]? =some o)(hk:kd o.op=2)(hg:o.guard=some (j,want))
  (hj:(ops[j]?).bind (·.dst)=some dj)(hv:look env dj=some (.bool b))(hb:b=want)(hd:o.dst=some d)(hn:Nat.blt d n=true)
  (h:Ef P env n o w fun v w'=>((nS ops i||plan.any (nS ops))=true->Le w w')/\G P ops Q n plan ((d,v)::env) w'):G P ops Q n (i::plan) env w:=fun a ha=>
 ⟨o,ho,by
  rw[if_pos hk]
  unfold wpOp
  simp only[ho]
  rw[if_pos (by rw[oQ ha hg hj hv,hb];simp)]
  left
  exact Oper.wp_mono (fun a' w' ⟨v,c,e,f⟩=>⟨e,by subst c;rw[hd];exact f _ (ha.put hn v)⟩) (h a ha)⟩
theorem G.skip {b:Bool}(ho:ops[i]? =some o)(hg:o.guard=some (j,want))
  (hj:(ops[j]?).bind (·.dst)=some dj)(hv:look env dj=some (.bool b))(hb:b= !want)(hd:o.dst=some d)(hn:Nat.blt d n=true)
  (h:G P ops Q n plan ((d,undef)::env) w):G P ops Q n (i::plan) env w:=fun a ha=>
 ⟨o,ho,by
  have hw:Region.wanted o (yielded ops a.tmps)=false:=by rw[oQ ha hg hj hv,hb];cases want<;>rfl
  split
  ·unfold wpOp
   simp only[ho]
   rw[if_neg (by rw[hw];simp)]
   refine⟨fun _=>Le.refl w,?_⟩
   rw[hd]
   exact h _ (ha.put hn undef)
  ·refine⟨undef,.inr ⟨hw,rfl⟩,?_⟩
   rw[hd]
   exact h _ (ha.put hn undef)⟩
theorem G.mh (ho:ops[i]? =some o)(hg:o.guard=some (j,want))
  (hj:(ops[j]?).bind (·.dst)=some dj)(hv:look env dj=some undef)(hd:o.dst=some d)(hn:Nat.blt d n=true)
  (h:G P ops Q n plan ((d,undef)::env) w):G P ops Q n (i::plan) env w:=fun a ha=>
 ⟨o,ho,by
  have hw:Region.wanted o (yielded ops a.tmps)=false:=ER ha hg hj hv
  split
  ·unfold wpOp
   simp only[ho]
   rw[if_neg (by rw[hw];simp)]
   refine⟨fun _=>Le.refl w,?_⟩
   rw[hd]
   exact h _ (ha.put hn undef)
  ·refine⟨undef,.inr ⟨hw,rfl⟩,?_⟩
   rw[hd]
   exact h _ (ha.put hn undef)⟩
variable {x y:Code}
theorem WC.seq (h:WC P (Exit.then (y.wp P Q) Q) n x env w):WC P Q n (.seq x y) env w:=fun a ha=>wp_seq (h a ha)
variable {id:Nat}{l:List Oper}
theorem WC.region (h:W P l.toArray Q n l env w):WC P Q n (.region id l.toArray false) env w:=fun a ha=>wp_region_lit (h a ha)
theorem WC.draw (plan:List Nat)(hm:P.follows .mixedOrders=true)(hp:Pq ops plan=true)
 (h:∀w',Le w w'->G P ops Q n plan env w'):WC P Q n (.region id ops true) env w:=fun a ha=>Z6 plan hm hp (h _ (Le.drew w) a ha)
variable {c:Code}
theorem WC.block (h:WC P (Exit.inBlock id Q) n c env w):WC P Q n (.block id c) env w:=fun a ha=>wp_block (h a ha)
theorem WC.ret (h:E Q n .ret env w):WC P Q n .ret env w:=fun a ha=>wp_ret (h a ha)
theorem WC.skip (h:E Q n .normal env w):WC P Q n .skip env w:=fun a ha=>wp_skip (h a ha)
theorem WC.exit (h:E Q n (.exit id) env w):WC P Q n (.exit id) env w:=fun a ha=>wp_exit (h a ha)
theorem WC.label {l:Nat}(h:E Q n .normal env w):WC P Q n (.label l) env w:=fun a ha=>wp_label (h a ha)
theorem WC.yh {c:Operand}{b:Bool}(hc:ev env c=some (.bool b))(ht:b=true->WC P Q n x env w)(hf:b=false->WC P Q n y env w):
 WC P Q n (.cond c x y) env w:=fun a ha=>wp_cond_split (ha.eval hc) (fun h=>ht h a ha) (fun h=>hf h a ha)
theorem WC.cond {c:Operand}{p:Prop}[Decidable p](hc:ev env c=some (.bool (decide p)))(ht:p->WC P Q n x env w)(hf:¬p->WC P Q n y env w):
 WC P Q n (.cond c x y) env w:= .yh hc (fun h=>ht (of_decide_eq_true h)) (fun h=>hf (of_decide_eq_false h))
theorem WC.ab2 {c:Operand}(hc:ev env c=some (.bool true))(ht:WC P Q n x env w):WC P Q n (.cond c x y) env w:=fun a ha=>wp_cond_true (ha.eval hc) (ht a ha)
theorem WC.ab3 {c:Operand}(hc:ev env c=some (.bool false))(hf:WC P Q n y env w):WC P Q n (.cond c x y) env w:=fun a ha=>wp_cond_false (ha.eval hc) (hf a ha)
theorem WC.sub (hs:Sub e' env)(h:WC P Q n c e' w):WC P Q n c env w:=fun a ha=>h a (ha.sub hs)
theorem W.sub (hs:Sub e' env)(h:W P ops Q n l e' w):W P ops Q n l env w:=fun a ha=>h a (ha.sub hs)
theorem E.sub {ex:Exit}(hs:Sub e' env)(h:E Q n ex e' w):E Q n ex env w:=fun a ha=>h a (ha.sub hs)
theorem E.iM {Q':Exit->Act->World->Prop}(h:WC P Q n y env w):E (Exit.then (y.wp P Q) Q') n .normal env w:=h
theorem E.jW (h:E Q n (.exit id) env w):E (Exit.then K Q) n (.exit id) env w:=h
theorem E.il (h:E Q n .ret env w):E (Exit.then K Q) n .ret env w:=h
theorem E.jD (h:E Q n .normal env w):E (Exit.inBlock id Q) n .normal env w:=h
theorem E.jc (h:E Q n .ret env w):E (Exit.inBlock id Q) n .ret env w:=h
theorem E.rQ (h:E Q n .normal env w):E (Exit.inBlock id Q) n (.exit id) env w:=fun a ha=>by
 show(if id=id then _ else _);rw[if_pos Z];exact h a ha
theorem E.VR {id':Nat}(hne:Nat.beq id' id=false)(h:E Q n (.exit id') env w):E (Exit.inBlock id Q) n (.exit id') env w:=fun a ha=>by
 show(if id'=id then _ else _)
 rw[if_neg (fun he=>by subst he;simp at hne)]
 exact h a ha
variable {ι:Type}
theorem WC.cut (qL:ι->Env)(M:ι->World->Prop)
  (hx:WC P (Exit.then (fun a w'=>∃i,sM a n (qL i)/\M i w') Q) n x env w)(hy:∀i w',M i w'->WC P Q n y (qL i) w'):WC P Q n (.seq x y) env w:=fun a ha=>
 wp_seq (wp_mono (hx a ha) fun e a' w' h=>by
  cases e with
  |normal=>obtain⟨i,hr,hm⟩:=h;exact hy i w' hm a' hr
  |exit id=>exact h
  |goto l=>exact h
  |ret=>exact h
  |panic c=>exact h
  |outgrown=>exact h)
variable {qL:ι->Env}
theorem E.meet {M:ι->World->Prop}(i:ι)(hs:Sub (qL i) env)(hm:M i w):
 E (Exit.then (fun a w'=>∃i,sM a n (qL i)/\M i w') Q) n .normal env w:=fun _ ha=>⟨i,ha.sub hs,hm⟩
def aeG (n:Nat)(qL:ι->Env)(I:ι->World->Prop)(μ:ι->Nat)(i:ι)(a:Act)(w:World):Prop:=∃j,sM a n (qL j)/\I j w/\μ j<μ i
theorem WC.loop (qL:ι->Env)(I:ι->World->Prop)(μ:ι->Nat)(i0:ι)(he:Sub (qL i0) env)(h0:I i0 w)
  (round:∀i w,I i w->WC P (Exit.then (aeG n qL I μ i) Q) n c (qL i) w):WC P Q n (.loop c) env w:=fun a ha=>by
 have key:∀m i a w,μ i=m->sM a n (qL i)->I i w->Code.wp P (.loop c) Q a w:=by
  intro m i a w hm hr hI
  refine wp_loop (fun a' w'=>∃j,sM a' n (qL j)/\I j w') (fun a' w'=>Classical.epsilon fun k=>(∃j,sM a' n (qL j)/\I j w'/\μ j=k)/\∀k',(∃j,sM a' n (qL j)/\I j w'/\μ j=k')->k<=k') ⟨i,hr,hI⟩ ?_
  intro d f ⟨t,u,v⟩
  have hex:∃k,(∃j,sM d n (qL j)/\I j f/\μ j=k)/\∀k',(∃j,sM d n (qL j)/\I j f/\μ j=k')->k<=k':=least ⟨t,u,v,rfl⟩
  obtain⟨⟨j,hrj,hIj,hμ⟩,_⟩:=Classical.epsilon_spec hex
  refine wp_mono (round j f hIj d hrj) fun e o s h=>?_
  cases e with
  |normal=>
   obtain⟨j',hr',hI',hlt⟩:=h
   refine⟨⟨j',hr',hI'⟩,?_⟩
   have hex':∃k,(∃j,sM o n (qL j)/\I j s/\μ j=k)/\∀k',(∃j,sM o n (qL j)/\I j s/\μ j=k')->k<=k':=least ⟨j',hr',hI',rfl⟩
   have:=(Classical.epsilon_spec hex').2 (μ j') ⟨j',hr',hI',rfl⟩
   exact Nat.lt_of_le_of_lt this (by rw[<-hμ];exact hlt)
  |exit id=>exact h
  |goto l=>exact h
  |ret=>exact h
  |panic c=>exact h
  |outgrown=>exact h
 exact key _ i0 a w Z (ha.sub he) h0
where
 least {p:Nat->Prop} {m:Nat} (h:p m):∃k,p k/\∀k',p k'->k<=k':=by
  induction m using Nat.strongRecOn with
  |_ m ih=>
   by_cases hl:∃k,k<m/\p k
   ·obtain⟨k,hk,hp⟩:=hl;exact ih k hk hp
   ·exact⟨m,h,fun k' hp=>Nat.le_of_not_lt fun hlt=>hl ⟨k',hlt,hp⟩⟩
theorem E.again {I:ι->World->Prop}{μ:ι->Nat}{i:ι}(j:ι)(hs:Sub (qL j) env)(hI:I j w)(hμ:μ j<μ i):
 E (Exit.then (aeG n qL I μ i) Q) n .normal env w:=fun _ ha=>⟨j,ha.sub hs,hI,hμ⟩
variable {fn:Func}{R:Ending->World->Prop}
theorem enter {f:FuncId}{args:List Value}(hf:P.funcs[f]? =some fn)(hb:fn.body=some c)(hl:Nat.ble args.length fn.ntmps=true)
  (h:WC P (bodyPost P fn R) fn.ntmps c (sO 0 args) w):Calls P f args.toArray w R:=by
 have hl':args.length<=fn.ntmps:=Nat.le_of_ble_eq_true hl
 refine calls_of_wp hf hb (h _ ⟨rfl,?_,fun i v hv=>?_⟩)
 ·simp;omega
 ·obtain⟨_,d⟩:=yP args 0 i v hv
  simp only[Nat.sub_zero]at d
  rw[Array.getElem?_append_left (by simpa using(List.getElem?_eq_some_iff.1 d).1)]
  simpa using d
variable {t:Nat}
theorem E.mP (hr:fn.results=#[.tmp t])(hv:look env t=some v)(h:R (.returned v) w):E (bodyPost P fn R) n .ret env w:=fun a ha=>
 bodyPost_ret (by rw[results_tmp hr];simp[ha.2.2 t v hv]) ha.1 h
theorem E.ac2 {u:Nat}{x:Value}(hr:fn.results=#[.tmp t,.tmp u])(hv:look env t=some v)(hx:look env u=some x)(h:R (.returned (.tuple #[v,x])) w):
 E (bodyPost P fn R) n .ret env w:=fun a ha=>bodyPost_ret (by rw[results_tmp2 hr];simp[ha.2.2 t v hv,ha.2.2 u x hx]) ha.1 h
theorem E.Pt (hr:fn.results=#[])(h:R (.returned (.tuple #[])) w):E (bodyPost P fn R) n .ret env w:=fun _ ha=>
 bodyPost_ret (results_none hr _ _ _) ha.1 h
theorem E.end_ (h:E (bodyPost P fn R) n .ret env w):E (bodyPost P fn R) n .normal env w:=h
end
end Go.Sx
