/- LedgerSplices: for every input the law answers true and leaves its arguments as they were. -/
import Derived.Test.YtcaehidaejhdfaaGreatLedgerSplicesA
import Derived.OrdersHeld
import Derived.WalkKit
set_option linter.unusedVariables false
set_option linter.unusedSimpArgs false
namespace Go.Sx
open Go Go.RowKit

def Le (w w':World):Prop:=Below w.heap.size w w'
theorem Le.refl (w:World):Le w w:=Below.refl _ _
theorem Le.trans {a b c:World}(h:Le a b)(k:Le b c):Le a c:=Below.trans h (Below.mono k h.size)
theorem Le.drew (w:World):Le w {w with drawn:=w.drawn+1}:=⟨rfl,rfl,rfl,Nat.le_refl _,fun _ _=>rfl⟩
theorem Le.size {w w':World}(h:Le w w'):w.heap.size<=w'.heap.size:=Below.size h
theorem Le.cell {w w':World}(h:Le w w'){p:Addr}{v:Value}(hc:w.cell? p=some v):w'.cell? p=some v:=
  (Below.cell h (block_lt_of_cell hc)).trans hc
theorem Le.block {w w':World}(h:Le w w'){g:Nat}{o:Obj}(hg:w.heap[g]? =some o):w'.heap[g]? =some o:=by
  rcases Nat.lt_or_ge g w.heap.size with hlt|hge
  · exact(Below.block h g hlt).trans hg
  · rw[Array.getElem?_eq_none hge]at hg;cases hg

def kd:Op->Nat
  | .move _| .assign _| .pick .. | .nilCheck _| .binOp .. | .unOp .. | .fieldAddr .. | .field .. | .indexAddr .. | .extract .. | .slice .. | .build ..
  | .makeFunc .. | .makeInterface .. | .index .. | .sliceToArrayPointer .. =>0
  | .convert .. | .load .. | .lookup .. | .typeAssert .. =>1
  | .call c=>match c.callee with | .builtin .len| .builtin .cap| .builtin .min| .builtin .max=>1|_=>2
  |_=>2

section
variable {P:Program}{ops:Array Oper}

inductive M8 (ops:Array Oper):Nat->Nat->Prop
  |one {j:Nat} {oj:Oper} {e:Edge} (hj:ops[j]? =some oj) (he:e∈oj.after) (hb:Region.binds .any e=true):M8 ops j e.on
  |step {j i:Nat} {oj:Oper} {e:Edge} (hj:ops[j]? =some oj) (he:e∈oj.after) (hb:Region.binds .any e=true) (h:M8 ops e.on i):M8 ops j i

def Sg (r:Array Nat)(l:List Edge):Nat:=l.foldl (fun m e=>if Region.binds .any e then m|||(1<<<e.on)|||r.getD e.on 0 else m) 0
def reach (ops:Array Oper):Array Nat:=ops.foldl (fun r o=>r.push (Sg r o.after.toList)) #[]

theorem yY {r:Array Nat}{k:Nat}{ok:Oper}(hk:ops[k]? =some ok)(hr:∀j i,(r.getD j 0).testBit i=true->M8 ops j i):
    ∀(l:List Edge) (m:Nat),(∀e∈l,e∈ok.after)->(∀i,m.testBit i=true->M8 ops k i)->
      ∀i,(l.foldl (fun m e=>if Region.binds .any e then m|||(1<<<e.on)|||r.getD e.on 0 else m) m).testBit i=true->M8 ops k i
  |[],m,_,hm,i,h=>hm i h
  |e::l,m,hl,hm,i,h=>by
    rw[List.foldl_cons]at h
    refine yY hk hr l _ (fun e' he'=>hl e' (List.mem_cons_of_mem _ he')) ?_ i h
    intro i hi
    split at hi
    · rename_i hb
      have he:=hl e List.mem_cons_self
      rw[Nat.testBit_or,Nat.testBit_or,Bool.or_eq_true,Bool.or_eq_true]at hi
      rcases hi with(hi|hi)|hi
      · exact hm i hi
      · have hie:e.on=i:=by
          rw[Nat.testBit_shiftLeft]at hi
          simp only[Bool.and_eq_true,decide_eq_true_eq,Nat.testBit_one_eq_true_iff_self_eq_zero]at hi
          omega
        rw[<-hie]
        exact .one hk he hb
      · exact .step hk he hb (hr _ _ hi)
    · exact hm i hi

theorem uT (ops:Array Oper):∀j i,((reach ops).getD j 0).testBit i=true->M8 ops j i:=by
  have key:(fun(n:Nat) (r:Array Nat)=>r.size=n/\∀j i,(r.getD j 0).testBit i=true->M8 ops j i) ops.size (reach ops):=by
    unfold reach
    refine Array.foldl_induction (motive:=fun(n:Nat) (r:Array Nat)=>r.size=n/\∀j i,(r.getD j 0).testBit i=true->M8 ops j i) ⟨rfl,fun j i h=>by simp at h⟩ ?_
    intro k r ⟨hs,hr⟩
    refine⟨by simp[hs],fun j i h=>?_⟩
    by_cases hj:j<r.size
    · rw[Array.getD_eq_getD_getElem?,Array.getElem?_push_lt hj]at h
      exact hr j i (by rw[Array.getD_eq_getD_getElem?,Array.getElem?_eq_getElem hj];exact h)
    · by_cases hjk:j=r.size
      · subst hjk
        rw[Array.getD_eq_getD_getElem?,Array.getElem?_push_size]at h
        have hk:ops[r.size]? =some ops[k]:=by rw[hs];exact Array.getElem?_eq_getElem k.2
        exact yY hk hr _ 0 (fun e he=>by simpa using he) (fun i hi=>by simp at hi) i h
      · rw[Array.getD_eq_getD_getElem?,Array.getElem?_eq_none (by simp;omega)]at h
        simp at h
  exact key.2

def nS (ops:Array Oper)(j:Nat):Bool:=
  (List.range ops.size).any fun i=>i != j&&(match ops[i]? with
    |some oi=>kd oi.op==1&& !(((reach ops).getD j 0).testBit i)
    |_=>false)

theorem W9 {i j:Nat}{oi:Oper}(hi:ops[i]? =some oi)(hne:i≠j)(hk:kd oi.op=1)
    (hno:¬M8 ops j i):nS ops j=true:=by
  unfold nS
  rw[List.any_eq_true]
  have hlt:i<ops.size:=by
    rcases Nat.lt_or_ge i ops.size with h|h
    · exact h
    · simp[Array.getElem?_eq_none h]at hi
  refine⟨i,by simpa using hlt,?_⟩
  simp only[hi,hk,bne_iff_ne.2 hne,Bool.true_and,beq_self_eq_true,Bool.not_eq_true']
  rw[Bool.eq_false_iff]
  exact fun h=>hno (uT ops j i h)

def Cl (ops:Array Oper)(listed:Array Bool):Prop:=∀k ok,ops[k]? =some ok->listed.getD k false=true->∀e∈ok.after,Region.binds .any e=true->listed.getD e.on false=true
theorem Cl.set {listed:Array Bool}(h:Cl ops listed){j:Nat}(hj:j∈Region.ready .any ops listed):Cl ops (listed.setIfInBounds j true):=by
  intro k ok hk hl e he hb
  obtain⟨_,oj,hoj,hall⟩:=mem_ready.1 hj
  by_cases hkj:j=k
  · subst hkj
    rw[hoj]at hk
    injection hk with hk
    subst hk
    exact getD_set_true (hall e he hb)
  · rw[getD_set_ne false hkj]at hl
    exact getD_set_true (h k ok hk hl e he hb)
theorem Cl.dep {listed:Array Bool}(h:Cl ops listed){j i:Nat}(hd:M8 ops j i):(∀oj,ops[j]? =some oj->∀e∈oj.after,Region.binds .any e=true->listed.getD e.on false=true)->listed.getD i false=true:=by
  induction hd with
  |one hj he hb=>exact fun hall=>hall _ hj _ he hb
  |step hj he hb _ ih=>exact fun hall=>ih fun ok hk e' he' hb'=>h _ ok hk (hall _ hj _ he hb) e' he' hb'
theorem Cl.none (n:Nat):Cl ops (Array.replicate n false):=fun k ok _ hl=>by
  rw[Array.getD_eq_getD_getElem?,Array.getElem?_replicate]at hl
  split at hl<;>simp at hl

def k2 (ops:Array Oper)(j:Nat):Bool:=match ops[j]? with |some o=>kd o.op==2|none=>false

def Ob (ops:Array Oper)(S:World->Prop)(j:Nat)(w w':World):Prop:=if k2 ops j=true then(nS ops j=true->S w')else w'=w

def qQ (P:Program)(ops:Array Oper)(Q:Exit->Act->World->Prop)(S:World->Prop):Nat->Array Bool->Act->World->Prop
  |0,listed,a,w=>Region.ready .any ops listed=[]/\Q .normal a w
  |fuel+1,listed,a,w=>
    (Region.ready .any ops listed=[]->Q .normal a w)/\
    ∀i∈Region.ready .any ops listed,wpOp P ops Q i (fun a' w'=>Ob ops S i w w'/\qQ P ops Q S fuel (listed.setIfInBounds i true) a' w') a w

theorem uo {Q:Exit->Act->World->Prop}{S:World->Prop}:∀(fuel:Nat) (listed:Array Bool) (a:Act) (w:World),qQ P ops Q S fuel listed a w->wpAny P .any ops Q fuel listed a w
  |0,_,_,_,h=>h
  |fuel+1,_,_,_,h=>⟨h.1,fun i hi=>wpOp_mono (fun a' w' h'=>uo fuel _ a' w' h'.2) (h.2 i hi)⟩

theorem Ob.mono {S S':World->Prop}{j:Nat}{w w':World}(hs:∀w,S w->S' w)(h:Ob ops S j w w'):Ob ops S' j w w':=by
  unfold Ob at*
  split
  · rename_i hk;rw[if_pos hk]at h;exact fun hn=>hs _ (h hn)
  · rename_i hk;rw[if_neg hk]at h;exact h

theorem xI {Q:Exit->Act->World->Prop}{S S':World->Prop}(hs:∀w,S w->S' w):∀(fuel:Nat) (listed:Array Bool) (a:Act) (w:World),qQ P ops Q S fuel listed a w->qQ P ops Q S' fuel listed a w
  |0,_,_,_,h=>h
  |fuel+1,_,_,_,h=>⟨h.1,fun i hi=>wpOp_mono (fun a' w' h'=>⟨h'.1.mono hs,xI hs fuel _ a' w' h'.2⟩) (h.2 i hi)⟩

def still (ops:Array Oper)(listed:Array Bool):Bool:=(List.range ops.size).all fun j=>listed.getD j true|| !nS ops j

theorem M9 {listed:Array Bool}(h:still ops listed=true)(i:Nat):still ops (listed.setIfInBounds i true)=true:=by
  unfold still at*
  rw[List.all_eq_true]at*
  intro j hj
  have:=h j hj
  simp only[Bool.or_eq_true]at*
  rcases this with h'|h'
  · left
    by_cases hij:i=j
    · subst hij
      by_cases hlt:i<listed.size
      · simp[hlt]
      · simp[hlt]
    · rw[getD_set_ne true hij];exact h'
  · exact .inr h'

theorem Av {i:Nat}{o:Oper}(h:ops[i]? =some o):i<ops.size:=by
  rcases Nat.lt_or_ge i ops.size with h'|h'
  · exact h'
  · simp[Array.getElem?_eq_none h']at h

theorem I4 {listed:Array Bool}(h:still ops listed=true){i:Nat}(hi:i∈Region.ready .any ops listed):nS ops i=false:=by
  obtain⟨hun,o,ho,_⟩:=mem_ready.1 hi
  unfold still at h
  rw[List.all_eq_true]at h
  have:=h i (by simpa using Av ho)
  rw[hun]at this
  simpa using this

theorem Ay {Q:Exit->Act->World->Prop}{S S':World->Prop}:∀(fuel:Nat) (listed:Array Bool) (a:Act) (w:World),still ops listed=true->qQ P ops Q S fuel listed a w->qQ P ops Q S' fuel listed a w
  |0,_,_,_,_,h=>h
  |fuel+1,_,_,_,hst,h=>⟨h.1,fun i hi=>wpOp_mono (fun a' w' h'=>⟨by
      have h1:=h'.1
      unfold Ob at*
      split
      · intro hn;rw[I4 hst hi]at hn;cases hn
      · rename_i hk;rw[if_neg hk]at h1;exact h1,Ay fuel _ a' w' (M9 hst i) h'.2⟩) (h.2 i hi)⟩

theorem rH {Q:Exit->Act->World->Prop}{S:World->Prop}{i:Nat}{oi:Oper}{v:Value}(hi:ops[i]? =some oi)(hsel:∀(j:Nat) (o:Oper) cs b,ops[j]? =some o->o.op≠ .select cs b)
    (hQ:∀c a w,¬Q (.panic c) a w)(hk:kd oi.op≠2):
    ∀(fuel:Nat) (listed:Array Bool) (a:Act) (w:World),Cl ops listed->
      (∀j oj,ops[j]? =some oj->j≠i->listed.getD j true=false->(∀e∈oj.after,Region.binds .any e=true->e.on≠i)->oi.apart ops oj=true)->
      i∈Region.ready .any ops listed->YieldsIf P ops (fun w'=>kd oi.op=1->S w') oi v a->(kd oi.op=1->S w)->
      qQ P ops Q S fuel (listed.setIfInBounds i true) (a.put oi.dst v) w->qQ P ops Q S (fuel+1) listed a w:=by
  intro fuel
  have hQ':∀c a w,Q (.panic c) (a.put oi.dst v) w->Q (.panic c) a w:=fun c a w h=>absurd h (hQ _ _ _)
  have n:k2 ops i=false:=by unfold k2;rw[hi];simpa using hk
  have WB:∀w,Ob ops S i w w:=fun w=>by unfold Ob;rw[if_neg (by rw[n];simp)]
  induction fuel with
  |zero=>
    intro listed a w _ _ hr hy hS H
    refine⟨fun h=>(by rw[h]at hr;cases hr),fun j hj=>?_⟩
    by_cases hji:j=i
    · subst hji;exact hy.wpOp hi hS ⟨WB w,H⟩
    · have:=ready_mono hj hji
      rw[H.1]at this
      cases this
  |succ fuel ih=>
    intro listed a w hcl hfree hr hy hS H
    refine⟨fun h=>(by rw[h]at hr;cases hr),fun j hj=>?_⟩
    by_cases hji:j=i
    · subst hji;exact hy.wpOp hi hS ⟨WB w,H⟩
    · have d:=H.2 j (ready_mono hj hji)
      obtain⟨hjun,oj,hoj,hall⟩:=mem_ready.1 hj
      have hnot:∀e∈oj.after,Region.binds .any e=true->e.on≠i:=fun e he hb heq=>by
        have d:=hall e he hb
        have f:=(mem_ready.1 hr).1
        rw[heq]at d
        rcases Nat.lt_or_ge i listed.size with h'|h'
        · simp[h']at f d;rw[f]at d;cases d
        · simp[Array.getElem?_eq_none h']at d
      have ZR:¬M8 ops j i:=fun hd=>by
        have d:=hcl.dep hd (fun oj' Si=>by rw[hoj]at Si;injection Si with Si;subst Si;exact hall)
        have f:=(mem_ready.1 hr).1
        rcases Nat.lt_or_ge i listed.size with h'|h'
        · simp[h']at f d;rw[f]at d;cases d
        · simp[Array.getElem?_eq_none h']at d
      have s:=wpOp_putIf hoj (hfree j oj hoj hji hjun hnot) (fun cs b=>hsel i oi cs b hi) (fun cs b=>hsel j oj cs b hoj) hQ' hy d
      have hfree':∀k ok,ops[k]? =some ok->k≠i->(listed.setIfInBounds j true).getD k true=false->
          (∀e∈ok.after,Region.binds .any e=true->e.on≠i)->oi.apart ops ok=true:=fun k ok hk hki hun hno=>by
        refine hfree k ok hk hki ?_ hno
        by_cases hjk:j=k
        · subst hjk;exact hjun
        · rw[getD_set_ne true hjk]at hun;exact hun
      refine wpOp_mono (fun a' w' l=>⟨l.2.1,ih (listed.setIfInBounds j true) a' w' (hcl.set hj) hfree' (ready_mono hr (Ne.symm hji)) l.1 ?_ ?_⟩) s
      · intro m
        have Sj:=l.2.1
        unfold Ob at Sj
        split at Sj
        · exact Sj (W9 hi (Ne.symm hji) m ZR)
        · rw[Sj];exact hS m
      · rw[Array.setIfInBounds_comm _ _ hji]
        exact l.2.2

def Vf:Exit->Act->World->Prop:=fun _ _ _=>False
def DY (Q:Exit->Act->World->Prop):Exit->Act->World->Prop:=fun e a w=>e= .normal/\Q .normal a w

theorem DZ {i:Nat}{K:Act->World->Prop}{Q:Exit->Act->World->Prop}{a:Act}{w:World}(h:wpOp P ops Vf i K a w):wpOp P ops Q i K a w:=by
  unfold wpOp at*
  split
  · rename_i hn;simpa[hn]using h
  · rename_i o ho
    simp only[ho]at h
    split
    · rename_i hw
      simp only[hw,if_true]at h
      rcases h with h|⟨_,_,_,hf⟩
      · left
        unfold Oper.wp at*
        generalize (execOp a.eval o).run P w=r at*
        cases r with
        |ok n w'=>
          cases n<;>simp only[Oper.upon]at h ⊢ <;>first|exact h|skip
          case enter f args=>
            refine Calls.mono h fun e w'' he=>?_
            cases e with
            |returned v=>exact he
            |panicked c=>exact he.elim
            |outgrown=>obtain⟨_,_,hf⟩:=he;exact hf.elim
        |halt x w'=>cases x<;>simp only[Oper.upon]at h ⊢ <;>exact h.elim
      · exact hf.elim
    · rename_i hw;simp only[hw]at h;exact h

def Sk (P:Program)(ops:Array Oper)(Q:Exit->Act->World->Prop):List Nat->Act->World->Prop
  |[],a,w=>Q .normal a w
  |i::rest,a,w=>∃o,ops[i]? =some o/\
    if kd o.op=2 then wpOp P ops Vf i (fun a' w'=>((nS ops i||rest.any (nS ops))=true->Le w w')/\Sk P ops Q rest a' w') a w
    else∃v,YieldsIf P ops (fun w'=>kd o.op=1->Le w w') o v a/\Sk P ops Q rest (a.put o.dst v) w

def D5 (ops:Array Oper):List Nat->Array Bool->Bool
  |[],listed=>(Region.ready .any ops listed).isEmpty
  |i::rest,listed=>
    (if k2 ops i then(Region.ready .any ops listed==[i])&&((nS ops i||rest.any (nS ops))||still ops (listed.setIfInBounds i true))
     else(Region.ready .any ops listed).contains i&&Region.free .any ops listed i)&&D5 ops rest (listed.setIfInBounds i true)

def Kj (ops:Array Oper)(plan:List Nat):Bool:=plan.length==ops.size&&Region.noSelect ops&&D5 ops plan (Array.replicate ops.size false)

theorem FR {Q:Exit->Act->World->Prop}(hs:Region.noSelect ops=true):∀(L:List Nat) (listed:Array Bool) (a:Act) (w:World),
    Cl ops listed->D5 ops L listed=true->Sk P ops Q L a w->qQ P ops (DY Q) (Le w) L.length listed a w:=by
  intro L
  induction L with
  |nil=>
    intro listed a w _ hp h
    refine⟨by simpa[D5]using hp,rfl,h⟩
  |cons i rest ih=>
    intro listed a w hcl hp h
    obtain⟨o,ho,h⟩:=h
    simp only[D5,Bool.and_eq_true]at hp
    obtain⟨b,d⟩:=hp
    by_cases hk:kd o.op=2
    · rw[if_pos hk]at h
      have c:k2 ops i=true:=by unfold k2;rw[ho];simpa using hk
      rw[if_pos c]at b
      rw[Bool.and_eq_true,beq_iff_eq,Bool.or_eq_true]at b
      obtain⟨hr,hst⟩:=b
      refine⟨fun e=>(by rw[hr]at e;cases e),fun j hj=>?_⟩
      rw[hr]at hj
      obtain rfl:j=i:=by simpa using hj
      refine wpOp_mono (fun a' w' h'=>⟨?_,?_⟩) (DZ h)
      · unfold Ob;rw[if_pos c];exact fun hn=>h'.1 (by rw[hn,Bool.true_or])
      · have:=ih (listed.setIfInBounds j true) a' w' (hcl.set (by rw[hr];simp)) d h'.2
        rcases hst with hst|hst
        · exact xI (fun _ hw=>(h'.1 hst).trans hw) _ _ _ _ this
        · exact Ay _ _ _ _ hst this
    · rw[if_neg hk]at h
      obtain⟨v,hy,h⟩:=h
      have c:¬k2 ops i=true:=by unfold k2;rw[ho];simpa using hk
      rw[if_neg c]at b
      simp only[Bool.and_eq_true]at b
      exact rH ho (Region.noSelect_spec hs) (fun _ _ _ hf=>by cases hf.1) hk _ listed a w hcl (Region.free_spec ho b.2) (by simpa using b.1) hy (fun _=>Le.refl w) (ih _ _ _ (hcl.set (by simpa using b.1)) d h)

theorem Sm {Q:Exit->Act->World->Prop}{id:Nat}{a:Act}{w:World}(plan:List Nat)(hm:P.follows .mixedOrders=true)(hp:Kj ops plan=true)
    (h:Sk P ops Q plan a {w with drawn:=w.drawn+1}):(Code.region id ops true).wp P Q a w:=by
  simp only[Kj,Bool.and_eq_true,beq_iff_eq]at hp
  obtain⟨⟨hl,hs⟩,hp⟩:=hp
  have:=FR hs plan _ a _ (Cl.none _) hp h
  rw[hl]at this
  refine wp_mono (wp_region_any hm (uo _ _ _ _ this)) ?_
  rintro e a w ⟨rfl,hq⟩
  exact hq
end
end Go.Sx

namespace Go.Sx
open Go Go.RowKit

abbrev Env:=List (Nat×Value)
def look:Env->Nat->Option Value
  |[],_=>none
  |(j,v)::e,i=>bif Nat.beq j i then some v else look e i
def ev (env:Env):Operand->Option Value
  | .tmp t=>look env t
  | .const v=>some v
  | .global g=>some (.pointer (some ⟨g,0,none⟩))
  | .func f=>some (.func (.func f) #[] #[])
def evs (env:Env):List Operand->Option (List Value)
  |[]=>some []
  |x::xs=>match ev env x,evs env xs with
    |some v,some vs=>some (v::vs)
    |_,_=>none

def tK (a:Act)(n:Nat)(env:Env):Prop:=a.defers=[]/\a.tmps.size=n/\∀i v,look env i=some v->a.tmps[i]? =some v

theorem yx (e:Env)(i:Nat)(v:Value):look ((i,v)::e) i=some v:=by simp[look]
theorem wL (e:Env){i j:Nat}(v:Value)(h:j≠i):look ((j,v)::e) i=look e i:=by
  have:Nat.beq j i=false:=by rw[Bool.eq_false_iff];intro hb;exact h (Nat.eq_of_beq_eq_true hb)
  simp[look,this]

theorem tK.eval {a:Act}{n:Nat}{env:Env}(h:tK a n env){x:Operand}{v:Value}(hx:ev env x=some v):a.eval x=v:=by
  cases x with
  |tmp t=>have:=h.2.2 t v hx;simp[Act.eval,this]
  |const u=>simpa[ev,Act.eval]using hx
  |global g=>simpa[ev,Act.eval]using hx
  |func f=>simpa[ev,Act.eval]using hx

theorem tK.LJ {a:Act}{n:Nat}{env:Env}(h:tK a n env):∀{xs:List Operand} {vs:List Value},evs env xs=some vs->xs.map a.eval=vs
  |[],vs,hv=>by simp[evs]at hv;simp[hv]
  |x::xs,vs,hv=>by
    simp only[evs]at hv
    split at hv
    · rename_i v vs' h1 h2
      injection hv with hv
      subst hv
      simp[h.eval h1,h.LJ h2]
    · cases hv

theorem tK.put {a:Act}{n:Nat}{env:Env}(h:tK a n env){d:Nat}(hd:Nat.blt d n=true)(v:Value):tK (a.put (some d) v) n ((d,v)::env):=by
  have hlt:d<n:=by simpa[Nat.blt_eq]using hd
  refine⟨h.1,by simp[Act.put,h.2.1],fun i u hu=>?_⟩
  by_cases hdi:d=i
  · subst hdi
    rw[yx]at hu
    injection hu with hu
    subst hu
    simp[Act.put,h.2.1,hlt]
  · rw[wL _ _ hdi]at hu
    have:=h.2.2 i u hu
    simp[Act.put,hdi,this]

def Sub (e' e:Env):Prop:=∀i v,look e' i=some v->look e i=some v
theorem Sub.nil (e:Env):Sub [] e:=fun i v h=>by simp[look]at h
theorem Sub.cons {e' e:Env}{s:Nat}{v:Value}(h:look e s=some v)(hs:Sub e' e):Sub ((s,v)::e') e:=fun i u hu=>by
  by_cases hsi:s=i
  · subst hsi;rw[yx]at hu;rw[<-hu];exact h
  · rw[wL _ _ hsi]at hu;exact hs i u hu
theorem Sub.cons' {e' e:Env}{s:Nat}{v u:Value}(h:look e s=some u)(hv:u=v)(hs:Sub e' e):Sub ((s,v)::e') e:=by subst hv;exact .cons h hs
theorem Sub.refl (e:Env):Sub e e:=fun _ _ h=>h
theorem tK.sub {a:Act}{n:Nat}{env e':Env}(h:tK a n env)(hs:Sub e' env):tK a n e':=⟨h.1,h.2.1,fun i v hv=>h.2.2 i v (hs i v hv)⟩

def ug:Nat->List Value->Env
  |_,[]=>[]
  |k,v::vs=>(k,v)::ug (k+1) vs
theorem xJ:∀(vs:List Value) (k i:Nat) (v:Value),look (ug k vs) i=some v->k<=i/\vs[i-k]? =some v
  |[],_,_,_,h=>by simp[ug,look]at h
  |u::vs,k,i,v,h=>by
    by_cases hki:k=i
    · subst hki
      rw[ug,yx]at h
      simpa using h
    · rw[ug,wL _ _ hki]at h
      obtain⟨h1,h2⟩:=xJ vs (k+1) i v h
      refine⟨by omega,?_⟩
      rw[show i-k=(i-(k+1))+1 by omega]
      simpa using h2

section
variable {P:Program}
def Any (P:Program)(env:Env)(n:Nat)(o:Oper)(v:Value):Prop:=∀a,tK a n env->∀w,(execOp a.eval o).run P w= .ok (.value v) w
def Rd (P:Program)(w0:World)(env:Env)(n:Nat)(o:Oper)(v:Value):Prop:=∀a,tK a n env->∀w,Le w0 w->(execOp a.eval o).run P w= .ok (.value v) w
theorem Any.rd {env:Env}{n:Nat}{o:Oper}{v:Value}(h:Any P env n o v)(w0:World):Rd P w0 env n o v:=fun a ha w _=>h a ha w
def Ef (P:Program)(env:Env)(n:Nat)(o:Oper)(w:World)(K:Value->World->Prop):Prop:=
  ∀a,tK a n env->o.wp P a w (fun a' w'=>∃v,a'=a.put o.dst v/\K v w') Vf

theorem Oper.D6 {o:Oper}{a:Act}{w:World}{K:Act->World->Prop}{Q:Exit->Act->World->Prop}(h:o.wp P a w K Vf):o.wp P a w K Q:=by
  unfold Oper.wp at*
  generalize (execOp a.eval o).run P w=r at*
  cases r with
  |ok n w'=>
    cases n<;>simp only[Oper.upon]at h ⊢ <;>first|exact h|skip
    case enter f args=>
      refine Calls.mono h fun e w'' he=>?_
      cases e with
      |returned v=>exact he
      |panicked c=>exact he.elim
      |outgrown=>obtain⟨_,_,hf⟩:=he;exact hf.elim
  |halt x w'=>cases x<;>simp only[Oper.upon]at h ⊢ <;>exact h.elim

variable {ops:Array Oper}{Q:Exit->Act->World->Prop}{n:Nat}

def W (P:Program)(ops:Array Oper)(Q:Exit->Act->World->Prop)(n:Nat)(rest:List Oper)(env:Env)(w:World):Prop:=∀a,tK a n env->wpList P ops Q rest a w
def E (Q:Exit->Act->World->Prop)(n:Nat)(ex:Exit)(env:Env)(w:World):Prop:=∀a,tK a n env->Q ex a w
def WC (P:Program)(Q:Exit->Act->World->Prop)(n:Nat)(c:Code)(env:Env)(w:World):Prop:=∀a,tK a n env->Code.wp P c Q a w

theorem W.nil {env:Env}{w:World}(h:E Q n .normal env w):W P ops Q n [] env w:=fun a ha=>h a ha
theorem W.rd {env:Env}{w:World}{o:Oper}{rest:List Oper}{v:Value}{d:Nat}(hr:Rd P w env n o v)(hg:o.guard=none)(hd:o.dst=some d)(hn:Nat.blt d n=true)
    (h:W P ops Q n rest ((d,v)::env) w):W P ops Q n (o::rest) env w:=fun a ha=>
  wpList_plain hg fun K hK=>by
    unfold Oper.wp
    rw[hr a ha w (Le.refl w),Oper.upon_value,hd]
    exact hK _ _ (h _ (ha.put hn v))
theorem W.any {env:Env}{w:World}{o:Oper}{rest:List Oper}{v:Value}{d:Nat}(hr:Any P env n o v)(hg:o.guard=none)(hd:o.dst=some d)(hn:Nat.blt d n=true)
    (h:W P ops Q n rest ((d,v)::env) w):W P ops Q n (o::rest) env w:=W.rd (hr.rd w) hg hd hn h
theorem W.ef {env:Env}{w:World}{o:Oper}{rest:List Oper}{d:Nat}(hg:o.guard=none)(hd:o.dst=some d)(hn:Nat.blt d n=true)
    (h:Ef P env n o w fun v w'=>W P ops Q n rest ((d,v)::env) w'):W P ops Q n (o::rest) env w:=fun a ha=>
  wpList_plain hg fun K hK=>Oper.D6 (Oper.wp_mono (fun a' w' ⟨v,b,c⟩=>hK _ _ (by subst b;rw[hd];exact c _ (ha.put hn v))) (h a ha))
theorem W.kP {env:Env}{w:World}{o:Oper}{rest:List Oper}(hg:o.guard=none)(hd:o.dst=none)
    (h:Ef P env n o w fun _ w'=>W P ops Q n rest env w'):W P ops Q n (o::rest) env w:=fun a ha=>
  wpList_plain hg fun K hK=>Oper.D6 (Oper.wp_mono (fun a' w' ⟨v,b,c⟩=>hK _ _ (by subst b;rw[hd];exact c _ ha)) (h a ha))

theorem Kk {env:Env}{a:Act}(ha:tK a n env){j dj:Nat}{b:Bool}(hj:(ops[j]?).bind (·.dst)=some dj)(hv:look env dj=some (.bool b)):yielded ops a.tmps j=some b:=by
  unfold yielded
  rw[hj]
  simp[ha.2.2 dj _ hv]
theorem nA {env:Env}{a:Act}(ha:tK a n env){o:Oper}{j dj:Nat}{b want:Bool}(hg:o.guard=some (j,want))(hj:(ops[j]?).bind (·.dst)=some dj)(hv:look env dj=some (.bool b)):
    Region.wanted o (yielded ops a.tmps)=(b==want):=by
  unfold Region.wanted
  rw[hg]
  simp only[Kk ha hj hv]
  cases b<;>cases want<;>rfl

theorem W.Dl {env:Env}{w:World}{o:Oper}{rest:List Oper}{v:Value}{d j dj:Nat}{b want:Bool}(hr:Rd P w env n o v)(hg:o.guard=some (j,want))(hj:(ops[j]?).bind (·.dst)=some dj)
    (hv:look env dj=some (.bool b))(hb:b=want)(hd:o.dst=some d)(hn:Nat.blt d n=true)
    (h:W P ops Q n rest ((d,v)::env) w):W P ops Q n (o::rest) env w:=fun a ha=>by
  refine wpList_step fun K hK=>?_
  rw[nA ha hg hj hv,hb]
  simp only[beq_self_eq_true,if_true]
  unfold Oper.wp
  rw[hr a ha w (Le.refl w),Oper.upon_value,hd]
  exact hK _ _ (h _ (ha.put hn v))
theorem W.mY {env:Env}{w:World}{o:Oper}{rest:List Oper}{d j dj:Nat}{b want:Bool}(hg:o.guard=some (j,want))(hj:(ops[j]?).bind (·.dst)=some dj)
    (hv:look env dj=some (.bool b))(hb:b=want)(hd:o.dst=some d)(hn:Nat.blt d n=true)
    (h:Ef P env n o w fun v w'=>W P ops Q n rest ((d,v)::env) w'):W P ops Q n (o::rest) env w:=fun a ha=>by
  refine wpList_step fun K hK=>?_
  rw[nA ha hg hj hv,hb]
  simp only[beq_self_eq_true,if_true]
  exact Oper.D6 (Oper.wp_mono (fun a' w' ⟨v,c,e⟩=>hK _ _ (by subst c;rw[hd];exact e _ (ha.put hn v))) (h a ha))
theorem W.skip {env:Env}{w:World}{o:Oper}{rest:List Oper}{d j dj:Nat}{b want:Bool}(hg:o.guard=some (j,want))(hj:(ops[j]?).bind (·.dst)=some dj)
    (hv:look env dj=some (.bool b))(hb:b= !want)(hd:o.dst=some d)(hn:Nat.blt d n=true)
    (h:W P ops Q n rest ((d,undef)::env) w):W P ops Q n (o::rest) env w:=fun a ha=>by
  refine wpList_step fun K hK=>?_
  rw[nA ha hg hj hv,hb,hd]
  have:((!want)==want)=false:=by cases want<;>rfl
  simp only[this,Bool.false_eq_true,if_false]
  exact hK _ _ (h _ (ha.put hn undef))
theorem G5 {env:Env}{a:Act}(ha:tK a n env){j dj:Nat}(hj:(ops[j]?).bind (·.dst)=some dj)(hv:look env dj=some undef):yielded ops a.tmps j=none:=by
  unfold yielded
  rw[hj]
  simp[ha.2.2 dj _ hv,undef]
theorem CP {env:Env}{a:Act}(ha:tK a n env){o:Oper}{j dj:Nat}{want:Bool}(hg:o.guard=some (j,want))(hj:(ops[j]?).bind (·.dst)=some dj)(hv:look env dj=some undef):
    Region.wanted o (yielded ops a.tmps)=false:=by
  unfold Region.wanted
  rw[hg]
  simp only[G5 ha hj hv]
  cases want<;>rfl
theorem W.mU {env:Env}{w:World}{o:Oper}{rest:List Oper}{d j dj:Nat}{want:Bool}(hg:o.guard=some (j,want))(hj:(ops[j]?).bind (·.dst)=some dj)
    (hv:look env dj=some undef)(hd:o.dst=some d)(hn:Nat.blt d n=true)
    (h:W P ops Q n rest ((d,undef)::env) w):W P ops Q n (o::rest) env w:=fun a ha=>by
  refine wpList_step fun K hK=>?_
  rw[CP ha hg hj hv,hd]
  simp only[Bool.false_eq_true,if_false]
  exact hK _ _ (h _ (ha.put hn undef))

def G (P:Program)(ops:Array Oper)(Q:Exit->Act->World->Prop)(n:Nat)(plan:List Nat)(env:Env)(w:World):Prop:=∀a,tK a n env->Sk P ops Q plan a w
theorem G.nil {env:Env}{w:World}(h:E Q n .normal env w):G P ops Q n [] env w:=fun a ha=>h a ha

theorem G.any {env:Env}{w:World}{i:Nat}{o:Oper}{plan:List Nat}{v:Value}{d:Nat}(ho:ops[i]? =some o)(hk:kd o.op=0)(hr:Any P env n o v)(hg:o.guard=none)(hd:o.dst=some d)
    (hn:Nat.blt d n=true)(h:G P ops Q n plan ((d,v)::env) w):G P ops Q n (i::plan) env w:=fun a ha=>
  ⟨o,ho,by
    rw[if_neg (by rw[hk];decide)]
    refine⟨v,.inl ⟨by unfold Region.wanted;rw[hg],fun w' _=>hr a ha w'⟩,?_⟩
    rw[hd]
    exact h _ (ha.put hn v)⟩
theorem G.rd {env:Env}{w:World}{i:Nat}{o:Oper}{plan:List Nat}{v:Value}{d:Nat}(ho:ops[i]? =some o)(hk:kd o.op=1)(hr:Rd P w env n o v)(hg:o.guard=none)(hd:o.dst=some d)
    (hn:Nat.blt d n=true)(h:G P ops Q n plan ((d,v)::env) w):G P ops Q n (i::plan) env w:=fun a ha=>
  ⟨o,ho,by
    rw[if_neg (by rw[hk];decide)]
    refine⟨v,.inl ⟨by unfold Region.wanted;rw[hg],fun w' hw=>hr a ha w' (hw hk)⟩,?_⟩
    rw[hd]
    exact h _ (ha.put hn v)⟩
theorem G.Na {env:Env}{w:World}{i:Nat}{o:Oper}{plan:List Nat}{v:Value}{d j dj:Nat}{b want:Bool}(ho:ops[i]? =some o)(hk:kd o.op=0)(hr:Any P env n o v)(hg:o.guard=some (j,want))
    (hj:(ops[j]?).bind (·.dst)=some dj)(hv:look env dj=some (.bool b))(hb:b=want)(hd:o.dst=some d)
    (hn:Nat.blt d n=true)(h:G P ops Q n plan ((d,v)::env) w):G P ops Q n (i::plan) env w:=fun a ha=>
  ⟨o,ho,by
    rw[if_neg (by rw[hk];decide)]
    refine⟨v,.inl ⟨by rw[nA ha hg hj hv,hb];simp,fun w' _=>hr a ha w'⟩,?_⟩
    rw[hd]
    exact h _ (ha.put hn v)⟩
theorem G.Dl {env:Env}{w:World}{i:Nat}{o:Oper}{plan:List Nat}{v:Value}{d j dj:Nat}{b want:Bool}(ho:ops[i]? =some o)(hk:kd o.op=1)(hr:Rd P w env n o v)(hg:o.guard=some (j,want))
    (hj:(ops[j]?).bind (·.dst)=some dj)(hv:look env dj=some (.bool b))(hb:b=want)(hd:o.dst=some d)
    (hn:Nat.blt d n=true)(h:G P ops Q n plan ((d,v)::env) w):G P ops Q n (i::plan) env w:=fun a ha=>
  ⟨o,ho,by
    rw[if_neg (by rw[hk];decide)]
    refine⟨v,.inl ⟨by rw[nA ha hg hj hv,hb];simp,fun w' hw=>hr a ha w' (hw hk)⟩,?_⟩
    rw[hd]
    exact h _ (ha.put hn v)⟩
theorem G.ef {env:Env}{w:World}{i:Nat}{o:Oper}{plan:List Nat}{d:Nat}(ho:ops[i]? =some o)(hk:kd o.op=2)(hg:o.guard=none)(hd:o.dst=some d)(hn:Nat.blt d n=true)
    (h:Ef P env n o w fun v w'=>((nS ops i||plan.any (nS ops))=true->Le w w')/\G P ops Q n plan ((d,v)::env) w'):G P ops Q n (i::plan) env w:=fun a ha=>
  ⟨o,ho,by
    rw[if_pos hk]
    unfold wpOp
    simp only[ho]
    rw[if_pos (by unfold Region.wanted;rw[hg])]
    left
    exact Oper.wp_mono (fun a' w' ⟨v,b,c,e⟩=>⟨c,by subst b;rw[hd];exact e _ (ha.put hn v)⟩) (h a ha)⟩
theorem G.kP {env:Env}{w:World}{i:Nat}{o:Oper}{plan:List Nat}(ho:ops[i]? =some o)(hk:kd o.op=2)(hg:o.guard=none)(hd:o.dst=none)
    (h:Ef P env n o w fun _ w'=>((nS ops i||plan.any (nS ops))=true->Le w w')/\G P ops Q n plan env w'):G P ops Q n (i::plan) env w:=fun a ha=>
  ⟨o,ho,by
    rw[if_pos hk]
    unfold wpOp
    simp only[ho]
    rw[if_pos (by unfold Region.wanted;rw[hg])]
    left
    exact Oper.wp_mono (fun a' w' ⟨v,b,c,d⟩=>⟨c,by subst b;rw[hd];exact d _ ha⟩) (h a ha)⟩
theorem G.mY {env:Env}{w:World}{i:Nat}{o:Oper}{plan:List Nat}{d j dj:Nat}{b want:Bool}(ho:ops[i]? =some o)(hk:kd o.op=2)(hg:o.guard=some (j,want))
    (hj:(ops[j]?).bind (·.dst)=some dj)(hv:look env dj=some (.bool b))(hb:b=want)(hd:o.dst=some d)(hn:Nat.blt d n=true)
    (h:Ef P env n o w fun v w'=>((nS ops i||plan.any (nS ops))=true->Le w w')/\G P ops Q n plan ((d,v)::env) w'):G P ops Q n (i::plan) env w:=fun a ha=>
  ⟨o,ho,by
    rw[if_pos hk]
    unfold wpOp
    simp only[ho]
    rw[if_pos (by rw[nA ha hg hj hv,hb];simp)]
    left
    exact Oper.wp_mono (fun a' w' ⟨v,c,e,f⟩=>⟨e,by subst c;rw[hd];exact f _ (ha.put hn v)⟩) (h a ha)⟩
theorem G.skip {env:Env}{w:World}{i:Nat}{o:Oper}{plan:List Nat}{d j dj:Nat}{b want:Bool}(ho:ops[i]? =some o)(hg:o.guard=some (j,want))
    (hj:(ops[j]?).bind (·.dst)=some dj)(hv:look env dj=some (.bool b))(hb:b= !want)(hd:o.dst=some d)(hn:Nat.blt d n=true)
    (h:G P ops Q n plan ((d,undef)::env) w):G P ops Q n (i::plan) env w:=fun a ha=>
  ⟨o,ho,by
    have hw:Region.wanted o (yielded ops a.tmps)=false:=by rw[nA ha hg hj hv,hb];cases want<;>rfl
    split
    · unfold wpOp
      simp only[ho]
      rw[if_neg (by rw[hw];simp)]
      refine⟨fun _=>Le.refl w,?_⟩
      rw[hd]
      exact h _ (ha.put hn undef)
    · refine⟨undef,.inr ⟨hw,rfl⟩,?_⟩
      rw[hd]
      exact h _ (ha.put hn undef)⟩
theorem G.mU {env:Env}{w:World}{i:Nat}{o:Oper}{plan:List Nat}{d j dj:Nat}{want:Bool}(ho:ops[i]? =some o)(hg:o.guard=some (j,want))
    (hj:(ops[j]?).bind (·.dst)=some dj)(hv:look env dj=some undef)(hd:o.dst=some d)(hn:Nat.blt d n=true)
    (h:G P ops Q n plan ((d,undef)::env) w):G P ops Q n (i::plan) env w:=fun a ha=>
  ⟨o,ho,by
    have hw:Region.wanted o (yielded ops a.tmps)=false:=CP ha hg hj hv
    split
    · unfold wpOp
      simp only[ho]
      rw[if_neg (by rw[hw];simp)]
      refine⟨fun _=>Le.refl w,?_⟩
      rw[hd]
      exact h _ (ha.put hn undef)
    · refine⟨undef,.inr ⟨hw,rfl⟩,?_⟩
      rw[hd]
      exact h _ (ha.put hn undef)⟩

theorem WC.seq {env:Env}{w:World}{x y:Code}(h:WC P (Exit.then (y.wp P Q) Q) n x env w):WC P Q n (.seq x y) env w:=fun a ha=>wp_seq (h a ha)
theorem WC.region {env:Env}{w:World}{id:Nat}{l:List Oper}(h:W P l.toArray Q n l env w):WC P Q n (.region id l.toArray false) env w:=fun a ha=>wp_region_lit (h a ha)
theorem WC.draw {env:Env}{w:World}{id:Nat}(plan:List Nat)(hm:P.follows .mixedOrders=true)(hp:Kj ops plan=true)
    (h:∀w',Le w w'->G P ops Q n plan env w'):WC P Q n (.region id ops true) env w:=fun a ha=>Sm plan hm hp (h _ (Le.drew w) a ha)
theorem WC.block {env:Env}{w:World}{id:Nat}{c:Code}(h:WC P (Exit.inBlock id Q) n c env w):WC P Q n (.block id c) env w:=fun a ha=>wp_block (h a ha)
theorem WC.ret {env:Env}{w:World}(h:E Q n .ret env w):WC P Q n .ret env w:=fun a ha=>wp_ret (h a ha)
theorem WC.skip {env:Env}{w:World}(h:E Q n .normal env w):WC P Q n .skip env w:=fun a ha=>wp_skip (h a ha)
theorem WC.exit {env:Env}{w:World}{id:Nat}(h:E Q n (.exit id) env w):WC P Q n (.exit id) env w:=fun a ha=>wp_exit (h a ha)
theorem WC.label {env:Env}{w:World}{l:Nat}(h:E Q n .normal env w):WC P Q n (.label l) env w:=fun a ha=>wp_label (h a ha)
theorem WC.xu {env:Env}{w:World}{c:Operand}{x y:Code}{b:Bool}(hc:ev env c=some (.bool b))(ht:b=true->WC P Q n x env w)(hf:b=false->WC P Q n y env w):
    WC P Q n (.cond c x y) env w:=fun a ha=>wp_cond_split (ha.eval hc) (fun h=>ht h a ha) (fun h=>hf h a ha)
theorem WC.cond {env:Env}{w:World}{c:Operand}{x y:Code}{p:Prop}[Decidable p](hc:ev env c=some (.bool (decide p)))(ht:p->WC P Q n x env w)(hf:¬p->WC P Q n y env w):
    WC P Q n (.cond c x y) env w:= .xu hc (fun h=>ht (of_decide_eq_true h)) (fun h=>hf (of_decide_eq_false h))
theorem WC.jS {env:Env}{w:World}{c:Operand}{x y:Code}(hc:ev env c=some (.bool true))(ht:WC P Q n x env w):WC P Q n (.cond c x y) env w:=fun a ha=>wp_cond_true (ha.eval hc) (ht a ha)
theorem WC.kF {env:Env}{w:World}{c:Operand}{x y:Code}(hc:ev env c=some (.bool false))(hf:WC P Q n y env w):WC P Q n (.cond c x y) env w:=fun a ha=>wp_cond_false (ha.eval hc) (hf a ha)
theorem WC.sub {env e':Env}{w:World}{c:Code}(hs:Sub e' env)(h:WC P Q n c e' w):WC P Q n c env w:=fun a ha=>h a (ha.sub hs)
theorem W.sub {env e':Env}{w:World}{l:List Oper}(hs:Sub e' env)(h:W P ops Q n l e' w):W P ops Q n l env w:=fun a ha=>h a (ha.sub hs)
theorem E.sub {env e':Env}{w:World}{ex:Exit}(hs:Sub e' env)(h:E Q n ex e' w):E Q n ex env w:=fun a ha=>h a (ha.sub hs)

theorem E.jG {env:Env}{w:World}{y:Code}{Q Q':Exit->Act->World->Prop}(h:WC P Q n y env w):E (Exit.then (y.wp P Q) Q') n .normal env w:=h
theorem E.jJ {env:Env}{w:World}{K:Act->World->Prop}{id:Nat}(h:E Q n (.exit id) env w):E (Exit.then K Q) n (.exit id) env w:=h
theorem E.jH {env:Env}{w:World}{K:Act->World->Prop}(h:E Q n .ret env w):E (Exit.then K Q) n .ret env w:=h
theorem E.jZ {env:Env}{w:World}{id:Nat}(h:E Q n .normal env w):E (Exit.inBlock id Q) n .normal env w:=h
theorem E.j4 {env:Env}{w:World}{id:Nat}(h:E Q n .ret env w):E (Exit.inBlock id Q) n .ret env w:=h
theorem E.ko {env:Env}{w:World}{id:Nat}(h:E Q n .normal env w):E (Exit.inBlock id Q) n (.exit id) env w:=fun a ha=>by
  show(if id=id then _ else _);rw[if_pos rfl];exact h a ha
theorem E.Kl {env:Env}{w:World}{id id':Nat}(hne:Nat.beq id' id=false)(h:E Q n (.exit id') env w):E (Exit.inBlock id Q) n (.exit id') env w:=fun a ha=>by
  show(if id'=id then _ else _)
  rw[if_neg (fun he=>by subst he;simp at hne)]
  exact h a ha

theorem WC.cut {ι:Type}{env:Env}{w:World}{x y:Code}(qw:ι->Env)(M:ι->World->Prop)
    (hx:WC P (Exit.then (fun a w'=>∃i,tK a n (qw i)/\M i w') Q) n x env w)(hy:∀i w',M i w'->WC P Q n y (qw i) w'):WC P Q n (.seq x y) env w:=fun a ha=>
  wp_seq (wp_mono (hx a ha) fun e a' w' h=>by
    cases e with
    |normal=>obtain⟨i,hr,hm⟩:=h;exact hy i w' hm a' hr
    |exit id=>exact h
    |goto l=>exact h
    |ret=>exact h
    |panic c=>exact h
    |outgrown=>exact h)
theorem E.meet {ι:Type}{env:Env}{w:World}{qw:ι->Env}{M:ι->World->Prop}(i:ι)(hs:Sub (qw i) env)(hm:M i w):
    E (Exit.then (fun a w'=>∃i,tK a n (qw i)/\M i w') Q) n .normal env w:=fun _ ha=>⟨i,ha.sub hs,hm⟩

def Xa {ι:Type}(n:Nat)(qw:ι->Env)(I:ι->World->Prop)(μ:ι->Nat)(i:ι)(a:Act)(w:World):Prop:=∃j,tK a n (qw j)/\I j w/\μ j<μ i
theorem WC.loop {ι:Type}{env:Env}{w:World}{c:Code}(qw:ι->Env)(I:ι->World->Prop)(μ:ι->Nat)(i0:ι)(he:Sub (qw i0) env)(h0:I i0 w)
    (round:∀i w,I i w->WC P (Exit.then (Xa n qw I μ i) Q) n c (qw i) w):WC P Q n (.loop c) env w:=fun a ha=>by
  have key:∀m i a w,μ i=m->tK a n (qw i)->I i w->Code.wp P (.loop c) Q a w:=by
    intro m i a w hm hr hI
    refine wp_loop (fun a' w'=>∃j,tK a' n (qw j)/\I j w') (fun a' w'=>Classical.epsilon fun k=>(∃j,tK a' n (qw j)/\I j w'/\μ j=k)/\∀k',(∃j,tK a' n (qw j)/\I j w'/\μ j=k')->k<=k') ⟨i,hr,hI⟩ ?_
    intro b d ⟨s,t,u⟩
    --the least measure
    have hex:∃k,(∃j,tK b n (qw j)/\I j d/\μ j=k)/\∀k',(∃j,tK b n (qw j)/\I j d/\μ j=k')->k<=k':=least ⟨s,t,u,rfl⟩
    obtain⟨⟨j,hrj,hIj,hμ⟩,_⟩:=Classical.epsilon_spec hex
    refine wp_mono (round j d hIj b hrj) fun e f o h=>?_
    cases e with
    |normal=>
      obtain⟨j',hr',hI',hlt⟩:=h
      refine⟨⟨j',hr',hI'⟩,?_⟩
      have hex':∃k,(∃j,tK f n (qw j)/\I j o/\μ j=k)/\∀k',(∃j,tK f n (qw j)/\I j o/\μ j=k')->k<=k':=least ⟨j',hr',hI',rfl⟩
      have:=(Classical.epsilon_spec hex').2 (μ j') ⟨j',hr',hI',rfl⟩
      exact Nat.lt_of_le_of_lt this (by rw[<-hμ];exact hlt)
    |exit id=>exact h
    |goto l=>exact h
    |ret=>exact h
    |panic c=>exact h
    |outgrown=>exact h
  exact key _ i0 a w rfl (ha.sub he) h0
where
  least {p:Nat->Prop} {m:Nat} (h:p m):∃k,p k/\∀k',p k'->k<=k':=by
    induction m using Nat.strongRecOn with
    |_ m ih=>
      by_cases hl:∃k,k<m/\p k
      · obtain⟨k,hk,hp⟩:=hl;exact ih k hk hp
      · exact⟨m,h,fun k' hp=>Nat.le_of_not_lt fun hlt=>hl ⟨k',hlt,hp⟩⟩
theorem E.again {ι:Type}{env:Env}{w:World}{qw:ι->Env}{I:ι->World->Prop}{μ:ι->Nat}{i:ι}(j:ι)(hs:Sub (qw j) env)(hI:I j w)(hμ:μ j<μ i):
    E (Exit.then (Xa n qw I μ i) Q) n .normal env w:=fun _ ha=>⟨j,ha.sub hs,hI,hμ⟩

theorem enter {f:FuncId}{fn:Func}{c:Code}{args:List Value}{w:World}{R:Ending->World->Prop}(hf:P.funcs[f]? =some fn)(hb:fn.body=some c)(hl:Nat.ble args.length fn.ntmps=true)
    (h:WC P (bodyPost P fn R) fn.ntmps c (ug 0 args) w):Calls P f args.toArray w R:=by
  have hl':args.length<=fn.ntmps:=Nat.le_of_ble_eq_true hl
  refine calls_of_wp hf hb (h _ ⟨rfl,?_,fun i v hv=>?_⟩)
  · simp;omega
  · obtain⟨_,b⟩:=xJ args 0 i v hv
    simp only[Nat.sub_zero]at b
    rw[Array.getElem?_append_left (by simpa using(List.getElem?_eq_some_iff.1 b).1)]
    simpa using b
theorem E.o9 {fn:Func}{R:Ending->World->Prop}{env:Env}{w:World}{t:Nat}{v:Value}(hr:fn.results=#[.tmp t])(hv:look env t=some v)(h:R (.returned v) w):E (bodyPost P fn R) n .ret env w:=fun a ha=>
  bodyPost_ret (by rw[results_tmp hr];simp[ha.2.2 t v hv]) ha.1 h
theorem E.Vg {fn:Func}{R:Ending->World->Prop}{env:Env}{w:World}{t u:Nat}{v x:Value}(hr:fn.results=#[.tmp t,.tmp u])(hv:look env t=some v)(hx:look env u=some x)(h:R (.returned (.tuple #[v,x])) w):
    E (bodyPost P fn R) n .ret env w:=fun a ha=>bodyPost_ret (by rw[results_tmp2 hr];simp[ha.2.2 t v hv,ha.2.2 u x hx]) ha.1 h
theorem E.Vh {fn:Func}{R:Ending->World->Prop}{env:Env}{w:World}(hr:fn.results=#[])(h:R (.returned (.tuple #[])) w):E (bodyPost P fn R) n .ret env w:=fun _ ha=>
  bodyPost_ret (results_none hr _ _ _) ha.1 h
theorem E.end_ {fn:Func}{R:Ending->World->Prop}{env:Env}{w:World}(h:E (bodyPost P fn R) n .ret env w):E (bodyPost P fn R) n .normal env w:=h
end
end Go.Sx

