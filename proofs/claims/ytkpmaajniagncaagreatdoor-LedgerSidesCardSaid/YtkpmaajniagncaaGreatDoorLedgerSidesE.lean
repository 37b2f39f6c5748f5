/- LedgerSides: for every input the law answers true and leaves its arguments as they were. -/
import Derived.Test.YtkpmaajniagncaaGreatDoorLedgerSidesD
import Derived.KernelRfl
set_option linter.unusedVariables false
set_option linter.unusedSimpArgs false
namespace Go.Sx
open Go
def MS (env:Env):Op->Option Value
 | .move x=>ev env x
 | .assign x=>ev env x
 | .pick c x y=>match ev env c with
  |some (.bool true)=>ev env x
  |some (.bool false)=>ev env y
  |_=>none
 | .extract x i=>match ev env x with
  |some (.tuple vs)=>vs[i]?
  |_=>none
 | .unOp .not _ x=>match ev env x with
  |some (.bool b)=>some (.bool (!b))
  |_=>none
 | .binOp .lss _ x y _=>match ev env x,ev env y with
  |some (.int k a),some (.int k' b)=>if k=k' then some (.bool (decide (a<b)))else none
  |_,_=>none
 | .binOp .leq _ x y _=>match ev env x,ev env y with
  |some (.int k a),some (.int k' b)=>if k=k' then some (.bool (decide (a<=b)))else none
  |_,_=>none
 | .binOp .gtr _ x y _=>match ev env x,ev env y with
  |some (.int k a),some (.int k' b)=>if k=k' then some (.bool (decide (b<a)))else none
  |_,_=>none
 | .binOp .geq _ x y _=>match ev env x,ev env y with
  |some (.int k a),some (.int k' b)=>if k=k' then some (.bool (decide (b<=a)))else none
  |_,_=>none
 | .binOp .eql _ x y _=>match ev env x,ev env y with
  |some (.int k a),some (.int k' b)=>if k=k' then some (.bool (decide (a=b)))else none
  |_,_=>none
 | .binOp .neq _ x y _=>match ev env x,ev env y with
  |some (.int k a),some (.int k' b)=>if k=k' then some (.bool (decide (a≠b)))else none
  |_,_=>none
 |_=>none
section
variable {P:Program}{ops:Array Oper}{Q:Exit->Act->World->Prop}{n:Nat}{env:Env}{w:World}{op:Op}{af:Array Edge}{v:Value}
theorem uQ {d:Option Nat}{T:TypeId}{p:String}{g:Option (Nat×Bool)}(h:MS env op=some v):Any P env n ⟨d,op,T,p,af,g⟩ v:=by
 unfold MS at h
 split at h
 ·exact .move h
 ·exact .assign h
 ·split at h
  ·rename_i hc;exact .BJ hc Z h
  ·rename_i hc;exact .AU hc Z h
  ·cases h
 ·split at h
  ·rename_i hx;exact .extract hx h
  ·cases h
 ·split at h
  ·rename_i hx;cases h;exact .not hx
  ·cases h
 ·split at h
  ·rename_i hx hy
   split at h
   ·rename_i hk;subst hk;cases h;exact .lss hx hy
   ·cases h
  ·cases h
 ·split at h
  ·rename_i hx hy
   split at h
   ·rename_i hk;subst hk;cases h;exact .leq hx hy
   ·cases h
  ·cases h
 ·split at h
  ·rename_i hx hy
   split at h
   ·rename_i hk;subst hk;cases h;exact .gtr hx hy
   ·cases h
  ·cases h
 ·split at h
  ·rename_i hx hy
   split at h
   ·rename_i hk;subst hk;cases h;exact .geq hx hy
   ·cases h
  ·cases h
 ·split at h
  ·rename_i hx hy
   split at h
   ·rename_i hk;subst hk;cases h;exact .eql hx hy
   ·cases h
  ·cases h
 ·split at h
  ·rename_i hx hy
   split at h
   ·rename_i hk;subst hk;cases h;exact .neq hx hy
   ·cases h
  ·cases h
 ·cases h
def GX (ops:Array Oper)(n:Nat)(env:Env)(o:Oper):Option Env:=
 match o with
 |⟨some d,op,_,_,_,none⟩=>match Nat.blt d n,MS env op with
  |true,some v=>some ((d,v)::env)
  |_,_=>none
 |⟨some d,op,_,_,_,some (j,want)⟩=>match Nat.blt d n,(ops[j]?).bind (·.dst)with
  |true,some dj=>match look env dj,want with
   |some (.bool true),true=>match MS env op with
    |some v=>some ((d,v)::env)
    |none=>none
   |some (.bool false),false=>match MS env op with
    |some v=>some ((d,v)::env)
    |none=>none
   |some (.bool true),false=>some ((d,undef)::env)
   |some (.bool false),true=>some ((d,undef)::env)
   |_,_=>none
  |_,_=>none
 |_=>none
variable {o:Oper}{e:Env}
theorem QV {rest:List Oper}(h:GX ops n env o=some e)(k:W P ops Q n rest e w):W P ops Q n (o::rest) env w:=by
 unfold GX at h
 split at h
 ·split at h
  ·rename_i hn hv;cases h;exact W.any (uQ hv) Z Z hn k
  ·cases h
 ·split at h
  ·rename_i hn hj
   split at h
   ·rename_i hl
    split at h
    ·rename_i hv;cases h;exact W.Fx (Any.rd (uQ hv) _) Z hj hl Z Z hn k
    ·cases h
   ·rename_i hl
    split at h
    ·rename_i hv;cases h;exact W.Fx (Any.rd (uQ hv) _) Z hj hl Z Z hn k
    ·cases h
   ·rename_i hl;cases h;exact W.skip Z hj hl Z Z hn k
   ·rename_i hl;cases h;exact W.skip Z hj hl Z Z hn k
   ·cases h
  ·cases h
 ·cases h
def Z7 (ops:Array Oper)(n:Nat):Nat->List Oper->Env->Option (List Oper×Env)
 |0,l,env=>some (l,env)
 |k+1,o::l,env=>match GX ops n env o with
  |some e=>Z7 ops n k l e
  |none=>none
 |_+1,[],_=>none
theorem W.run:∀(k:Nat) {rest l:List Oper} {env e:Env},Z7 ops n k rest env=some (l,e)->W P ops Q n l e w->W P ops Q n rest env w
 |0,_,_,_,_,h,k=>by cases h;exact k
 |j+1,[],_,_,_,h,_=>by cases h
 |j+1,o::r,l,env,e,h,k=>by
  unfold Z7 at h
  split at h
  ·rename_i hs;exact QV hs (W.run j h k)
  ·cases h
theorem FX (h:MS env op=some v):kd op=0:=by
 unfold MS at h
 split at h<;>first|rfl|cases h
variable {i:Nat}{plan:List Nat}
theorem QW (ho:ops[i]? =some o)(h:GX ops n env o=some e)(k:G P ops Q n plan e w):G P ops Q n (i::plan) env w:=by
 unfold GX at h
 split at h
 ·split at h
  ·rename_i hn hv;cases h;exact G.any ho (FX hv) (uQ hv) Z Z hn k
  ·cases h
 ·split at h
  ·rename_i hn hj
   split at h
   ·rename_i hl
    split at h
    ·rename_i hv;cases h;exact G.VQ ho (FX hv) (uQ hv) Z hj hl Z Z hn k
    ·cases h
   ·rename_i hl
    split at h
    ·rename_i hv;cases h;exact G.VQ ho (FX hv) (uQ hv) Z hj hl Z Z hn k
    ·cases h
   ·rename_i hl;cases h;exact G.skip ho Z hj hl Z Z hn k
   ·rename_i hl;cases h;exact G.skip ho Z hj hl Z Z hn k
   ·cases h
  ·cases h
 ·cases h
def Z8 (ops:Array Oper)(n:Nat):Nat->List Nat->Env->Option (List Nat×Env)
 |0,l,env=>some (l,env)
 |k+1,i::l,env=>match ops[i]? with
  |some o=>match GX ops n env o with
   |some e=>Z8 ops n k l e
   |none=>none
  |none=>none
 |_+1,[],_=>none
theorem G.run:∀(k:Nat) {plan l:List Nat} {env e:Env},Z8 ops n k plan env=some (l,e)->G P ops Q n l e w->G P ops Q n plan env w
 |0,_,_,_,_,h,k=>by cases h;exact k
 |j+1,[],_,_,_,h,_=>by cases h
 |j+1,o::r,l,env,e,h,k=>by
  unfold Z8 at h
  split at h
  ·rename_i ho
   split at h
   ·rename_i hs;exact QW ho hs (G.run j h k)
   ·cases h
  ·cases h
variable {y:Code}{Q':Exit->Act->World->Prop}
theorem W.nx (h:WC P Q n y env w):W P ops (Exit.then (y.wp P Q) Q') n [] env w:=W.nil (E.iM h)
theorem WC.sr {id:Nat}{l:List Oper}(h:W P l.toArray (Exit.then (y.wp P Q) Q) n l env w):WC P Q n (.seq (.region id l.toArray false) y) env w:= .seq (.region h)
theorem WC.sn (h:WC P Q n y env w):WC P (Exit.then (y.wp P Q) Q') n .skip env w:= .skip (E.iM h)
variable {d:Nat}{x:Operand}{pp:String}
theorem W.dt {rest:List Oper}{T:TypeId}{p:Prop}[Decidable p](hp:p)(hx:ev env x=some (.bool (decide p)))(hn:Nat.blt d n=true)(h:W P ops Q n rest ((d,.bool true)::env) w):W P ops Q n (⟨some d,.move x,T,pp,af,none⟩::rest) env w:=W.any (.dec (.move hx) (decide_eq_true hp)) Z Z hn h
theorem W.df {rest:List Oper}{T:TypeId}{p:Prop}[Decidable p](hp:¬p)(hx:ev env x=some (.bool (decide p)))(hn:Nat.blt d n=true)(h:W P ops Q n rest ((d,.bool false)::env) w):W P ops Q n (⟨some d,.move x,T,pp,af,none⟩::rest) env w:=W.any (.dec (.move hx) (decide_eq_false hp)) Z Z hn h
theorem W.a {rest:List Oper}(hr:Any P env n o v)(h:W P ops Q n rest ((d,v)::env) w)(hg:o.guard=none:=by exact Z)(hd:o.dst=some d:=by exact Z)(hn:Nat.blt d n=true:=by exact Z):W P ops Q n (o::rest) env w:=W.any hr hg hd hn h
theorem W.r {rest:List Oper}(hr:Rd P w env n o v)(h:W P ops Q n rest ((d,v)::env) w)(hg:o.guard=none:=by exact Z)(hd:o.dst=some d:=by exact Z)(hn:Nat.blt d n=true:=by exact Z):W P ops Q n (o::rest) env w:=W.rd hr hg hd hn h
variable {j dj:Nat}{want:Bool}
theorem W.g {rest:List Oper}{b:Bool}(hr:Rd P w env n o v)(h:W P ops Q n rest ((d,v)::env) w)(hg:o.guard=some (j,want):=by exact Z)(hj:(ops[j]?).bind (·.dst)=some dj:=by exact Z)(hv:look env dj=some (.bool b):=by exact Z)(hb:b=want:=by exact Z)(hd:o.dst=some d:=by exact Z)(hn:Nat.blt d n=true:=by exact Z):W P ops Q n (o::rest) env w:=W.Fx hr hg hj hv hb hd hn h
theorem G.a (ho:ops[i]? =some o)(hr:Any P env n o v)(h:G P ops Q n plan ((d,v)::env) w)(hk:kd o.op=0:=by exact Z)(hg:o.guard=none:=by exact Z)(hd:o.dst=some d:=by exact Z)(hn:Nat.blt d n=true:=by exact Z):G P ops Q n (i::plan) env w:=G.any ho hk hr hg hd hn h
theorem G.r (ho:ops[i]? =some o)(hr:Rd P w env n o v)(h:G P ops Q n plan ((d,v)::env) w)(hk:kd o.op=1:=by exact Z)(hg:o.guard=none:=by exact Z)(hd:o.dst=some d:=by exact Z)(hn:Nat.blt d n=true:=by exact Z):G P ops Q n (i::plan) env w:=G.rd ho hk hr hg hd hn h
theorem G.rg {b:Bool}(ho:ops[i]? =some o)(hr:Rd P w env n o v)(h:G P ops Q n plan ((d,v)::env) w)(hk:kd o.op=1:=by exact Z)(hg:o.guard=some (j,want):=by exact Z)(hj:(ops[j]?).bind (·.dst)=some dj:=by exact Z)(hv:look env dj=some (.bool b):=by exact Z)(hb:b=want:=by exact Z)(hd:o.dst=some d:=by exact Z)(hn:Nat.blt d n=true:=by exact Z):G P ops Q n (i::plan) env w:=G.Fx ho hk hr hg hj hv hb hd hn h
abbrev Ret (e:Ending)(K:Value->Prop):Prop:=match e with
 | .returned v=>K v
 |_=>False
theorem Le.tb {w0 w1 w2 wz:World}{g:Nat}(h:Le w0 w1)(k:Ch w1 w2 (some g))(m:Le w0 wz)(hg:wz.heap.size<=g):Le w0 w2:=h.ja k (fun q hq=>by cases hq;exact Nat.le_trans m.size hg)
variable {vs:Array Value}
theorem W.sA {rest:List Oper}{t sz tb:TypeId}{y:Operand}{gb:Nat}{cs:Array Value}{T:TypeId}{p:String}(hs:Sz P t sz)(hx:ev env x=some (.pointer (some ⟨gb,0,none⟩)))(hy:ev env y=some (.agg vs))(hB:ik w gb tb cs)
  (h:∀w',ik w' gb tb vs->Ch w w' (some gb)->W P ops Q n rest env w')(hsz:vs.size=sz:=by rfl)(hl:cs.size=vs.size:=by rfl)(hv:∀v∈vs.toList,v.oneCell'=true:=by simp[Value.oneCell']):W P ops Q n (⟨none,.store t x y,T,p,af,none⟩::rest) env w:=
 W.jR Z Z (Ef.storeAll hs hsz hx hy hB hl hv h)
theorem dT {p:Prop}[Decidable p](h:p):decide p=true:=decide_eq_true h
theorem dF {p:Prop}[Decidable p](h:¬p):decide p=false:=decide_eq_false h
theorem oI {α:Type}{a b:α}(h:some a=some b):a=b:=Option.some.inj h
theorem noT {a:Bool}{p q:Prop}(h:a=false)(hq:q):(a=true->p)/\q:=⟨fun x=>absurd x (ne_true_of_eq_false h),hq⟩
theorem rB {a b:Bool}(h:a=b):Ending.returned (Value.bool a)=Ending.returned (Value.bool b):=by rw[h]
def abX (n:Nat)(env:Env)(o s:Oper):Option (Nat×Nat×Array Value):=
 match o,s with
 |⟨some d,.alloc t,_,_,_,none⟩,⟨none,.store t' (.tmp d') y,_,_,_,none⟩=>
  match Nat.beq t t',Nat.beq d d',Nat.blt d n with
  |true,true,true=>
   match(match y with | .tmp e=>Nat.beq e d|_=>false)with
   |false=>match ev env y with
    |some (.agg vs)=>some (d,t,vs)
    |_=>none
   |true=>none
  |_,_,_=>none
 |_,_=>none
variable {t:Nat}{s:Oper}
theorem ab4 (h:abX n env o s=some (d,t,vs)):∃T p af T' p' af' y,o=⟨some d,.alloc t,T,p,af,none⟩/\s=⟨none,.store t (.tmp d) y,T',p',af',none⟩/\Nat.blt d n=true/\∀g,ev ((d,.pointer (some ⟨g,0,none⟩))::env) y=some (.agg vs):=by
 unfold abX at h
 split at h
 ·rename_i d0 t0 T p af t' d' y T' p' af'
  split at h
  ·rename_i h1 h2 h3
   split at h
   ·rename_i hy
    split at h
    ·rename_i vs0 he
     cases h
     have e1:=Nat.eq_of_beq_eq_true h1;have e2:=Nat.eq_of_beq_eq_true h2
     subst e1;subst e2
     refine⟨T,p,af,T',p',af',y,rfl,rfl,h3,fun g=>?_⟩
     cases y with
     |tmp e=>
      have hne:Nat.beq d e=false:=by
       cases hq:Nat.beq d e with
       |false=>rfl
       |true=>rw[Nat.eq_of_beq_eq_true hq]at hy;exact(Bool.noConfusion ((Nat.beq_refl e).symm.trans hy))
      show look ((d,_)::env) e=_
      unfold look
      rw[hne];exact he
     |_=>exact he
    ·cases h
   ·cases h
  ·cases h
 ·cases h
theorem W.ab {rest:List Oper}{sz:Nat}{cs:Array Value}(h:abX n env o s=some (d,t,vs))(hz:Zr P t (.agg cs))(hs:Sz P t sz)(hv:∀v∈vs.toList,v.oneCell'=true)
  (hk:∀g w',w.heap.size<=g->ik w' g t vs->Le w w'->W P ops Q n rest ((d,.pointer (some ⟨g,0,none⟩))::env) w')(h1:vs.size=sz:=by exact Z)(h2:cs.size=sz:=by exact Z):W P ops Q n (o::s::rest) env w:=by
 obtain⟨T,p,af,T',p',af',y,rfl,rfl,hn,he⟩:=ab4 h
 refine W.ef Z Z hn (Ef.pR hz fun g f hg hb hl=>(W.jR Z Z (Ef.storeAll hs h1 (by simp[ev,look]) (he g) hb (h2.trans h1.symm) hv fun c e hc=>?_)))
 exact hk g c hg e (hl.ja hc (fun q hq=>by cases hq;exact hg))
theorem G.ab {sz:Nat}{cs:Array Value}(ho:ops[i]? =some o)(hs':ops[j]? =some s)(h:abX n env o s=some (d,t,vs))(hz:Zr P t (.agg cs))(hs:Sz P t sz)(hv:∀v∈vs.toList,v.oneCell'=true)
  (hk:∀g w',w.heap.size<=g->ik w' g t vs->Le w w'->G P ops Q n plan ((d,.pointer (some ⟨g,0,none⟩))::env) w')(h1:vs.size=sz:=by exact Z)(h2:cs.size=sz:=by exact Z)(hq:(nS ops j||plan.any (nS ops))=false:=by kernel_rfl):G P ops Q n (i::j::plan) env w:=by
 obtain⟨T,p,af,T',p',af',y,rfl,rfl,hn,he⟩:=ab4 h
 refine G.ef ho Z Z Z hn (Ef.pR hz fun g f hg hb hl=>⟨fun _=>hl,?_⟩)
 refine G.jR hs' Z Z Z (Ef.storeAll hs h1 (by simp[ev,look]) (he g) hb (h2.trans h1.symm) hv fun c e hc=>⟨fun q=>absurd q (ne_true_of_eq_false hq),?_⟩)
 exact hk g c hg e (hl.ja hc (fun q hq=>by cases hq;exact hg))
theorem wN {l:List Value}(h:l.all Value.oneCell'=true):∀v∈l.toArray.toList,v.oneCell'=true:=by
 intro v hv
 exact List.all_eq_true.1 h v (by simpa using hv)
end
end Go.Sx
