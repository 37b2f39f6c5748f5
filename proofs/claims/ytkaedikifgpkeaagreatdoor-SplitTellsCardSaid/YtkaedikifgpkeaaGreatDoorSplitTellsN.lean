/- SplitTells: for every input the law answers true and leaves its arguments as they were. -/
import Derived.Test.YtkaedikifgpkeaaGreatDoorSplitTellsM
import Derived.RangeFuncNested
import Derived.RangeFuncBound
import Derived.RangeFuncCalls
import Derived.RangeFuncLeaves
import Derived.OrdersIn
set_option linter.unusedVariables false
set_option linter.unusedSimpArgs false
namespace Go.Sx
open Go Go.RowKit
section
variable {P:Program}{ops:Array Oper}{Q:Exit->Act->World->Prop}{n l m:Nat}
abbrev rF (l:Nat):Fence:=Fence.wide.inRound l
theorem Ue {row:String}{args:Array Value}{w:World}{R:Value->World->Prop}(h:Rows P row args w R):RowsIn (rF l) m P row args w R:=fun c cs _=>by
  obtain⟨v,w',r,s⟩:=h c cs
  exact⟨v,w',r,stepsIn_wide.2 s⟩
theorem Oper.VP {o:Oper}{a:Act}{w:World}{K:Act->World->Prop}(hnd:∀c,o.op≠ .defer c)(h:o.wp P a w K Q):o.wpIn (rF l) m P a w K Q:=by
  refine⟨fun _ _=>trivial,?_⟩
  rw[Fence.inRound_round,Oper.semAt_some l _ _ hnd]
  unfold Oper.wp at h
  generalize (execOp a.eval o).run P w=r at*
  cases r with
  |ok x w'=>
    cases x<;>simp only[Oper.upon,Oper.uponIn]at h ⊢ <;>
      first
        |exact h
        |exact⟨fun h=>(by cases h),CallsIn.inRound l (callsIn_wide.2 h)⟩
        |exact⟨fun h=>(by cases h),Ue h⟩
  |halt x w'=>cases x<;>simp only[Oper.upon,Oper.uponIn]at h ⊢ <;>exact h
def DT (o:Oper):Bool:=match o.op with | .defer _=>false|_=>true
theorem Ex {o:Oper}(h:DT o=true):∀c,o.op≠ .defer c:=fun c hc=>by unfold DT at h;rw[hc]at h;cases h
theorem yF (hlo:¬LetsOut Q):∀(rest:List Oper) (a:Act) (w:World),rest.all DT=true->wpList P ops Q rest a w->wpListIn (rF l) m P ops Q rest a w
  |[],_,_,_,h=>h
  |o::rest,a,w,hnd,h=>by
    simp only[List.all_cons,Bool.and_eq_true]at hnd
    unfold wpList at h
    unfold wpListIn
    split
    · rename_i hw
      rw[if_pos hw]at h
      rcases h with h|⟨_,h⟩
      · exact Oper.VP (Ex hnd.1) (Oper.wp_mono (fun a' w' h'=>yF hlo rest a' w' hnd.2 h') h)
      · exact absurd h hlo
    · rename_i hw
      rw[if_neg hw]at h
      exact⟨fun _ _=>trivial,yF hlo rest _ _ hnd.2 h⟩
theorem Uf (hlo:¬LetsOut Q)(hnd:ops.toList.all DT=true){i:Nat}{K:Act->World->Prop}{a:Act}{w:World}(h:wpOp P ops Q i K a w):wpOpIn (rF l) m P ops Q i K a w:=by
  unfold wpOp at h
  unfold wpOpIn
  split
  · rename_i ho;simpa[ho]using h
  · rename_i o ho
    simp only[ho]at h
    have hno:DT o=true:=by
      rw[List.all_eq_true]at hnd
      exact hnd o (by rw[Array.mem_toList_iff];exact Array.mem_of_getElem? ho)
    split
    · rename_i hw
      rw[if_pos hw]at h
      rcases h with h|⟨_,h⟩
      · exact Oper.VP (Ex hno) h
      · exact absurd h hlo
    · rename_i hw
      rw[if_neg hw]at h
      exact⟨fun _ _=>trivial,h⟩
theorem IL (hlo:¬LetsOut Q)(hnd:ops.toList.all DT=true):∀(fuel:Nat) (listed:Array Bool) (a:Act) (w:World),wpAny P .any ops Q fuel listed a w->wpAnyIn (rF l) m P .any ops Q fuel listed a w
  |0,_,_,_,h=>h
  |fuel+1,_,_,_,h=>⟨h.1,fun i hi=>wpOpIn_mono (fun a' w' h'=>IL hlo hnd fuel _ a' w' h') (Uf hlo hnd (h.2 i hi))⟩
def RC (P:Program)(Q:Exit->Act->World->Prop)(n l m:Nat)(c:Code)(env:Env)(w:World):Prop:=∀a,mV a n env->c.wpIn (rF l) m P Q a w
theorem RC.seq {env:Env}{w:World}{x y:Code}(h:RC P (Exit.then (y.wpIn (rF l) m P Q) Q) n l m x env w):RC P Q n l m (.seq x y) env w:=fun a ha=>wpIn_seq (h a ha)
theorem RC.eY {env:Env}{w:World}{y:Code}{Q Q':Exit->Act->World->Prop}(h:RC P Q n l m y env w):E (Exit.then (y.wpIn (rF l) m P Q) Q') n .normal env w:=h
theorem RC.region {env:Env}{w:World}{id:Nat}{L:List Oper}(hnd:L.all DT=true)(hlo:¬LetsOut Q)(h:W P L.toArray Q n L env w):RC P Q n l m (.region id L.toArray false) env w:=fun a ha=>wpIn_region_lit (yF hlo L a w hnd (h a ha))
theorem RC.draw {env:Env}{w:World}{id:Nat}(plan:List Nat)(hm:P.follows .mixedOrders=true)(hp:yw ops plan=true)(hnd:ops.toList.all DT=true)
    (h:∀w',Le w w'->G P ops Q n plan env w'):RC P Q n l m (.region id ops true) env w:=fun a ha=>by
  simp only[yw,Bool.and_eq_true,beq_iff_eq]at hp
  obtain⟨⟨hl,hs⟩,hp⟩:=hp
  have:=uK hs plan _ a _ (Cl.none _) hp (h _ (Le.drew w) a ha)
  rw[hl]at this
  refine wpIn_mono (wpIn_region_any hm (IL (fun⟨_,_,hf⟩=>by cases hf.1) hnd _ _ _ _ (lU _ _ _ _ this))) ?_
  rintro e a w ⟨rfl,hq⟩
  exact hq
theorem RC.block {env:Env}{w:World}{id:Nat}{c:Code}(h:RC P (Exit.inBlock id Q) n l m c env w):RC P Q n l m (.block id c) env w:=fun a ha=>wpIn_block (h a ha)
theorem RC.skip {env:Env}{w:World}(h:E Q n .normal env w):RC P Q n l m .skip env w:=fun a ha=>wpIn_skip (h a ha)
theorem RC.oV {env:Env}{w:World}{c:Operand}{x y:Code}{b:Bool}(hc:ev env c=some (.bool b))(ht:b=true->RC P Q n l m x env w)(hf:b=false->RC P Q n l m y env w):
    RC P Q n l m (.cond c x y) env w:=fun a ha=>wpIn_cond_split (ha.eval hc) (fun h=>ht h a ha) (fun h=>hf h a ha)
theorem RC.cond {env:Env}{w:World}{c:Operand}{x y:Code}{p:Prop}[Decidable p](hc:ev env c=some (.bool (decide p)))(ht:p->RC P Q n l m x env w)(hf:¬p->RC P Q n l m y env w):
    RC P Q n l m (.cond c x y) env w:= .oV hc (fun h=>ht (of_decide_eq_true h)) (fun h=>hf (of_decide_eq_false h))
theorem Ku {f:FuncId}{fn:Func}{c:Code}{args:List Value}{w:World}{R:Ending->World->Prop}(hf:P.funcs[f]? =some fn)(hb:fn.body=some c)(hl:Nat.ble args.length fn.ntmps=true)
    (h:WC P (bodyPostM Fence.wide 3 P fn R) fn.ntmps c (oh 0 args) w):Calls P f args.toArray w R:=by
  have hl':args.length<=fn.ntmps:=Nat.le_of_ble_eq_true hl
  refine(callsIn_wide (n:=3)).1 (callsIn_of_wp_marks hf hb trivial (wpIn_wide.2 (h _ ⟨rfl,?_,fun i v hv=>?_⟩)))
  · simp;omega
  · obtain⟨_,b⟩:=qb args 0 i v hv
    simp only[Nat.sub_zero]at b
    rw[Array.getElem?_append_left (by simpa using(List.getElem?_eq_some_iff.1 b).1)]
    simpa using b
def DE (Q:Exit->Act->World->Prop)(n:Nat)(ds:List Deferred)(ex:Exit)(env:Env)(w:World):Prop:=∀a,mV a n env->Q ex {a with defers:=ds} w
def mk (D:Nat):List Deferred:=[{target:= .collected D,args:=#[]}]
theorem put_defers (a:Act)(ds:List Deferred)(d:Option Tmp)(v:Value):({a with defers:=ds}:Act).put d v={a.put d v with defers:=ds}:=by cases d<;>rfl
theorem uT {o:Oper}{a:Act}{w:World}{K:Value->World->Prop}{ds:List Deferred}(h:o.wp P a w (fun a' w'=>∃v,a'=a.put o.dst v/\K v w') SK):
    o.wp P {a with defers:=ds} w (fun a' w'=>∃v,a'={a.put o.dst v with defers:=ds}/\K v w') SK:=by
  unfold Oper.wp at*
  have e:(execOp ({a with defers:=ds}:Act).eval o).run P w=(execOp a.eval o).run P w:=rfl
  rw[e]
  have pd:∀(b:Act) (d:Option Tmp) (v:Value),(b.put d v).defers=b.defers:=fun b d v=>by cases d<;>rfl
  have inj:∀v v',a.put o.dst v=a.put o.dst v'->({a.put o.dst v with defers:=ds}:Act)={a.put o.dst v' with defers:=ds}:=fun v v' h=>by rw[h]
  generalize (execOp a.eval o).run P w=r at*
  cases r with
  |ok x w'=>
    cases x<;>simp only[Oper.upon]at h ⊢ <;>try exact h
    case value v=>obtain⟨v',i,j⟩:=h;exact⟨v',by rw[put_defers];exact inj _ _ i,j⟩
    case skip=>obtain⟨v',i,j⟩:=h;exact⟨v',by rw[put_defers];exact inj _ _ i,j⟩
    case defer d=>
      obtain⟨v,i,_⟩:=h
      have j:=congrArg (fun b:Act=>b.defers.length) i
      simp only[pd,List.length_cons]at j
      omega
    case enter f args=>
      refine Calls.mono h fun e w'' he=>?_
      cases e with
      |returned v=>obtain⟨v',i,j⟩:=he;exact⟨v',by rw[put_defers];exact inj _ _ i,j⟩
      |panicked c=>exact he.elim
      |outgrown=>obtain⟨_,_,hf⟩:=he;exact hf.elim
    case row row args=>
      refine Rows.mono h fun v w'' he=>?_
      obtain⟨v',i,j⟩:=he
      exact⟨v',by rw[put_defers];exact inj _ _ i,j⟩
  |halt x w'=>cases x<;>simp only[Oper.upon]at h ⊢ <;>exact h.elim
theorem DE.gI {ds:List Deferred}{env:Env}{w:World}{id:Nat}(h:DE Q n ds .normal env w):DE (Exit.inBlock id Q) n ds .normal env w:=h
def GD (P:Program)(ops:Array Oper)(Q:Exit->Act->World->Prop)(n:Nat)(ds:List Deferred)(plan:List Nat)(env:Env)(w:World):Prop:=∀a,mV a n env->R4 P ops Q plan {a with defers:=ds} w
theorem GD.nil {ds:List Deferred}{env:Env}{w:World}(h:DE Q n ds .normal env w):GD P ops Q n ds [] env w:=h
theorem GD.any {ds:List Deferred}{env:Env}{w:World}{i:Nat}{o:Oper}{plan:List Nat}{v:Value}{d:Nat}(ho:ops[i]? =some o)(hk:kd o.op=0)(hr:Any P env n o v)(hg:o.guard=none)(hd:o.dst=some d)
    (hn:Nat.blt d n=true)(h:GD P ops Q n ds plan ((d,v)::env) w):GD P ops Q n ds (i::plan) env w:=fun a ha=>
  ⟨o,ho,by
    rw[if_neg (by rw[hk];decide)]
    refine⟨v,.inl ⟨by unfold Region.wanted;rw[hg],fun w' _=>hr a ha w'⟩,?_⟩
    rw[put_defers,hd]
    exact h _ (ha.put hn v)⟩
theorem GD.rd {ds:List Deferred}{env:Env}{w:World}{i:Nat}{o:Oper}{plan:List Nat}{v:Value}{d:Nat}(ho:ops[i]? =some o)(hk:kd o.op=1)(hr:Rd P w env n o v)(hg:o.guard=none)(hd:o.dst=some d)
    (hn:Nat.blt d n=true)(h:GD P ops Q n ds plan ((d,v)::env) w):GD P ops Q n ds (i::plan) env w:=fun a ha=>
  ⟨o,ho,by
    rw[if_neg (by rw[hk];decide)]
    refine⟨v,.inl ⟨by unfold Region.wanted;rw[hg],fun w' hw=>hr a ha w' (hw hk)⟩,?_⟩
    rw[put_defers,hd]
    exact h _ (ha.put hn v)⟩
theorem GD.ef {ds:List Deferred}{env:Env}{w:World}{i:Nat}{o:Oper}{plan:List Nat}{d:Nat}(ho:ops[i]? =some o)(hk:kd o.op=2)(hg:o.guard=none)(hd:o.dst=some d)(hn:Nat.blt d n=true)
    (h:Ef P env n o w fun v w'=>((nS ops i||plan.any (nS ops))=true->Le w w')/\GD P ops Q n ds plan ((d,v)::env) w'):GD P ops Q n ds (i::plan) env w:=fun a ha=>
  ⟨o,ho,by
    rw[if_pos hk]
    unfold wpOp
    simp only[ho]
    rw[if_pos (by unfold Region.wanted;rw[hg])]
    left
    exact Oper.wp_mono (fun a' w' ⟨v,b,c,e⟩=>⟨c,by subst b;rw[hd];exact e _ (ha.put hn v)⟩) (uT (h a ha))⟩
def DC (P:Program)(Q:Exit->Act->World->Prop)(n:Nat)(ds:List Deferred)(c:Code)(env:Env)(w:World):Prop:=∀a,mV a n env->c.wp P Q {a with defers:=ds} w
theorem DC.draw {ds:List Deferred}{env:Env}{w:World}{id:Nat}(plan:List Nat)(hm:P.follows .mixedOrders=true)(hp:yw ops plan=true)
    (h:∀w',Le w w'->GD P ops Q n ds plan env w'):DC P Q n ds (.region id ops true) env w:=fun a ha=>LC plan hm hp (h _ (Le.drew w) a ha)
theorem DC.seq {ds:List Deferred}{env:Env}{w:World}{x y:Code}(h:DC P (Exit.then (y.wp P Q) Q) n ds x env w):DC P Q n ds (.seq x y) env w:=fun a ha=>wp_seq (h a ha)
theorem DE.eY {ds:List Deferred}{env:Env}{w:World}{y:Code}{Q Q':Exit->Act->World->Prop}(h:DC P Q n ds y env w):DE (Exit.then (y.wp P Q) Q') n ds .normal env w:=h
theorem DC.ret {ds:List Deferred}{env:Env}{w:World}(h:DE Q n ds .ret env w):DC P Q n ds .ret env w:=fun a ha=>wp_ret (h a ha)
theorem KeepsFrom.of_le {B:Nat}{w w':World}(h:Le w w'):KeepsFrom B w w':=⟨h.size,fun k o _ hk _=>by
  have hlt:=(Array.getElem?_eq_some_iff.1 hk).1
  exact(h.ch none).block k hlt (by simp)|>.trans hk⟩
theorem KeepsFrom.Ey {B g:Nat}{t:TypeId}{cs:Array Value}{w w':World}(h:Ch w w' (some g))(hB:fA w g t cs):KeepsFrom B w w':=⟨h.size,fun k o _ hk ho=>by
  have hlt:=(Array.getElem?_eq_some_iff.1 hk).1
  refine(h.block k hlt ?_).trans hk
  intro he
  injection he with he
  subst he
  have:w.heap[k]? =_:=hB
  rw[this]at hk
  injection hk with hk
  subst hk
  cases ho⟩
theorem QN {w:World}{row:Option Nat}(hr:∀r,row=some r->∃o:Obj,w.heap[r]? =some o/\o.isCells=false){g:Nat}{t:TypeId}{cs:Array Value}(hB:fA w g t cs):row≠some g:=fun he=>by
  obtain⟨o,ho,hc⟩:=hr g he
  have:w.heap[g]? =_:=hB
  rw[this]at ho
  injection ho with ho
  subst ho
  cases hc
theorem fA.grown {w w':World}{row:Option Nat}{g:Nat}{t:TypeId}{cs:Array Value}(h:fA w g t cs)(hg:w.grownBy w' row)(hr:∀r,row=some r->∃o:Obj,w.heap[r]? =some o/\o.isCells=false):fA w' g t cs:=h.ch hg (QN hr h)
theorem Own.grown {w w':World}{row:Option Nat}{base e s:Nat}{A:Option Addr}{k c:Nat}{xs:List Value}(h:Own w base e s A k c xs)(hk:0<k)(hg:w.grownBy w' row)(hr:∀r,row=some r->∃o:Obj,w.heap[r]? =some o/\o.isCells=false):Own w' base e s A k c xs:=
  h.ch hg fun g hgr he=>by
    obtain⟨g',rfl,_,_,hrow⟩:=h.lit hk
    obtain⟨cur,hB,_⟩:=h.block hk
    rw[hrow]at he
    injection he with he
    subst he
    exact QN hr hB hgr
def WI (P:Program)(ops:Array Oper)(Q:Exit->Act->World->Prop)(n:Nat)(rest:List Oper)(env:Env)(w:World):Prop:=∀a,mV a n env->wpListIn Fence.wide 2 P ops Q rest a w
theorem WC.Ug {env:Env}{w:World}{id:Nat}{L:List Oper}(h:WI P L.toArray Q n L env w):WC P Q n (.region id L.toArray false) env w:=fun a ha=>wpIn_wide.1 (wpIn_region_lit (h a ha))
theorem WI.nil {env:Env}{w:World}(h:E Q n .normal env w):WI P ops Q n [] env w:=fun a ha=>h a ha
theorem WI.rd {env:Env}{w:World}{o:Oper}{rest:List Oper}{v:Value}{d:Nat}(hr:Rd P w env n o v)(hg:o.guard=none)(hd:o.dst=some d)(hn:Nat.blt d n=true)(_hnd:DT o=true)
    (h:WI P ops Q n rest ((d,v)::env) w):WI P ops Q n (o::rest) env w:=fun a ha=>
  wpListIn_plain hg fun K hK=>by
    refine⟨fun _ _=>trivial,?_⟩
    show o.uponIn Fence.wide 2 P a K Q ((o.semAt none a.eval).run P w)
    rw[Oper.semAt_none,hr a ha w (Le.refl w),Oper.uponIn_value,hd]
    exact hK _ _ (h _ (ha.put hn v))
theorem WI.any {env:Env}{w:World}{o:Oper}{rest:List Oper}{v:Value}{d:Nat}(hr:Any P env n o v)(hg:o.guard=none)(hd:o.dst=some d)(hn:Nat.blt d n=true)(hnd:DT o=true)
    (h:WI P ops Q n rest ((d,v)::env) w):WI P ops Q n (o::rest) env w:=WI.rd (hr.rd w) hg hd hn hnd h
theorem WI.yield {env:Env}{w:World}{rest:List Oper}{d l:Nat}{f:Operand}{args:Array Operand}{ats:Array TypeId}{T:TypeId}{p:String}{af:Array Edge}{vs:List Value}{R:Ending->World->Prop}
    (hf:ev env f=some (.func (.yield l) #[] #[]))(ha:evs env args.toList=some vs)(hn:Nat.blt d n=true)(hy:YieldAt Fence.wide 1 P l vs.toArray w R)
    (h:∀e w',R e w'->∃v,e= .returned v/\WI P ops Q n rest ((d,v)::env) w'):WI P ops Q n (⟨some d,.call ⟨.value f,args,ats⟩,T,p,af,none⟩::rest) env w:=fun a hr=>
  wpListIn_plain rfl fun K hK=>by
    refine⟨fun _ _=>trivial,?_⟩
    obtain⟨fn,tmps,assign,body,hrun,hR⟩:=hy
    have hargs:args.map a.eval=vs.toArray:=by rw[<-hr.Hg ha];apply Array.ext';simp
    have e:((⟨some d,.call ⟨.value f,args,ats⟩,T,p,af,none⟩:Oper).semAt none a.eval).run P w= .ok (.round l fn tmps assign body) w:=by
      rw[Oper.semAt_none]
      simp[execOp,resolve,Deferred.ofValue,hr.eval hf,invoke,hargs,hrun]
    show Oper.uponIn Fence.wide 2 P _ a K Q _
    rw[show(Fence.wide).round=none from rfl,e,Oper.uponIn_round]
    refine⟨fun h=>(by cases h),hR.mono fun e w' he=>?_⟩
    obtain⟨v,rfl,hw⟩:=h e w' he
    exact hK _ _ (hw _ (hr.put hn v))
theorem WC.range {α:Type}{env:Env}{w:World}{g p1 p2:Nat}{assign body:Code}{gf:Nat}{lb:Array Value}(hg:look env g=some (.func (.func gf) #[] lb))(eg:fK P gf)(h1:Nat.blt p1 n=true)(h2:Nat.blt p2 n=true)
    {e1 e2:α->Value}{Kp:World->World->Prop}{N:Nat}{S:List α->Prop}(hseq:SeqStopsK Fence.wide 2 P gf lb (fun x=>#[e1 x,e2 x]) Kp S (fun _=>True) N w)
    (hKt:∀{A B C:World},Kp A B->Kp B C->Kp A C)(hKb:∀(W:World) (l:Nat) (o o':Obj),w.heap.size<=l->W.heap[l]? =some o->o.isCells=false->o.isWalk=false->Kp W (W.putObj l o'))
    (I:List α->World->Prop)(hI:OwnFrom w.heap.size I)(h0:I [] w)(Kv:α->Nat->Env)(Bx:α->Nat->World->Prop)(hBx:∀x b,OwnFrom w.heap.size (fun(_:Unit) W=>Bx x b W))
    (hassign:∀(l:Nat) (pre:List α) (x:α) (W:World),I pre W->RC P (Exit.then (fun a' W'=>∃b,mV a' n (Kv x b)/\Bx x b W'/\KeepsFrom w.heap.size W W'/\Kp W W'/\I pre W') (fun _ _ _=>False)) n l 1 assign ((p2,e2 x)::(p1,e1 x)::env) W)
    (hbody:∀(l:Nat) (pre:List α) (x:α) (b:Nat) (W:World),I pre W->Bx x b W->pre.length<N->RC P (ownPostG w.heap.size Kp I (fun _ _ _=>False) (pre++[x]) W) n l 1 body (Kv x b) W)
    (hdone:∀(D:Nat) (xs:List α) (W:World),w.heap.size<=D->S xs->I xs W->W.heap[D]? =some (.deferred (some []))->DE Q n (mk D) .normal env W):
    WC P Q n (.rangeFunc (.tmp g) #[p1,p2] assign body) env w:=fun a ha=>by
  refine(wpIn_wide (n:=3)).1 (wpIn_rangeFunc_ownH rfl (by decide) (ha.eval (x:= .tmp g) hg) trivial eg.run hseq hKt hKb (Below.refl _ _) (fun _=>rfl) I (fun _ _ _=>False) hI (fun _ _ _ _ _ hs _ _=>hs) h0
    (fun x a' W=>∃b,mV a' n (Kv x b)/\Bx x b W) ?_ ?_ ?_ ?_ ?_)
  · rintro x a' ⟨⟩ W W' row ⟨b,hr,hb⟩ hg' hrow
    exact⟨b,hr,hBx x b () W W' row hb hg' hrow⟩
  · intro l pre x W K hi hK
    have hR:mV {tmps:=((#[p1,p2]:Array Tmp).zip #[e1 x,e2 x]).foldl (fun t (p,v)=>t.setIfInBounds p v) a.tmps,defers:=[]} n ((p2,e2 x)::(p1,e1 x)::env):=by
      have:=((show mV {a with defers:=[]} n env from⟨rfl,ha.2.1,ha.2.2⟩).put h1 (e1 x)).put h2 (e2 x)
      have hz:((#[p1,p2]:Array Tmp).zip #[e1 x,e2 x])=#[(p1,e1 x),(p2,e2 x)]:=by apply Array.ext';simp
      rw[hz]
      simpa[Act.put]using this
    refine wpIn_mono (hassign l pre x W hi _ hR) fun e a' W' h=>?_
    cases e with
    |normal=>obtain⟨b,hr,hb,hk,hp,hi'⟩:=h;exact hK a' W' hk hp hi' ⟨b,hr,hb⟩
    |exit id=>exact h.elim
    |goto l=>exact h.elim
    |ret=>exact h.elim
    |panic c=>exact h.elim
    |outgrown=>exact h.elim
  · rintro l pre x a' W _ _ hi ⟨b,hr,hb⟩ hlt
    exact hbody l pre x b W hi hb hlt a' hr
  · intro D xs W hD hS hi hdef
    have:=hdone D xs W hD hS hi hdef a ha
    rw[ha.1]
    exact this
  · intro D c pre W _ _ h _
    exact h.elim
end
end Go.Sx

namespace Go.Sx
open Go Go.RowKit
section
variable {P:Program}{ops:Array Oper}{Q:Exit->Act->World->Prop}{n l m:Nat}
def DW (P:Program)(ops:Array Oper)(Q:Exit->Act->World->Prop)(n:Nat)(ds:List Deferred)(rest:List Oper)(env:Env)(w:World):Prop:=∀a,mV a n env->wpList P ops Q rest {a with defers:=ds} w
variable {ds:List Deferred}
theorem DW.nil {env:Env}{w:World}(h:DE Q n ds .normal env w):DW P ops Q n ds [] env w:=fun a ha=>h a ha
theorem DW.rd {env:Env}{w:World}{o:Oper}{rest:List Oper}{v:Value}{d:Nat}(hr:Rd P w env n o v)(hg:o.guard=none)(hd:o.dst=some d)(hn:Nat.blt d n=true)
    (h:DW P ops Q n ds rest ((d,v)::env) w):DW P ops Q n ds (o::rest) env w:=fun a ha=>
  wpList_plain hg fun K hK=>by
    unfold Oper.wp
    rw[show(execOp ({a with defers:=ds}:Act).eval o).run P w=_ from hr a ha w (Le.refl w),Oper.upon_value,put_defers,hd]
    exact hK _ _ (h _ (ha.put hn v))
theorem DW.any {env:Env}{w:World}{o:Oper}{rest:List Oper}{v:Value}{d:Nat}(hr:Any P env n o v)(hg:o.guard=none)(hd:o.dst=some d)(hn:Nat.blt d n=true)
    (h:DW P ops Q n ds rest ((d,v)::env) w):DW P ops Q n ds (o::rest) env w:=DW.rd (hr.rd w) hg hd hn h
theorem DW.ef {env:Env}{w:World}{o:Oper}{rest:List Oper}{d:Nat}(hg:o.guard=none)(hd:o.dst=some d)(hn:Nat.blt d n=true)
    (h:Ef P env n o w fun v w'=>DW P ops Q n ds rest ((d,v)::env) w'):DW P ops Q n ds (o::rest) env w:=fun a ha=>
  wpList_plain hg fun K hK=>Oper.tV (Oper.wp_mono (fun a' w' ⟨v,b,c⟩=>hK _ _ (by subst b;rw[hd];exact c _ (ha.put hn v))) (uT (h a ha)))
theorem DW.iO {env:Env}{w:World}{o:Oper}{rest:List Oper}(hg:o.guard=none)(hd:o.dst=none)
    (h:Ef P env n o w fun _ w'=>DW P ops Q n ds rest env w'):DW P ops Q n ds (o::rest) env w:=fun a ha=>
  wpList_plain hg fun K hK=>Oper.tV (Oper.wp_mono (fun a' w' ⟨v,b,c⟩=>hK _ _ (by subst b;rw[hd];exact c _ ha)) (uT (h a ha)))
theorem DW.yg {env:Env}{w:World}{o:Oper}{rest:List Oper}{v:Value}{d j dj:Nat}{b want:Bool}(hr:Rd P w env n o v)(hg:o.guard=some (j,want))(hj:(ops[j]?).bind (·.dst)=some dj)
    (hv:look env dj=some (.bool b))(hb:b=want)(hd:o.dst=some d)(hn:Nat.blt d n=true)
    (h:DW P ops Q n ds rest ((d,v)::env) w):DW P ops Q n ds (o::rest) env w:=fun a ha=>by
  refine wpList_step fun K hK=>?_
  rw[show Region.wanted o (yielded ops ({a with defers:=ds}:Act).tmps)=_ from jw ha hg hj hv,hb]
  simp only[beq_self_eq_true,if_true]
  unfold Oper.wp
  rw[show(execOp ({a with defers:=ds}:Act).eval o).run P w=_ from hr a ha w (Le.refl w),Oper.upon_value,put_defers,hd]
  exact hK _ _ (h _ (ha.put hn v))
theorem DW.skip {env:Env}{w:World}{o:Oper}{rest:List Oper}{d j dj:Nat}{b want:Bool}(hg:o.guard=some (j,want))(hj:(ops[j]?).bind (·.dst)=some dj)
    (hv:look env dj=some (.bool b))(hb:b= !want)(hd:o.dst=some d)(hn:Nat.blt d n=true)
    (h:DW P ops Q n ds rest ((d,undef)::env) w):DW P ops Q n ds (o::rest) env w:=fun a ha=>by
  refine wpList_step fun K hK=>?_
  rw[show Region.wanted o (yielded ops ({a with defers:=ds}:Act).tmps)=_ from jw ha hg hj hv,hb,hd]
  have:((!want)==want)=false:=by cases want<;>rfl
  simp only[this,Bool.false_eq_true,if_false,put_defers]
  exact hK _ _ (h _ (ha.put hn undef))
theorem GD.iO {env:Env}{w:World}{i:Nat}{o:Oper}{plan:List Nat}(ho:ops[i]? =some o)(hk:kd o.op=2)(hg:o.guard=none)(hd:o.dst=none)
    (h:Ef P env n o w fun _ w'=>((nS ops i||plan.any (nS ops))=true->Le w w')/\GD P ops Q n ds plan env w'):GD P ops Q n ds (i::plan) env w:=fun a ha=>
  ⟨o,ho,by
    rw[if_pos hk]
    unfold wpOp
    simp only[ho]
    rw[if_pos (by unfold Region.wanted;rw[hg])]
    left
    exact Oper.wp_mono (fun a' w' ⟨v,b,c,d⟩=>⟨c,by subst b;rw[hd];exact d _ ha⟩) (uT (h a ha))⟩
theorem DC.region {env:Env}{w:World}{id:Nat}{L:List Oper}(h:DW P L.toArray Q n ds L env w):DC P Q n ds (.region id L.toArray false) env w:=fun a ha=>wp_region_lit (h a ha)
theorem DC.skip {env:Env}{w:World}(h:DE Q n ds .normal env w):DC P Q n ds .skip env w:=fun a ha=>wp_skip (h a ha)
theorem DC.HZ {env:Env}{w:World}{c:Operand}{x y:Code}{b:Bool}(hc:ev env c=some (.bool b))(hb:b=true)(ht:DC P Q n ds x env w):DC P Q n ds (.cond c x y) env w:=fun a ha=>wp_cond_true (by rw[<-hb];exact ha.eval hc) (ht a ha)
theorem DC.H5 {env:Env}{w:World}{c:Operand}{x y:Code}{b:Bool}(hc:ev env c=some (.bool b))(hb:b=false)(ht:DC P Q n ds y env w):DC P Q n ds (.cond c x y) env w:=fun a ha=>wp_cond_false (by rw[<-hb];exact ha.eval hc) (ht a ha)
theorem DC.gL {env:Env}{w:World}{c:Operand}{x y:Code}(hc:ev env c=some (.bool true))(ht:DC P Q n ds x env w):DC P Q n ds (.cond c x y) env w:=fun a ha=>wp_cond_true (ha.eval hc) (ht a ha)
theorem DC.iD {env:Env}{w:World}{c:Operand}{x y:Code}(hc:ev env c=some (.bool false))(ht:DC P Q n ds y env w):DC P Q n ds (.cond c x y) env w:=fun a ha=>wp_cond_false (ha.eval hc) (ht a ha)
theorem DE.eX {env:Env}{w:World}{K:Act->World->Prop}(h:DE Q n ds .ret env w):DE (Exit.then K Q) n ds .ret env w:=h
theorem DE.gT {env:Env}{w:World}{id:Nat}(h:DE Q n ds .ret env w):DE (Exit.inBlock id Q) n ds .ret env w:=h
theorem RC.exit {env:Env}{w:World}{id:Nat}(h:E Q n (.exit id) env w):RC P Q n l m (.exit id) env w:=fun a ha=>wpIn_exit (h a ha)
theorem RC.ret {env:Env}{w:World}(h:E Q n .ret env w):RC P Q n l m .ret env w:=fun a ha=>wpIn_ret (h a ha)
theorem RC.gL {env:Env}{w:World}{c:Operand}{x y:Code}(hc:ev env c=some (.bool true))(ht:RC P Q n l m x env w):RC P Q n l m (.cond c x y) env w:= .oV hc (fun _=>ht) (fun h=>by cases h)
theorem RC.iD {env:Env}{w:World}{c:Operand}{x y:Code}(hc:ev env c=some (.bool false))(ht:RC P Q n l m y env w):RC P Q n l m (.cond c x y) env w:= .oV hc (fun h=>by cases h) (fun _=>ht)
theorem RC.HZ {env:Env}{w:World}{c:Operand}{x y:Code}{b:Bool}(hc:ev env c=some (.bool b))(hb:b=true)(ht:RC P Q n l m x env w):RC P Q n l m (.cond c x y) env w:= .gL (by rw[hc,hb]) ht
theorem RC.H5 {env:Env}{w:World}{c:Operand}{x y:Code}{b:Bool}(hc:ev env c=some (.bool b))(hb:b=false)(ht:RC P Q n l m y env w):RC P Q n l m (.cond c x y) env w:= .iD (by rw[hc,hb]) ht
theorem eU.grown {α:Type}{w w':World}{row:Option Nat}{base e s:Nat}{f:α->List Value}{A:Option Addr}{k c:Nat}{xs:List α}(h:eU w base e f s A k c xs)(hg:w.grownBy w' row)(hr:∀r,row=some r->∃o:Obj,w.heap[r]? =some o/\o.isCells=false):eU w' base e f s A k c xs:=by
  refine⟨h.1,?_⟩
  rcases h.2.2 with⟨rfl,rfl⟩|⟨g,cur,rfl,hb,hh,hnc,hcm,hcs,htake⟩
  · exact⟨h.2.1,.inl ⟨rfl,rfl⟩⟩
  · exact⟨h.2.1,.inr ⟨g,cur,rfl,hb,(fA.grown (w:=w) (w':=w') (cs:=cur) (t:=e) hh hg hr),hnc,hcm,hcs,htake⟩⟩
theorem KeepsFrom.W9 {α:Type}{B:Nat}{w w':World}{base e s:Nat}{f:α->List Value}{A:Option Addr}{k c:Nat}{xs:List α}(h:Ch w w' (rowOf A c))(hO:eU w base e f s A k c xs):KeepsFrom B w w':=by
  rcases hO.2.2 with⟨rfl,rfl⟩|⟨g,cur,rfl,hb,hh,hnc,hcm,hcs,htake⟩
  · rw[iL]at h;exact KeepsFrom.of_le h.le_none
  · by_cases hc:c=0
    · subst hc;rw[iL]at h;exact KeepsFrom.of_le h.le_none
    · rw[show rowOf (some ⟨g,0,none⟩) c=some g from qc g 0 c (by omega)]at h
      exact KeepsFrom.Ey (t:=e) (cs:=cur) h hh
def DU (w:World)(D:Nat):Prop:=w.heap[D]? =some (.deferred (some []))
theorem DU.le {w w':World}{D:Nat}(h:DU w D)(hl:Le w w'):DU w' D:=hl.block h
theorem DU.ch {w w':World}{D:Nat}{r:Option Nat}(h:DU w D)(hc:Ch w w' r)(hne:r≠some D):DU w' D:=
  (hc.block D (Array.getElem?_eq_some_iff.1 h).1 (Ne.symm hne)).trans h
theorem DU.lt {w:World}{D:Nat}(h:DU w D):D<w.heap.size:=(Array.getElem?_eq_some_iff.1 h).1
theorem fA.QO {w:World}{g t D:Nat}{cs:Array Value}(hB:fA w g t cs)(hD:DU w D):some g≠some D:=fun he=>by
  injection he with he
  subst he
  have c:w.heap[g]? =_:=hB
  have b:w.heap[g]? =_:=hD
  rw[c]at b
  cases b
theorem eU.QO {α:Type}{w:World}{base e s D:Nat}{f:α->List Value}{A:Option Addr}{k c:Nat}{xs:List α}(hO:eU w base e f s A k c xs)(hD:DU w D):rowOf A c≠some D:=fun he=>by
  rcases hO.2.2 with⟨rfl,rfl⟩|⟨g,cur,rfl,hb,hh,hnc,hcm,hcs,htake⟩
  · rw[iL]at he;cases he
  · have d:=mg he
    subst d
    have b:w.heap[D]? =_:=hD
    rw[hh]at b
    cases b
theorem DU.put {w:World}{D:Nat}(h:DU w D):w.grownBy (w.putObj D (.deferred none)) (some D)/\∀r,some D=some r->∃o:Obj,w.heap[r]? =some o/\o.isCells=false:=
  ⟨grownBy_putObj' w D _,fun r e=>by cases e;exact⟨_,h,rfl⟩⟩
theorem E.Mx {fn:Func}{R:Ending->World->Prop}{env:Env}{w:World}{r1:ResultVar}{v1:Value}(hr:fn.results=#[r1])(h1:mr P w env r1 v1)(h:R (.returned v1) w):E (bodyPostM Fence.wide 3 P fn R) n .ret env w:=fun a ha=>by
  show LeavesInM Fence.wide 3 P fn a.tmps R a.defers .returning w
  rw[ha.1]
  exact⟨v1,by rw[ku,hr];simp[h1.run ha],h⟩
theorem E.QP {fn:Func}{R:Ending->World->Prop}{env:Env}{w:World}{r1 r2:ResultVar}{v1 v2:Value}(hr:fn.results=#[r1,r2])(h1:mr P w env r1 v1)(h2:mr P w env r2 v2)(h:R (.returned (.tuple #[v1,v2])) w):E (bodyPostM Fence.wide 3 P fn R) n .ret env w:=fun a ha=>by
  show LeavesInM Fence.wide 3 P fn a.tmps R a.defers .returning w
  rw[ha.1]
  exact⟨.tuple #[v1,v2],by rw[ku,hr];simp[h1.run ha,h2.run ha],h⟩
theorem E.VQ {fn:Func}{R:Ending->World->Prop}{env:Env}{w:World}{r1 r2 r3:ResultVar}{v1 v2 v3:Value}(hr:fn.results=#[r1,r2,r3])(h1:mr P w env r1 v1)(h2:mr P w env r2 v2)(h3:mr P w env r3 v3)(h:R (.returned (.tuple #[v1,v2,v3])) w):E (bodyPostM Fence.wide 3 P fn R) n .ret env w:=fun a ha=>by
  show LeavesInM Fence.wide 3 P fn a.tmps R a.defers .returning w
  rw[ha.1]
  exact⟨.tuple #[v1,v2,v3],by rw[ku,hr];simp[h1.run ha,h2.run ha,h3.run ha],h⟩
theorem DE.Mx {fn:Func}{R:Ending->World->Prop}{env:Env}{w:World}{D:Nat}{r1:ResultVar}{v1:Value}(hr:fn.results=#[r1])(hD:DU w D)(h1:mr P (w.putObj D (.deferred none)) env r1 v1)(h:R (.returned v1) (w.putObj D (.deferred none))):DE (bodyPostM Fence.wide 3 P fn R) n (mk D) .ret env w:=fun _ ha=>
  ⟨by simp,.inl ⟨D,_,rfl,run_takeDeferred hD,⟨v1,by rw[ku,hr];simp[h1.run ha],h⟩⟩⟩
theorem DE.QP {fn:Func}{R:Ending->World->Prop}{env:Env}{w:World}{D:Nat}{r1 r2:ResultVar}{v1 v2:Value}(hr:fn.results=#[r1,r2])(hD:DU w D)(h1:mr P (w.putObj D (.deferred none)) env r1 v1)(h2:mr P (w.putObj D (.deferred none)) env r2 v2)(h:R (.returned (.tuple #[v1,v2])) (w.putObj D (.deferred none))):DE (bodyPostM Fence.wide 3 P fn R) n (mk D) .ret env w:=fun _ ha=>
  ⟨by simp,.inl ⟨D,_,rfl,run_takeDeferred hD,⟨.tuple #[v1,v2],by rw[ku,hr];simp[h1.run ha,h2.run ha],h⟩⟩⟩
theorem DE.VQ {fn:Func}{R:Ending->World->Prop}{env:Env}{w:World}{D:Nat}{r1 r2 r3:ResultVar}{v1 v2 v3:Value}(hr:fn.results=#[r1,r2,r3])(hD:DU w D)(h1:mr P (w.putObj D (.deferred none)) env r1 v1)(h2:mr P (w.putObj D (.deferred none)) env r2 v2)(h3:mr P (w.putObj D (.deferred none)) env r3 v3)
    (h:R (.returned (.tuple #[v1,v2,v3])) (w.putObj D (.deferred none))):DE (bodyPostM Fence.wide 3 P fn R) n (mk D) .ret env w:=fun _ ha=>
  ⟨by simp,.inl ⟨D,_,rfl,run_takeDeferred hD,⟨.tuple #[v1,v2,v3],by rw[ku,hr];simp[h1.run ha,h2.run ha,h3.run ha],h⟩⟩⟩
theorem WC.Kw {α:Type}{env:Env}{w:World}{g p1 p2:Nat}{assign body:Code}{gf:Nat}{lb:Array Value}(hg:look env g=some (.func (.func gf) #[] lb))(eg:fK P gf)(h1:Nat.blt p1 n=true)(h2:Nat.blt p2 n=true)
    {e1 e2:α->Value}{Kp:World->World->Prop}{N:Nat}{S Sp:List α->Prop}(hseq:SeqStopsK Fence.wide 2 P gf lb (fun x=>#[e1 x,e2 x]) Kp S Sp N w)
    (hKr:∀A:World,Kp A A)(hKt:∀{A B C:World},Kp A B->Kp B C->Kp A C)(hKb:∀(W:World) (l:Nat) (o o':Obj),w.heap.size<=l->W.heap[l]? =some o->o.isCells=false->o.isWalk=false->Kp W (W.putObj l o'))
    (I Jx:List α->World->Prop)(hI:OwnFrom w.heap.size I)(hJx:OwnFrom w.heap.size Jx)(h0:I [] w)(Kv:α->Env)
    (hassign:∀(l:Nat) (x:α) (W:World),RC P (Exit.then (fun a' W'=>mV a' n (Kv x)/\W'=W) (fun _ _ _=>False)) n l 1 assign ((p2,e2 x)::(p1,e1 x)::env) W)
    (hbody:∀(l:Nat) (pre:List α) (x:α) (W:World),I pre W->pre.length<N->RC P (ownPostG w.heap.size Kp I (fun c pre W=>c= .ret/\Jx pre W) (pre++[x]) W) n l 1 body (Kv x) W)
    (hdone:∀(D:Nat) (xs:List α) (W:World),w.heap.size<=D->S xs->I xs W->DU W D->DE Q n (mk D) .normal env W)
    (hstop:∀(D:Nat) (xs:List α) (W:World),w.heap.size<=D->Sp xs->Jx xs W->DU W D->DE Q n (mk D) .ret env W):
    WC P Q n (.rangeFunc (.tmp g) #[p1,p2] assign body) env w:=fun a ha=>by
  refine(wpIn_wide (n:=3)).1 (wpIn_rangeFunc_ownH rfl (by decide) (ha.eval (x:= .tmp g) hg) trivial eg.run hseq hKt hKb (Below.refl _ _) (fun _=>rfl) I (fun c pre W=>c= .ret/\Jx pre W) hI (fun c s W W' row hs hg' hr=>⟨hs.1,hJx s W W' row hs.2 hg' hr⟩) h0
    (fun x a' W=>mV a' n (Kv x)) ?_ ?_ ?_ ?_ ?_)
  · rintro x a' ⟨⟩ W W' row hr hg' hrow
    exact hr
  · intro l pre x W K hi hK
    have hR:mV {tmps:=((#[p1,p2]:Array Tmp).zip #[e1 x,e2 x]).foldl (fun t (p,v)=>t.setIfInBounds p v) a.tmps,defers:=[]} n ((p2,e2 x)::(p1,e1 x)::env):=by
      have:=((show mV {a with defers:=[]} n env from⟨rfl,ha.2.1,ha.2.2⟩).put h1 (e1 x)).put h2 (e2 x)
      have hz:((#[p1,p2]:Array Tmp).zip #[e1 x,e2 x])=#[(p1,e1 x),(p2,e2 x)]:=by apply Array.ext';simp
      rw[hz]
      simpa[Act.put]using this
    refine wpIn_mono (hassign l x W _ hR) fun e a' W' h=>?_
    cases e with
    |normal=>
      obtain⟨hr,rfl⟩:=h
      exact hK a' _ (KeepsFrom.refl _ _) (hKr _) hi hr
    |exit id=>exact h.elim
    |goto l=>exact h.elim
    |ret=>exact h.elim
    |panic c=>exact h.elim
    |outgrown=>exact h.elim
  · rintro l pre x a' W _ _ hi hr hlt
    exact hbody l pre x W hi hlt a' hr
  · intro D xs W hD hS hi hdef
    have:=hdone D xs W hD hS hi hdef a ha
    rw[ha.1]
    exact this
  · rintro D c pre W hD hS ⟨rfl,hj⟩ hdef
    have:=hstop D pre W hD hS hj hdef a ha
    rw[ha.1]
    exact wpIn_ret this
end
end Go.Sx

namespace Go.Proofs.YtkaedikifgpkeaaGreatDoor
open Tryz
open Go Go.Sx Go.oF
set_option maxRecDepth 20000
def nJ (n j:Nat)(h:j<=n):List (Fin n):=(List.range j).attach.map fun i=>⟨n-1-i.1,by have:=List.mem_range.1 i.2;omega⟩
theorem jq (n j:Nat)(h:j<=n):(nJ n j h).length=j:=by simp[nJ]
theorem AQ {n j:Nat}(h:j<=n){i:Nat}(hi:i<j):(nJ n j h)[i]'(by rw[jq];exact hi)=⟨n-1-i,by omega⟩:=by simp[nJ]
theorem uU (n j:Nat)(h:j+1<=n):nJ n (j+1) h=nJ n j (by omega)++[⟨n-1-j,by omega⟩]:=by
  apply List.ext_getElem (by rw[List.length_append,jq,jq];rfl)
  intro i b c
  rw[jq]at b
  rw[AQ h (by omega)]
  by_cases hij:i<j
  · rw[List.getElem_append_left (by rw[jq];exact hij),AQ _ hij]
  · have:i=j:=by omega
    subst this
    rw[List.getElem_append_right (by rw[jq];exact Nat.le_refl _)]
    simp[jq]
theorem IM {n j:Nat}{h:j<=n}{x:Fin n}:x∈nJ n j h↔n-j<=x.1:=by
  constructor
  · intro hx
    obtain⟨i,hi,rfl⟩:=List.getElem_of_mem hx
    rw[jq]at hi
    rw[AQ h hi]
    simp only
    omega
  · intro hx
    have b:=x.2
    refine List.mem_iff_getElem.2 ⟨n-1-x.1,by rw[jq];omega,?_⟩
    rw[AQ h (by omega)]
    apply Fin.ext
    simp only
    omega
def Gy (gb t:Nat)(A:Option Addr)(n c:Nat)(xs:List Nat)(W W':World):Prop:=(fA W gb t #[.slice A n c]->fA W' gb t #[.slice A n c])/\(Vec W dv 1 A n xs->Vec W' dv 1 A n xs)
theorem Gy.refl (gb t:Nat)(A:Option Addr)(n c:Nat)(xs:List Nat)(W:World):Gy gb t A n c xs W W:=⟨id,id⟩
theorem Gy.trans {gb t:Nat}{A:Option Addr}{n c:Nat}{xs:List Nat}{X Y Z:World}(h:Gy gb t A n c xs X Y)(k:Gy gb t A n c xs Y Z):Gy gb t A n c xs X Z:=⟨fun q=>k.1 (h.1 q),fun q=>k.2 (h.2 q)⟩
theorem Vec.grown {α:Type}{w w':World}{row:Option Nat}{s n:Nat}{f:α->List Value}{A:Option Addr}{xs:List α}(h:Vec w f s A n xs)(hg:w.grownBy w' row)(hr:∀r,row=some r->∃o:Obj,w.heap[r]? =some o/\o.isCells=false):Vec w' f s A n xs:=by
  refine⟨h.1,h.2.1,fun j u hu=>?_⟩
  obtain⟨ad,c,b⟩:=h.2.2 j u hu
  refine⟨ad,c,?_⟩
  have hb:=block_lt_of_cell b
  unfold World.cell? at b ⊢
  rw[hg.block _ hb (fun he=>?_)]
  · exact b
  · obtain⟨o,ho,hc⟩:=hr _ he.symm
    rw[ho]at b
    cases o<;>simp_all [Obj.isCells]
theorem Gy.put {gb t:Nat}{A:Option Addr}{n c:Nat}{xs:List Nat}{W:World}{q:Nat}{o o':Obj}(_h:True)(h1:W.heap[q]? =some o)(h2:o.isCells=false):Gy gb t A n c xs W (W.putObj q o'):=by
  have hr:∀r,some q=some r->∃o:Obj,W.heap[r]? =some o/\o.isCells=false:=fun r e=>by cases e;exact⟨o,h1,h2⟩
  exact⟨fun h=>h.grown (grownBy_putObj' W q o') hr,fun h=>Vec.grown h (grownBy_putObj' W q o') hr⟩
theorem Cg {A:Option Addr}{n c:Nat}(w:World):Calls prog 119 #[.slice A n c] w fun e w'=>∃g,e= .returned (.func (.func 176) #[] #[.pointer (some ⟨g,0,none⟩)])/\w.heap.size<=g/\fA w' g 35 #[.slice A n c]/\Le w w':=by
 refine enter func119 rfl rfl ?_
 have b:=Le.refl w
 refine Sr (W.ef rfl rfl rfl (Ef.box rfl fun d k f h i=>?_))
 have j:=b.trans i
 refine Wn 1 rfl (Nx (Sr (Wa (.makeFunc rfl) rfl (Wn 1 rfl (Nx (Rt (E.jQ rfl rfl ?_)))))))
 exact⟨d,rfl,f,h,j⟩
theorem QQ {n gb c lp:Nat}{A:Option Addr}{xs:List Nat}(hn:n<=1000000000)(J Jx:List (Fin n)->World->Prop)
  (hY:∀pre x W1,J pre W1->pre.length<n->YieldAt Fence.wide 1 prog lp #[.int .i64 ((x.val:Nat):Int),.int .u32 ((xs.getD x.val 0:Nat):Int)] W1 fun e W'=>(e= .returned (.bool true)/\J (pre++[x]) W'/\Gy gb 35 A n c xs W1 W')\/(e= .returned (.bool false)/\Jx (pre++[x]) W'))
  (w:World)(hB:fA w gb 35 #[.slice A n c])(hS:Vec w dv 1 A n xs)(h0:J [] w):Calls prog 176 #[.func (.yield lp) #[] #[],.pointer (some ⟨gb,0,none⟩)] w fun e W'=>(∃v,e= .returned v)/\((∃l,l=nJ n n (Nat.le_refl n)/\J l W')\/(∃pre,(∃k,∃hk:k<=n,pre=nJ n k hk)/\Jx pre W')):=by
 refine enter func176 rfl rfl (Sr (Wr (.fe jl rfl hB rfl) rfl (Wr (.len underlying35 rfl) rfl (Wa (.sub rfl rfl (by omega)) rfl (Wn 1 rfl (Nx (WC.block ?_)))))))
 refine WC.loop (ι:=Nat) (fun k=>[(0,.func (.yield lp) #[] #[]),(1,.pointer (some ⟨gb,0,none⟩)),(3,.int .i64 ((n:Int)-1-(k:Int)))]) (fun k wl=>∃hk:k<=n,J (nJ n k hk) wl/\Gy gb 35 A n c xs w wl) (fun k=>n-k) 0 ?_ ?_ ?_
 ·exact .cons rfl (.cons rfl (.cons' rfl (int_eq (by omega)) (.nil _)))
 ·exact⟨Nat.zero_le _,h0,Gy.refl _ _ _ _ _ _ _⟩
 rintro k wl ⟨hk,hJ,hkp⟩
 have hB:=hkp.1 hB
 have hS:=hkp.2 hS
 refine Sq (Sr (Wn 2 rfl (Nx (WC.cond rfl (fun d=>?_) (fun d=>?_)))))
 ·have b:k+1<=n:=by omega
  have hi:(n:Int)-1-(k:Int)=((n-1-k:Nat):Int):=by omega
  have hl:=hS.1
  refine Sn (Sq (WC.block (Sq (WC.Ug (WI.any (.move rfl) rfl rfl rfl rfl (WI.any (.move rfl) rfl rfl rfl rfl (WI.rd (.fe jl rfl hB rfl) rfl rfl rfl rfl (WI.any (.move rfl) rfl rfl rfl rfl ?_))))))))
  refine WI.any (.fV (n-1-k) underlying35 fP rfl rfl (hS.isSome fF (by omega)) hi (by omega)) rfl rfl rfl rfl (WI.rd (.jB (v:= .int .u32 ((xs.getD (n-1-k) 0:Nat):Int)) gP rfl hS fF (gD xs 0 (by omega)) rfl) rfl rfl rfl rfl (WI.yield rfl rfl rfl (by rw[hi];exact hY (nJ n k hk) ⟨n-1-k,by omega⟩ _ hJ (by rw[jq];omega)) ?_))
  rintro _ f (⟨rfl,hJ',hk'⟩|⟨rfl,abt⟩)
  ·refine⟨_,rfl,?_⟩
   refine WI.any (.not rfl) rfl rfl rfl rfl (WI.nil (E.eY (WC.iD rfl (WC.skip (E.gI (E.eY (WC.region (Wn 1 rfl (Wa (.sub rfl rfl (by omega)) rfl (Wn 1 rfl (W.nil (E.again (k+1) (.cons rfl (.cons rfl (.cons' rfl (int_eq (by omega)) (.nil _)))) ?_ ?_))))))))))))
   ·exact⟨b,by rw[uU];exact hJ',hkp.trans hk'⟩
   first|omega|(simp only[];omega)
  refine⟨_,rfl,?_⟩
  refine WI.any (.not rfl) rfl rfl rfl rfl (WI.nil (E.eY (WC.gL rfl (Rt (E.gT (E.eX (E.eX (E.gT (E.nO rfl ?_)))))))))
  exact⟨⟨_,rfl⟩,.inr ⟨_,⟨k+1,b,(uU n k b).symm⟩,abt⟩⟩
 have hkn:n=k:=by omega
 subst hkn
 refine WC.exit (E.fC (E.fC (E.gW (E.end_ (E.nO rfl ?_)))))
 exact⟨⟨_,rfl⟩,.inl ⟨_,rfl,hJ⟩⟩
theorem yG {n gb c:Nat}{A:Option Addr}{xs:List Nat}(hn:n<=1000000000)(w:World)(hB:fA w gb 35 #[.slice A n c])(hS:Vec w dv 1 A n xs):
    SeqStopsK (α:=Fin n) Fence.wide 2 prog 176 #[.pointer (some ⟨gb,0,none⟩)] (fun x=>#[.int .i64 ((x.val:Nat):Int),.int .u32 ((xs.getD x.val 0:Nat):Int)]) (Gy gb 35 A n c xs) (fun l=>l=nJ n n (Nat.le_refl n)) (fun pre=>∃k,∃hk:k<=n,pre=nJ n k hk) n w:=
  fun lp J Jx W hW _ _ hY b=>callsIn_wide.2 (QQ hn J Jx hY W (hB.le hW) (hS.le hW) b)
end Go.Proofs.YtkaedikifgpkeaaGreatDoor

namespace Go.Proofs.YtkaedikifgpkeaaGreatDoor
open Tryz
open Go Go.Sx Go.oF
set_option maxRecDepth 20000
def F4 (a b:Int):Int:=if a<b then-1 else if b<a then 1 else 0
theorem uV {a b:Nat}(h:a<b):lH a b= -1:=by unfold lH;rw[if_pos h]
theorem uW {a b:Nat}(h:b<a):lH a b=1:=by unfold lH;rw[if_neg (by omega),if_pos h]
theorem Ez (a:Nat):lH a a=0:=by unfold lH;rw[if_neg (by omega),if_neg (by omega)]
theorem Uh {a b:Nat}(h:(eP a).length≠(eP b).length):F4 ((eP a).length:Int) ((eP b).length:Int)=lH a b:=by
  unfold F4
  rcases Nat.lt_or_gt_of_ne h with c|c
  · rw[if_pos (by omega),uV (qF c)]
  · rw[if_neg (by omega),if_pos (by omega),uW (qF c)]
theorem yH {l m:List Nat}{i:Nat}(hl:l.length=m.length)(h:∀j,i<=j->j<l.length->l.getD j 0=m.getD j 0):l.drop i=m.drop i:=by
  apply List.ext_getElem (by simp[hl])
  intro k b c
  simp only[List.length_drop]at b c
  have:=h (i+k) (by omega) (by omega)
  simp only[List.getElem_drop]
  simpa[List.getD,show i+k<l.length by omega,show i+k<m.length by omega]using this
theorem NU {a b:Nat}(hl:(eP a).length=(eP b).length){i:Nat}(hi:i<(eP a).length)(h:∀j,i<j->j<(eP a).length->(eP a).getD j 0=(eP b).getD j 0)(hne:(eP a).getD i 0≠(eP b).getD i 0):lH ((eP a).getD i 0) ((eP b).getD i 0)=lH a b:=by
  have hd:=yH (i:=i+1) hl (fun j c d=>h j (by omega) d)
  rcases Nat.lt_or_gt_of_ne hne with c|c
  · have:=G7 (l8 a) hl hi hd c
    rw[iV,iV]at this
    rw[uV c,uV this]
  · have:=G7 (l8 b) hl.symm (by omega) hd.symm c
    rw[iV,iV]at this
    rw[uW c,uW this]
theorem Ui {a b:Nat}(hl:(eP a).length=(eP b).length)(h:∀j,j<(eP a).length->(eP a).getD j 0=(eP b).getD j 0):lH a b=0:=by
  have e:eP a=eP b:=yH (i:=0) hl (fun j _ c=>h j c)
  have:a=b:=by rw[<-iV a,<-iV b,e]
  rw[this,Ez]
theorem Ky (a:Nat)(h:a<4294967296):Value.int .u32 ((a:Nat):Int)=iw (BitVec.ofNat 32 a):=by
  unfold iw
  rw[BitVec.toNat_ofNat,Nat.mod_eq_of_lt (by omega)]
theorem Ci (a:Nat)(w:World):Calls prog 177 #[.int .u32 ((a:Nat):Int)] w fun r w'=>r= .returned (.bool false)/\Le w w':=by
 refine enter func177 rfl rfl (WC.sr (W.run 1 rfl (W.nx (WC.sr (W.run 4 rfl (W.nx (WC.ret (E.fu rfl rfl ?_))))))))
 exact⟨by simp,(Le.refl w)⟩

theorem F5 (a b:Nat)(w:World):Calls prog 120 #[.int .u32 ((a:Nat):Int),.int .u32 ((b:Nat):Int)] w fun r w'=>r= .returned (.int .i64 (lH a b))/\Le w w':=by
 refine enter func120 rfl rfl (Sr (Wn 1 rfl (Nx (Sr (Wn 1 rfl (W.cl VD rfl rfl (Ci a w) ?_))))))
 rintro _ f ⟨rfl,h⟩
 refine Wn 1 rfl (Nx (Sr (Wn 1 rfl (W.cl VD rfl rfl (Ci b f) ?_))))
 rintro _ j ⟨rfl,i⟩
 have c:=((Le.refl w).trans h).trans i
 refine Wn 1 rfl (Nx (Sq (Sr (Wn 1 rfl (Nx (WC.iD rfl (Sn (Sq (Sr (Wn 1 rfl (Nx (WC.iD rfl (Sn (Sq (Sr (Wn 3 rfl (Nx ?_)))))))))))))))))
 by_cases d:((a:Nat):Int)<((b:Nat):Int)
 ·refine Cy rfl (dT d) (Sr (Wn 1 rfl (Nx (Rt (E.eX (E.fu rfl rfl ?_))))))
  exact⟨by unfold lH;first|(rw[if_pos (by omega)])|(rw[if_neg (by omega),if_pos (by omega)])|(rw[if_neg (by omega),if_neg (by omega)]),c⟩
 refine Cn rfl (dF d) (Sn (Sq (Sr (Wn 3 rfl (Nx ?_)))))
 by_cases e:((b:Nat):Int)<((a:Nat):Int)
 ·refine Cy rfl (dT e) (Sr (Wn 1 rfl (Nx (Rt (E.eX (E.fu rfl rfl ?_))))))
  exact⟨by unfold lH;first|(rw[if_pos (by omega)])|(rw[if_neg (by omega),if_pos (by omega)])|(rw[if_neg (by omega),if_neg (by omega)]),c⟩
 refine Cn rfl (dF e) (Sn (Sr (Wn 1 rfl (Nx (Rt (E.fu rfl rfl ?_))))))
 exact⟨by unfold lH;first|(rw[if_pos (by omega)])|(rw[if_neg (by omega),if_pos (by omega)])|(rw[if_neg (by omega),if_neg (by omega)]),c⟩

theorem EA (a:Int)(w:World):Calls prog 175 #[.int .i64 (a)] w fun r w'=>r= .returned (.bool false)/\Le w w':=by
 refine enter func175 rfl rfl (WC.sr (W.run 1 rfl (W.nx (WC.sr (W.run 4 rfl (W.nx (WC.ret (E.fu rfl rfl ?_))))))))
 exact⟨by simp,(Le.refl w)⟩

theorem ui (a b:Int)(w:World):Calls prog 118 #[.int .i64 a,.int .i64 (b)] w fun r w'=>r= .returned (.int .i64 (F4 a b))/\Le w w':=by
 refine enter func118 rfl rfl (Sr (Wn 1 rfl (Nx (Sr (Wn 1 rfl (W.cl Md rfl rfl (EA a w) ?_))))))
 rintro _ f ⟨rfl,h⟩
 refine Wn 1 rfl (Nx (Sr (Wn 1 rfl (W.cl Md rfl rfl (EA b f) ?_))))
 rintro _ j ⟨rfl,i⟩
 have c:=((Le.refl w).trans h).trans i
 refine Wn 1 rfl (Nx (Sq (Sr (Wn 1 rfl (Nx (WC.iD rfl (Sn (Sq (Sr (Wn 1 rfl (Nx (WC.iD rfl (Sn (Sq (Sr (Wn 3 rfl (Nx ?_)))))))))))))))))
 by_cases d:a<b
 ·refine Cy rfl (dT d) (Sr (Wn 1 rfl (Nx (Rt (E.eX (E.fu rfl rfl ?_))))))
  exact⟨by unfold F4;first|(rw[if_pos (by omega)])|(rw[if_neg (by omega),if_pos (by omega)])|(rw[if_neg (by omega),if_neg (by omega)]),c⟩
 refine Cn rfl (dF d) (Sn (Sq (Sr (Wn 3 rfl (Nx ?_)))))
 by_cases e:b<a
 ·refine Cy rfl (dT e) (Sr (Wn 1 rfl (Nx (Rt (E.eX (E.fu rfl rfl ?_))))))
  exact⟨by unfold F4;first|(rw[if_pos (by omega)])|(rw[if_neg (by omega),if_pos (by omega)])|(rw[if_neg (by omega),if_neg (by omega)]),c⟩
 refine Cn rfl (dF e) (Sn (Sr (Wn 1 rfl (Nx (Rt (E.fu rfl rfl ?_))))))
 exact⟨by unfold F4;first|(rw[if_pos (by omega)])|(rw[if_neg (by omega),if_pos (by omega)])|(rw[if_neg (by omega),if_neg (by omega)]),c⟩

theorem QS (x y b:BitVec 32)(w:World):Calls prog 210 #[iw x,iw y,iw b] w fun r w'=>r= .returned (.tuple #[iw (x-y-b),iw (((~~~x&&&y)|||(~~~(x^^^y)&&&(x-y-b)))>>>31)])/\Le w w':=by
 refine enter func210 rfl rfl (Sr (Wn 2 rfl (Nx (Sr (Wn 2 rfl (Wa (.U1 rfl rfl) rfl (Wn 1 rfl (Wa (.U1 rfl rfl) rfl (Wn 1 rfl (Nx (Sr (Wn 1 rfl ?_))))))))))))
 refine Wa (.Pt rfl) rfl (Wn 1 rfl (Wa (.vL rfl rfl) rfl (Wn 2 rfl (Wa (.mq rfl rfl) rfl (Wa (.Pt rfl) rfl ?_)))))
 refine Wn 1 rfl (Wa (.vL rfl rfl) rfl (Wa (.BD rfl rfl) rfl (Wa (.xc 31 rfl rfl rfl (by decide)) rfl (Wn 1 rfl (Nx (Rt (E.jb rfl rfl rfl ?_)))))))
 exact⟨rfl,(Le.refl w)⟩

theorem QT (a c d:Nat)(ha:a<4294967296)(hc:c<4294967296)(hd:d<=1)(w:World):Calls prog 210 #[.int .u32 ((a:Nat):Int),.int .u32 ((c:Nat):Int),.int .u32 ((d:Nat):Int)] w fun r w'=>r= .returned (.tuple #[.int .u32 (((a+(B-c)+(B-d))%B:Nat):Int),.int .u32 ((if a<c+d then 1 else 0:Nat):Int)])/\Le w w':=by
  have h:=QS (BitVec.ofNat 32 a) (BitVec.ofNat 32 c) (BitVec.ofNat 32 d) w
  rw[<-Ky a ha,<-Ky c hc,<-Ky d (by omega)]at h
  have i:(BitVec.ofNat 32 a).toNat=a:=by rw[BitVec.toNat_ofNat,Nat.mod_eq_of_lt (by omega)]
  have j:(BitVec.ofNat 32 c).toNat=c:=by rw[BitVec.toNat_ofNat,Nat.mod_eq_of_lt (by omega)]
  have b:(BitVec.ofNat 32 d).toNat=d:=by rw[BitVec.toNat_ofNat,Nat.mod_eq_of_lt (by omega)]
  have e:=Br (BitVec.ofNat 32 a) (BitVec.ofNat 32 c) (BitVec.ofNat 32 d)
  have f:=Fa (BitVec.ofNat 32 a) (BitVec.ofNat 32 c) (BitVec.ofNat 32 d) (by rw[b];exact hd)
  rw[i,j,b]at e f
  unfold iw at h
  rw[e,f]at h
  exact h

theorem uX {A A2:Option Addr}{n c m c2 a b:Nat}(w:World)(hV:Vec w dv 1 A n (eP a))(hW:Vec w dv 1 A2 m (eP b))(hn:n<=1000000)(hm:m<=1000000):Calls prog 57 #[.slice A n c,.slice A2 m c2] w fun r w'=>r= .returned (.int .i64 (lH a b))/\Le w w':=by
 have hl:=hV.1
 have aj:=hW.1
 have hB:B=4294967296:=rfl
 refine Ku func57 rfl rfl ?_
 have Y:=Le.refl w
 refine Sr (W.ef rfl rfl rfl (Ef.box rfl fun H ak al (L:fA ak H 35 #[.slice A2 m c2]) am=>?_))
 have I:=Y.trans am
 refine W.ef rfl rfl rfl (Ef.alloc z3 fun f an O (Z:fA an f 3 #[.int .i64 (0)]) aa=>(Nx (Sq (WC.draw [0,2,1,3,4,5] mixed (by kernel_rfl) fun w1 J=>?_))))
 have L3:=(I.trans aa).trans J
 refine Gn 1 rfl ?_
 have f4:=(L.le (aa.trans J))
 refine Gd rfl (.fe (v:= .slice A2 m c2) jl rfl f4 rfl) (G.ef rfl rfl rfl rfl rfl (Ef.call sV rfl rfl (kr w1 (hV.le L3) (by omega)) ?_))
 rintro _ ao ⟨rfl,u⟩
 refine⟨_,rfl,?_⟩
 refine⟨fun _=>u,?_⟩
 have L5:=L3.trans u
 refine G.ef rfl rfl rfl rfl rfl (Ef.call sV rfl rfl (kr ao (hW.le L5) (by omega)) ?_)
 rintro _ aB ⟨rfl,z⟩
 refine⟨_,rfl,?_⟩
 refine⟨fun _=>z,?_⟩
 refine Gn 1 rfl (G.iO rfl rfl rfl rfl (Ef.store FK rfl rfl (f4.le (u.trans z)) (by first|decide|(simp;done)) rfl ?_))
 intro P C Q
 refine noT (by kernel_rfl) ?_
 have C:fA P H 35 #[.slice A2 m c2]:=C
 have L8:=(L5.trans z).tb Q Y al
 refine G.nil (E.eY (Sq (Sr (Wn 1 rfl (Wr (.len underlying35 rfl) rfl (Wr (.fe (v:= .slice A2 m c2) jl rfl C rfl) rfl (Wr (.len underlying35 rfl) rfl (Wn 1 rfl (Nx ?_)))))))))
 by_cases c0:((n:Nat):Int)≠((m:Nat):Int)
 ·refine Cy rfl (dT c0) (Sr (Wn 1 rfl (Wr (.len underlying35 rfl) rfl (Wr (.fe (v:= .slice A2 m c2) jl rfl C rfl) rfl (Wr (.len underlying35 rfl) rfl (W.cl Ii rfl rfl (ui ((n:Nat):Int) ((m:Nat):Int) P) ?_))))))
  rintro _ aC ⟨rfl,ab⟩
  have ap:=(((Z.le (J.trans (u.trans z))).cn Q (by have:=L.lt;omega)).le ab)
  refine W.iO rfl rfl (Ef.store kR rfl rfl ap (by first|decide|(simp;done)) rfl ?_)
  intro aq R ar
  have R:fA aq f 3 #[.int .i64 (F4 ((n:Nat):Int) ((m:Nat):Int))]:=R
  refine Nx (Rt (E.eX (E.Mx rfl (Wl rfl R gM rfl) ?_)))
  exact⟨congrArg (fun v=>Ending.returned (Value.int .i64 v)) (by rw[<-hl,<-aj];exact Uh (by omega)),((L8.trans ab).tb ar I O)⟩
 refine Cn rfl (dF c0) ?_
 have hnm:n=m:=by omega
 refine Sn (Sq (Sr (Wn 1 rfl (W.cl Qa rfl rfl (Cg P) ?_))))
 rintro _ S ⟨au,rfl,aE,ac,T⟩
 have s:=L8.trans T
 refine Nx (WC.block ?_)
 have av:=(C.le T)
 have aw:=(((Z.le (J.trans (u.trans z))).cn Q (by have:=L.lt;omega)).le T)
 have hbq:=yG (c:=c) (xs:=(eP a)) (by omega) S ac (hV.le s)
 refine WC.Kw (α:=Fin n) (N:=n) rfl Qh rfl rfl hbq (fun A=>Gy.refl _ _ _ _ _ _ A) (fun h k=>h.trans k) (fun Wd q o o' hq h1 h2 _=>Gy.put trivial h1 h2) (fun(pre:List (Fin n)) Wd=>(∀y∈pre,(eP a).getD y.val 0=(eP b).getD y.val 0)/\Le w Wd/\S.heap.size<=Wd.heap.size/\fA Wd au 35 #[.slice A n c]/\fA Wd H 35 #[.slice A2 m c2]/\fA Wd f 3 #[.int .i64 (0)]) (fun(pre:List (Fin n)) Wd=>∃i x,(pre=i++[x])/\(∀y∈i,(eP a).getD y.val 0=(eP b).getD y.val 0)/\(((eP a).getD x.val 0)≠((eP b).getD x.val 0))/\Le w Wd/\S.heap.size<=Wd.heap.size/\fA Wd f 3 #[.int .i64 (lH ((eP a).getD x.val 0) ((eP b).getD x.val 0))]) (fun pre Wd W' row ⟨hpr,LI,zI,d,t,l⟩ hg hr=>⟨hpr,LI.gG hg (fun q e=>Nat.le_trans s.size (hr q e).1),Nat.le_trans zI hg.size,d.grown hg (fun r e=>(hr r e).2),t.grown hg (fun r e=>(hr r e).2),l.grown hg (fun r e=>(hr r e).2)⟩) (fun pre Wd W' row ⟨i,x,hpe,hpr,hne,LI,zI,d⟩ hg hr=>⟨i,x,hpe,hpr,hne,LI.gG hg (fun q e=>Nat.le_trans s.size (hr q e).1),Nat.le_trans zI hg.size,d.grown hg (fun r e=>(hr r e).2)⟩) ⟨fun y hy=>by simp at hy,s,Nat.le_refl _,ac,av,aw⟩ (fun x=>[(3,.pointer (some ⟨H,0,none⟩)),(4,.pointer (some ⟨f,0,none⟩)),(5,.int .i64 ((x.val:Nat):Int)),(6,.int .u32 (((eP a).getD x.val 0:Nat):Int))]) ?_ ?_ ?_ ?_
 ·intro lp x Wd
  refine RC.seq (RC.region rfl (fun⟨_,_,h⟩=>h) (Wn 1 rfl (W.nil (RC.eY (RC.region rfl (fun⟨_,_,h⟩=>h) (Wn 1 rfl (W.nil ?_)))))))
  exact fun a' ha'=>⟨ha'.sub (.of rfl),rfl⟩
 ·rintro lp pre x Wd ⟨hpr,LI,zI,d,t,l⟩ hpre
  have hx:=x.2
  refine RC.block (RC.seq (RC.region rfl (fun⟨_,_,h⟩=>h) (Wn 1 rfl (Wr (.fe (v:= .slice A2 m c2) jl rfl t rfl) rfl (Wn 1 rfl ?_)))))
  refine Wa (.fV x.val underlying35 fP rfl rfl (hW.isSome fF (by omega)) rfl (by omega)) rfl (Wr (.jB (v:= .int .u32 ((((eP b).getD x.val 0):Nat):Int)) gP rfl (hW.le LI) fF (gD (eP b) 0 (by first|omega|(simp only[List.length_cons,List.length_nil];omega))) rfl) rfl ?_)
  refine Wn 1 rfl (W.nil (RC.eY ?_))
  by_cases c1:((((eP a).getD x.val 0):Nat):Int)≠((((eP b).getD x.val 0):Nat):Int)
  ·refine RC.HZ rfl (dT c1) (RC.seq (RC.region rfl (fun⟨_,_,h⟩=>h) (Wn 1 rfl (Wr (.fe (v:= .slice A2 m c2) jl rfl t rfl) rfl (Wn 1 rfl ?_)))))
   refine Wa (.fV x.val underlying35 fP rfl rfl (hW.isSome fF (by omega)) rfl (by omega)) rfl (Wr (.jB (v:= .int .u32 ((((eP b).getD x.val 0):Nat):Int)) gP rfl (hW.le LI) fF (gD (eP b) 0 (by first|omega|(simp only[List.length_cons,List.length_nil];omega))) rfl) rfl ?_)
   refine W.cl YO rfl rfl (F5 ((eP a).getD x.val 0) ((eP b).getD x.val 0) Wd) ?_
   rintro _ aF ⟨rfl,K⟩
   have ad:=(l.le K)
   refine W.iO rfl rfl (Ef.store kR rfl rfl ad (by first|decide|(simp;done)) rfl ?_)
   intro ax U V
   have U:fA ax f 3 #[.int .i64 (lH ((eP a).getD x.val 0) ((eP b).getD x.val 0))]:=U
   refine W.nil (RC.eY (RC.ret (E.gT ?_)))
   exact fun a' _=>⟨((KeepsFrom.of_le K).trans (KeepsFrom.Ey V ad)),rfl,⟨pre,x,rfl,hpr,by omega,((LI.trans K).tb V I O),by have:=zI;have:=K.size;have:=V.size;omega,U⟩⟩
  refine RC.H5 rfl (dF c1) (RC.skip (E.gI ?_))
  exact fun a' _=>⟨(KeepsFrom.refl _ _),⟨fun _=>d,fun _=>(hV.le LI)⟩,⟨fun y hy=>by rcases List.mem_append.1 hy with h|h;exact hpr y h;rw[List.mem_singleton.1 h];omega,LI,by have:=zI;omega,d,t,l⟩⟩
 ·rintro D pre Wd hD hS ⟨hpr,LI,zI,d,t,l⟩ hdef
  subst hS
  have hall:∀j,j<(eP a).length->(eP a).getD j 0=(eP b).getD j 0:=fun j hj=>hpr ⟨j,by omega⟩ (IM.2 (by simp))
  refine DE.gI (DE.eY (DC.seq (DC.region (DW.iO rfl rfl (Ef.store kR rfl rfl l (by first|decide|(simp;done)) rfl ?_)))))
  intro ay X ae
  have X:fA ay f 3 #[.int .i64 (0)]:=X
  refine DW.nil (DE.eY (DC.ret ?_))
  have af:=(hdef.ch ae (l.QO hdef))
  obtain⟨QU,Xa⟩:=DU.put af
  have az:=(LI.tb ae I O).gG QU (fun q e=>by cases e;exact Nat.le_trans s.size hD)
  refine DE.Mx rfl af (Wl rfl (X.grown QU Xa) gM rfl) ?_
  exact⟨congrArg (fun v=>Ending.returned (Value.int .i64 v)) (Ui (by omega) hall).symm,az⟩
 rintro D xs Wd hD hS ⟨i,x,hpe,hpr,hne,LI,zI,d⟩ hdef
 obtain⟨k,hk,hS⟩:=hS
 have hxx:=x.2
 have hlk:i.length+1=k:=by have F:=congrArg List.length (hpe.symm.trans hS);rw[jq]at F;simpa using F
 have ah:k-1+1<=n:=by omega
 have hfs:=uU n (k-1) ah
 have ai:i=nJ n (k-1) (by omega)/\x=⟨n-1-(k-1),by omega⟩:=by have F:=hpe.symm.trans hS;rw[show nJ n k hk=nJ n (k-1+1) ah by congr 1;omega,hfs]at F;have h8:=List.append_inj' F rfl;exact⟨h8.1,by simpa using h8.2⟩
 have hxv:x.val=n-k:=by rw[ai.2];simp only;omega
 refine DE.gT (DE.eX ?_)
 obtain⟨QU,Xa⟩:=DU.put hdef
 have aA:=LI.gG QU (fun q e=>by cases e;exact Nat.le_trans s.size hD)
 refine DE.Mx rfl hdef (Wl rfl (d.grown QU Xa) gM rfl) ?_
 exact⟨congrArg (fun v=>Ending.returned (Value.int .i64 v)) (NU (by omega) (by omega) (fun j h1 h2=>hpr ⟨j,by omega⟩ (by rw[ai.1];exact IM.2 (by simp only;omega))) hne),aA⟩

theorem Xb {A:Option Addr}{n c a:Nat}(d:Nat)(w:World)(hV:Vec w dv 1 A n (eP a))(hd:d<4294967296)(hn:n<=100000):Calls prog 178 #[.slice A n c,.int .u32 ((d:Nat):Int)] w fun r w'=>∃A c,r= .returned (.slice A (eP (d+B*a)).length c)/\eU w' w.heap.size 143 dv 1 A (eP (d+B*a)).length c (eP (d+B*a))/\Le w w':=by
 have hl:=hV.1
 have hB:B=4294967296:=rfl
 refine enter func178 rfl rfl ?_
 have e:=Le.refl w
 refine Sr (Wn 1 rfl (Nx (Sr (Wn 1 rfl (Wr (.len underlying35 rfl) rfl (Wa (.add rfl rfl (by omega)) rfl (W.ef rfl rfl rfl (Ef.rA 0 (n+1) underlying35 jH fF rfl rfl (by omega) rfl (by omega) (by omega) (by unfold maxLen;omega) ?_))))))))
 intro D F H b l
 have f:=e.trans l
 refine Wn 1 rfl (Nx (Sr (Wn 1 rfl ?_)))
 have I:=b.cap
 have m:=b.vec.zt (n+1) 1 (by omega) (by omega) fF
 have J:=m.1
 refine Wa (.zt 1 underlying35 fP rfl rfl rfl (by omega) (by omega)) rfl (Wn 1 rfl (W.ef rfl rfl rfl (Ef.XR (j:=1) (k:=n) underlying35 fP underlying35 rfl b fF rfl (hV.le f) (by omega) (by omega) fun K s t=>?_)))
 have i:=s.cast (m':=(n+1)) (ys:=(0::eP a)) rfl (by rw[List.replicate_succ];simp;omega)
 refine Nx (Sr (Wn 2 rfl (Wa (.fV 0 underlying35 fP rfl rfl (b.vec.isSome fF (by omega)) rfl (by omega)) rfl (W.iO rfl rfl (Ef.vE (j:=0) (o:=0) d fP rfl (by omega) rfl i fF (gD (0::eP a) 0 (by simp)) (by decide) rfl rfl ?_)))))
 intro u v x
 have y:=v.cast (m':=(n+1)) (ys:=(d::eP a)) rfl rfl
 refine Nx (Sr (Wn 1 rfl (W.cl Ij rfl rfl (by have h:=yo u y (fun q hq=>by rcases List.mem_cons.1 hq with rfl|h;omega;exact l8 a q h) (by omega);rw[(by simp only[val,iV]:val (d::eP a)=d+B*a)]at h;exact h) ?_)))
 rintro _ L ⟨rfl,z,C⟩
 refine Wn 1 rfl (Nx (Rt (E.fu rfl rfl ?_)))
 exact⟨_,_,rfl,(z.mono e.size),(((f.gG t (fun q hq=>Nat.le_trans e.size (b.row hq).1)).gG x (fun q hq=>Nat.le_trans e.size (i.row hq).1)).trans C)⟩

theorem EB {A:Option Addr}{n c a:Nat}(w:World)(hV:Vec w dv 1 A n (eP a))(hn:n<=1000000):Calls prog 182 #[.slice A n c] w fun r w'=>∃A c,r= .returned (.slice A (eP a).length c)/\eU w' w.heap.size 143 dv 1 A (eP a).length c (eP a)/\Le w w':=by
 have hl:=hV.1
 refine enter func182 rfl rfl ?_
 have b:=Le.refl w
 refine Sr (Wn 1 rfl (Nx (Sq (Sr (Wn 1 rfl (Wa (.isNil underlying35 rfl) rfl (Nx ?_)))))))
 by_cases d:A.isNone=true
 ·refine Cy rfl d (Sr (Wn 1 rfl (Nx (Rt (E.eX (E.fu rfl rfl ?_))))))
  have hzn:n=0:=Classical.byContradiction (fun t=>by have e:=hV.isSome fF (by omega);have j:=(by simpa using(by assumption:A.isNone=true):A=none);rw[j]at e;cases e);have hzd:eP a=[]:=List.length_eq_zero_iff.1 (by omega);exact⟨none,0,by rw[hzd];rfl,by rw[hzd];exact eU.nil _ _ _ _ _ _,b⟩
 refine Cn rfl (Bool.eq_false_iff.2 d) (Sn (Sr (W.ef rfl rfl rfl (Ef.kU underlying35 jH fun k l u v f=>?_))))
 have h:=b.trans f
 have i:eU l w.heap.size 143 dv 1 (some ⟨k,0,none⟩) 0 0 []:=eU.nil _ _ _ _ _ _
 refine Wn 1 rfl (W.ef rfl rfl rfl (Ef.Nu underlying35 jH underlying35 fF rfl i rfl (hV.le h) (by omega) (by unfold maxLen;omega) (by have:=f.size;omega) ?_))
 intro x y z m o C
 have s:=h.gG o (fun q hq=>Nat.le_trans b.size (i.row hq).1)
 refine Wn 1 rfl (Nx (Rt (E.fu rfl rfl ?_)))
 have hz:(0+n)=(eP a).length:=(by omega);have hq:=(m.mono b.size);exact⟨_,_,by rw[hz],hq.cast hz (by simp),s⟩

theorem Uj {A A2:Option Addr}{n c m c2 a b:Nat}(w:World)(hV:Vec w dv 1 A n (eP a))(hW:Vec w dv 1 A2 m (eP b))(hle:b<=a)(hn:n<=1000000)(hm:m<=1000000):Calls prog 181 #[.slice A n c,.slice A2 m c2] w fun r w'=>∃A c,r= .returned (.tuple #[.slice A (eP (a-b)).length c,.bool true])/\eU w' w.heap.size 143 dv 1 A (eP (a-b)).length c (eP (a-b))/\Le w w':=by
 have hl:=hV.1
 have af:=hW.1
 have hB:B=4294967296:=rfl
 have hmn:m<=n:=Nat.le_of_not_lt fun h=>by have:=qF (a:=a) (b:=b) (by omega);omega
 refine enter func181 rfl rfl ?_
 have H:=Le.refl w
 refine Sr (Wn 2 rfl (Nx (Sr (Wn 1 rfl (W.cl sV rfl rfl (kr w (hV.le H) (by omega)) ?_)))))
 rintro _ T ⟨rfl,I⟩
 have J:=H.trans I
 refine Wn 1 rfl (W.cl sV rfl rfl (kr T (hW.le J) (by omega)) ?_)
 rintro _ U ⟨rfl,K⟩
 have u:=J.trans K
 refine Wn 2 rfl (Nx (Sq (Sr (Wn 2 rfl (W.cl NF rfl rfl (uX U (hV.le u) (hW.le u) (by omega) (by omega)) ?_)))))
 rintro _ k ⟨rfl,L⟩
 have x:=u.trans L
 refine Wa (.dec (.lss rfl rfl) (dF (by unfold lH;rw[if_neg (by omega)];split<;>omega))) rfl ?_
 refine Nx (WC.iD rfl (Sn (Sr (Wn 1 rfl (Wr (.len underlying35 rfl) rfl (W.ef rfl rfl rfl (Ef.rA 0 n underlying35 jH fF rfl rfl rfl rfl rfl (by omega) (by unfold maxLen;omega) ?_)))))))
 intro l V ah N z
 have X:=x.trans z
 refine Wn 1 rfl (Nx (Sr (Wn 1 rfl (Nx (Sq (Sr (Wn 1 rfl (Wr (.len underlying35 rfl) rfl (Wn 1 rfl (Nx (WC.block ?_)))))))))))
 refine WC.loop (ι:=Nat×Nat×(List Nat)) (fun⟨i,br,out⟩=>[(0,.slice A n c),(1,.slice A2 m c2),(6,.slice (some ⟨l,0,none⟩) n n),(7,.int .u32 ((br:Nat):Int)),(22,.int .i64 ((n:Nat):Int)),(23,.int .i64 ((i:Nat):Int))]) (fun⟨i,br,out⟩ e=>(i<=n)/\(br<=1)/\(out.length=n)/\(∀d∈out,d<B)/\(∀j,i<=j->out.getD j 0=0)/\(val out+val ((eP b).take i)=val ((eP a).take i)+B^i*br)/\Le w e/\V.heap.size<=e.heap.size/\eU e k.heap.size 143 dv 1 (some ⟨l,0,none⟩) n n out) (fun⟨i,br,out⟩=>n-i) (0,0,(List.replicate n 0)) ?_ ?_ ?_
 ·exact .of rfl
 ·exact⟨Nat.zero_le _,by decide,List.length_replicate,BU _,(fun j hj=>AO _ _),by rw[ow];simp[val],X,Nat.le_refl _,N⟩
 rintro⟨i,br,out⟩ e ⟨hi,hbr,hol,BA,WW,hov,s,Y,C⟩
 have Z:k.heap.size<=e.heap.size:=by have:=z.size;omega
 refine Sr (Wn 1 rfl (Nx (Sq ?_)))
 by_cases O:((i:Nat):Int)<((n:Nat):Int)
 ·refine Cy rfl (dT O) ?_
  have hx:=kW a i
  have hy:=kW b i
  refine Sn (Sq (WC.block (Sr (Wn 2 rfl (Nx (Sr (Wn 1 rfl (Nx (WC.cut (ι:=Nat) (fun y=>[(0,.slice A n c),(1,.slice A2 m c2),(6,.slice (some ⟨l,0,none⟩) n n),(7,.int .u32 ((br:Nat):Int)),(8,.int .i64 ((i:Nat):Int)),(9,.int .u32 ((y:Nat):Int)),(22,.int .i64 ((n:Nat):Int)),(23,.int .i64 ((i:Nat):Int))]) (fun y f=>(y=((eP b).getD i 0))/\Le w f/\e.heap.size<=f.heap.size/\eU f k.heap.size 143 dv 1 (some ⟨l,0,none⟩) n n out) ?_ ?_)))))))))
  ·refine Sr (Wn 2 rfl (Wr (.len underlying35 rfl) rfl (Wn 1 rfl (Nx ?_))))
   by_cases c2:((i:Nat):Int)<((m:Nat):Int)
   ·refine Cy rfl (dT c2) (WC.region (Wn 2 rfl (Wa (.fV i underlying35 fP rfl rfl (hW.isSome fF (by omega)) rfl (by omega)) rfl (Wr (.jB (v:= .int .u32 ((((eP b).getD i 0):Nat):Int)) gP rfl (hW.le s) fF (gD (eP b) 0 (by first|omega|(simp only[List.length_cons,List.length_nil];omega))) rfl) rfl ?_))))
    refine Wn 1 rfl (W.nil (E.meet ((eP b).getD i 0) (.of rfl) ?_))
    exact⟨rfl,s,Nat.le_refl _,C⟩
   refine Cn rfl (dF c2) (WC.skip (E.meet 0 (.of rfl) ?_))
   exact⟨(getD_none (by omega)).symm,s,Nat.le_refl _,C⟩
  rintro y f ⟨hyv,P,Q,aa⟩
  have ai:k.heap.size<=f.heap.size:=by have:=Z;have:=Q;omega
  have hstep:=Pf (out:=out) (a:=[]) (b:=[]) (y:=y) (i:=i) (by omega) (WW i (Nat.le_refl _)) hov hx (by omega) hbr
  rw[hyv,<-oz (show i<(eP a).length by omega),show val ((eP b).take i)+B^i*((eP b).getD i 0)=val ((eP b).take (i+1))from by rcases Nat.lt_or_ge i (eP b).length with t|t;exact(oz t).symm;rw[getD_none t,Nat.mul_zero,Nat.add_zero,List.take_of_length_le t,List.take_of_length_le (by omega)]]at hstep
  rw[<-hyv]at hstep
  refine WC.region (Wn 4 rfl (Wa (.fV i underlying35 fP rfl rfl (hV.isSome fF (by omega)) rfl (by omega)) rfl (Wr (.jB (v:= .int .u32 ((((eP a).getD i 0):Nat):Int)) gP rfl (hV.le P) fF (gD (eP a) 0 (by first|omega|(simp only[List.length_cons,List.length_nil];omega))) rfl) rfl ?_)))
  refine Wn 2 rfl (W.cl Zo rfl rfl (QT ((eP a).getD i 0) y br (by omega) (by omega) (by omega) f) ?_)
  rintro _ aj ⟨rfl,D⟩
  refine Wn 3 rfl (Wa (.fV i underlying35 fP rfl rfl (N.vec.isSome fF (by omega)) rfl (by omega)) rfl ?_)
  have R:=(aa.le D)
  refine W.iO rfl rfl (Ef.vE (j:=i) (o:=0) ((((eP a).getD i 0)+(B-y)+(B-br))%B) fP rfl (by omega) rfl R fF (gD out 0 (by omega)) (by decide) rfl rfl fun ak ab S=>(Wn 1 rfl (W.nil (E.gI (E.eY (WC.region (Wa (.add rfl rfl (by omega)) rfl (Wn 1 rfl (W.nil (E.again (i+1,(if((eP a).getD i 0)<y+br then 1 else 0),(out.set i ((((eP a).getD i 0)+(B-y)+(B-br))%B))) (.of rfl) ?_ ?_))))))))))
  ·exact⟨by omega,by split<;>decide,by simp[hol],vY BA (Nat.mod_lt _ (by decide)),(fun j hj=>by rw[List.getD_eq_getElem?_getD,List.getElem?_set_ne (by omega),<-List.getD_eq_getElem?_getD];exact WW j (by omega)),hstep,((P.trans D).gG S (fun q hq=>Nat.le_trans x.size (R.row hq).1)),by have:=Y;have:=D.size;have:=S.size;have:=Q;have:=I.size;have:=K.size;have:=L.size;have:=z.size;omega,ab⟩
  first|omega|(simp only[];omega)
 refine Cn rfl (dF O) ?_
 have F:=hov
 rw[show i=n by omega,List.take_of_length_le (by omega),List.take_of_length_le (by omega),iV,iV]at F
 have hvl:=rW BA
 have ac:br=0:=by rw[hol]at hvl;rcases(show br=0\/br=1 by omega)with h|h;exact h;rw[h,Nat.mul_one]at F;omega
 refine WC.exit (E.fC (E.fC (E.gW (E.eY (Sr (Wn 1 rfl (W.cl Ij rfl rfl (by have h:=yo e C BA (by omega);rw[(by rw[ac]at F;omega:val out=a-b)]at h;exact h) ?_)))))))
 rintro _ al ⟨rfl,ad,ae⟩
 refine Wn 2 rfl (Nx (Rt (E.jb rfl rfl rfl ?_)))
 exact⟨_,_,rfl,(ad.mono x.size),(s.trans ae)⟩
end Go.Proofs.YtkaedikifgpkeaaGreatDoor

namespace Go.Proofs.YtkaedikifgpkeaaGreatDoor
open Tryz
open Go Go.Sx Go.oF
set_option maxRecDepth 20000
def ZY (l:List Nat)(b:Nat){n:Nat}(st:Nat×List Nat)(x:Fin n):Nat×List Nat:=
  ((l.getD x.val 0+B*st.1)%b,if l.getD x.val 0+B*st.1<b then st.2 else st.2.set x.val ((l.getD x.val 0+B*st.1)/b))
def Xv (l:List Nat)(b n:Nat)(pre:List (Fin n)):Nat×List Nat:=pre.foldl (ZY l b) (0,List.replicate n 0)
def uj (l:List Nat)(b n:Nat)(pre:List (Fin n)):Nat:=(Xv l b n pre).1
def IP (l:List Nat)(b n:Nat)(pre:List (Fin n)):List Nat:=(Xv l b n pre).2
theorem Cj (l:List Nat)(b n:Nat)(pre:List (Fin n))(x:Fin n):Xv l b n (pre++[x])=ZY l b (Xv l b n pre) x:=by unfold Xv;rw[List.foldl_append];rfl
theorem F6 (l:List Nat)(b n:Nat):uj l b n []=0:=rfl
theorem oJ (l:List Nat)(b n:Nat)(pre:List (Fin n))(x:Fin n):uj l b n (pre++[x])=(l.getD x.val 0+B*uj l b n pre)%b:=by unfold uj;rw[Cj];rfl
theorem IQ {l:List Nat}{b n:Nat}{pre:List (Fin n)}{x:Fin n}(h:l.getD x.val 0+B*uj l b n pre<b):IP l b n (pre++[x])=IP l b n pre:=by
  unfold IP
  rw[Cj]
  exact if_pos h
theorem IU {l:List Nat}{b n:Nat}{pre:List (Fin n)}{x:Fin n}(h:¬l.getD x.val 0+B*uj l b n pre<b):IP l b n (pre++[x])=(IP l b n pre).set x.val ((l.getD x.val 0+B*uj l b n pre)/b):=by
  unfold IP
  rw[Cj]
  exact if_neg h
theorem Uk (l:List Nat)(b n:Nat)(pre:List (Fin n)):(IP l b n pre).length=n:=by
  have key:∀(p:List (Fin n)) (st:Nat×List Nat),st.2.length=n->(p.foldl (ZY l b) st).2.length=n:=by
    intro p
    induction p with
    |nil=>exact fun st h=>h
    |cons x p ih=>
      intro st h
      refine ih _ ?_
      unfold ZY
      simp only
      split
      · exact h
      · rw[List.length_set];exact h
  exact key pre _ List.length_replicate
theorem Xc {l:List Nat}{b n:Nat}(hb:0<b)(pre:List (Fin n)):uj l b n pre<b:=by
  rcases List.eq_nil_or_concat pre with rfl|⟨p,x,rfl⟩
  · exact hb
  · rw[List.concat_eq_append,oJ];exact Nat.mod_lt _ hb
theorem MB {d r b:Nat}(hd:d<B)(hr:r<b):(d+B*r)/b<B:=by
  rw[Nat.div_lt_iff_lt_mul (by omega)]
  have:=Nat.mul_le_mul_left B (show r+1<=b from hr)
  rw[Nat.mul_add]at this
  omega
structure DmI (l:List Nat)(b n k:Nat)(r:Nat)(q:List Nat):Prop where
  len:q.length=n
  lt:∀d∈q,d<B
  zero:∀j,j<n-k->q.getD j 0=0
  eq:val (l.drop (n-k))=b*val (q.drop (n-k))+r
  rem:r<b
theorem QV {l:List Nat}{b n:Nat}(hb:0<b)(hl:l.length=n)(hlt:∀d∈l,d<B):∀(k:Nat) (h:k<=n),DmI l b n k (uj l b n (nJ n k h)) (IP l b n (nJ n k h))
  |0,h=>⟨List.length_replicate,BU _,fun j _=>AO _ _,by
      have e1:l.drop (n-0)=[]:=List.drop_eq_nil_of_le (by omega)
      have e2:(IP l b n (nJ n 0 h)).drop (n-0)=[]:=List.drop_eq_nil_of_le (by unfold IP Xv nJ;simp)
      rw[e1,e2];rfl,hb⟩
  |k+1,h=>by
    obtain⟨i1,i2,i3,i4,i5⟩:=QV hb hl hlt k (by omega)
    have hx:n-1-k<n:=by omega
    rw[uU n k h]
    generalize hp:nJ n k (by omega)=pre at*
    generalize hr:uj l b n pre=r at*
    have hd:l.getD (n-1-k) 0<B:=getD_lt hlt _
    have hroom:=MB hd i5
    have hnext:=oJ l b n pre ⟨n-1-k,hx⟩
    rw[hr]at hnext
    simp only at hnext
    have hk:n-(k+1)=n-1-k:=by omega
    have hdl:=Bo (l:=l) (k:=n-1-k) (by omega)
    rw[show n-1-k+1=n-k by omega]at hdl
    have key:∀q':List Nat,q'.length=n->q'.getD (n-1-k) 0=(l.getD (n-1-k) 0+B*r)/b->(∀j,n-1-k<j->q'.getD j 0=(IP l b n pre).getD j 0)->val (l.drop (n-(k+1)))=b*val (q'.drop (n-(k+1)))+(l.getD (n-1-k) 0+B*r)%b:=by
      intro q' f c e
      have Xd:=Bo (l:=q') (k:=n-1-k) (by omega)
      rw[show n-1-k+1=n-k by omega]at Xd
      have hsame:q'.drop (n-k)=(IP l b n pre).drop (n-k):=yH (by omega) (fun j i _=>e j (by omega))
      rw[hk,hdl,Xd,c,hsame,i4]
      have VO:=Nat.div_add_mod (l.getD (n-1-k) 0+B*r) b
      rw[Nat.mul_add,Nat.mul_add,Nat.mul_left_comm b B]
      omega
    rw[hnext]
    by_cases hless:l.getD (n-1-k) 0+B*r<b
    · rw[IQ (x:=⟨n-1-k,hx⟩) (by rw[hr];exact hless)]
      refine⟨i1,i2,fun j hj=>i3 j (by omega),?_,Nat.mod_lt _ hb⟩
      exact key _ i1 (by rw[i3 _ (by omega),Nat.div_eq_of_lt hless]) (fun j _=>rfl)
    · have hm:=IU (x:=⟨n-1-k,hx⟩) (by rw[hr];exact hless:¬l.getD (⟨n-1-k,hx⟩:Fin n).val 0+B*uj l b n pre<b)
      rw[hr]at hm
      simp only at hm
      rw[hm]
      refine⟨by simp[i1],vY i2 hroom,fun j hj=>?_,?_,Nat.mod_lt _ hb⟩
      · rw[List.getD_eq_getElem?_getD,List.getElem?_set_ne (by omega),<-List.getD_eq_getElem?_getD]
        exact i3 j (by omega)
      · refine key _ (by simp[i1]) ?_ (fun j hj=>?_)
        · rw[List.getD_eq_getElem?_getD,List.getElem?_set_self (by omega)]
          rfl
        · rw[List.getD_eq_getElem?_getD,List.getElem?_set_ne (by omega),<-List.getD_eq_getElem?_getD]
theorem Xe {a b n:Nat}(hb:0<b)(hl:(eP a).length=n):uj (eP a) b n (nJ n n (Nat.le_refl n))=a%b/\val (IP (eP a) b n (nJ n n (Nat.le_refl n)))=a/b/\(IP (eP a) b n (nJ n n (Nat.le_refl n))).length=n/\∀d∈IP (eP a) b n (nJ n n (Nat.le_refl n)),d<B:=by
  obtain⟨i1,i2,i3,i4,i5⟩:=QV hb hl (l8 a) n (Nat.le_refl n)
  rw[Nat.sub_self,List.drop_zero,List.drop_zero,iV]at i4
  obtain⟨c,e⟩:=Lt i4 i5
  exact⟨e.symm,c.symm,i1,i2⟩
def Ck {n:Nat}(a:Nat)(pre:List (Fin n)):Nat:=if pre=[]then 0 else a
theorem NV {n:Nat}(a:Nat)(pre:List (Fin n))(x:Fin n):Ck a (pre++[x])=a:=by unfold Ck;rw[if_neg (by simp)]
theorem QW {a n i:Nat}(ha:a<4294967296)(hl:(eP a).length=n)(hi:i<n):(eP a).getD i 0=a:=by
  by_cases h:a=0
  · rw[h,eT]at hl;simp at hl;omega
  · have e:eP a=[a]:=by rw[jP h,Nat.mod_eq_of_lt (show a<B from ha),Nat.div_eq_of_lt (show a<B from ha),eT]
    rw[e]at hl ⊢
    simp at hl
    have:i=0:=by omega
    subst this
    rfl
theorem QX {a n:Nat}(hl:(eP a).length=n):Ck a (nJ n n (Nat.le_refl n))=a:=by
  unfold Ck
  split
  · rename_i h
    have:=congrArg List.length h
    rw[jq]at this
    simp at this
    subst this
    have b:eP a=[]:=List.length_eq_zero_iff.1 hl
    rw[<-iV a,b]
    rfl
  · rfl
theorem F7 {V b D:Nat}(hb:0<b)(h1:b*D<=V)(hV:V/b<B)(h2:D+1=B\/¬b*(D+1)<=V):D=V/b:=by
  have c:D<=V/b:=(Nat.le_div_iff_mul_le hb).2 (by rw[Nat.mul_comm];exact h1)
  rcases h2 with h2|h2
  · omega
  · have d:V/b<D+1:=(Nat.div_lt_iff_lt_mul hb).2 (by rw[Nat.mul_comm];omega)
    omega
theorem IV {d:Nat}(h0:0<d)(h:d<B):[d]=eP d:=by
  rw[jP (by omega),Nat.mod_eq_of_lt h,Nat.div_eq_of_lt h,eT]
theorem Ul {a b:Nat}:lH a b<=0↔a<=b:=by unfold lH;split<;>(try split)<;>omega
theorem MC {a b:Nat}:lH a b<0↔a<b:=by unfold lH;split<;>(try split)<;>omega
theorem gZ {a b:Nat}(h:a<=b):(eP a).length<=(eP b).length:=Nat.le_of_not_lt fun c=>by have:=qF c;omega
theorem ze {d r:Nat}(hd:d<B):(eP (d+B*r)).length<=(eP r).length+1:=by
  by_cases h:r=0/\d=0
  · rw[h.1,h.2];simp[eT]
  · rw[<-SA hd h];exact Nat.le_refl _
theorem jS:∀(k:Nat) {a:Nat},a<B^k->(eP a).length<=k
  |0,a,h=>by
    have:a=0:=by simpa using h
    rw[this,eT]
    exact Nat.le_refl _
  |k+1,a,h=>by
    by_cases b:a=0
    · rw[b,eT];exact Nat.zero_le _
    · rw[jP b,List.length_cons]
      have:=jS k (a:=a/B) ((Nat.div_lt_iff_lt_mul Bn).2 (by rw[<-Nat.pow_succ];exact h))
      omega
theorem iR (a b:Nat):(eP (a*b)).length<=(eP a).length+(eP b).length:=by
  have c:=rW (l8 a)
  have d:=rW (l8 b)
  rw[iV]at c d
  refine jS _ ?_
  rw[Nat.pow_add]
  exact Nat.mul_lt_mul'' c d
theorem gJ {d:Nat}(h:d<B):(eP d).length<=1:=by
  have:=ze (r:=0) h
  rw[Nat.mul_zero,Nat.add_zero,eT]at this
  exact this
theorem Xf {g1 g2 m c2 k c3 b V:Nat}{A2 A3:Option Addr}(d:Nat)(w:World)(hb1:fA w g1 35 #[.slice A2 m c2])(hb2:fA w g2 35 #[.slice A3 k c3])(hW:Vec w dv 1 A2 m (eP b))(hR:Vec w dv 1 A3 k (eP V))(hd0:0<d)(hd:d<4294967296)(hm:m<=100000)(hk:k<=200000):Calls prog 180 #[.int .u32 ((d:Nat):Int),.pointer (some ⟨g1,0,none⟩),.pointer (some ⟨g2,0,none⟩)] w fun r w'=>r= .returned (.bool (decide (b*d<=V)))/\Le w w':=by
 have C:=hW.1
 have D:=hR.1
 have hB:B=4294967296:=rfl
 have F:=gJ (d:=d) (by omega)
 have ZX:=iR b d
 refine enter func180 rfl rfl (WC.sr (W.run 1 rfl (W.nx (WC.seq (WC.draw [0,1,4,2,3,5,6,7] mixed (by kernel_rfl) fun s t=>?_)))))
 have c:=(Le.refl w).trans t
 refine Gd rfl (.fe (v:= .slice A2 m c2) jl rfl (hb1.le c) rfl) (G.run 1 rfl (Gd rfl (.fe (v:= .slice A3 k c3) jl rfl (hb2.le c) rfl) (G.ef rfl rfl rfl rfl rfl (Ef.gq (len:=1) [_] underlying35 jH rfl (by simp[Value.cells]) rfl (by decide) (by decide) ?_))))
 intro h e u f i
 refine⟨fun _=>i,?_⟩
 have j:=c.trans i
 have f:fA e h 143 (([d]).map dv).flatten.toArray:=f
 have x:eU e s.heap.size 143 dv 1 (some ⟨h,0,none⟩) 1 1 ([d]):=f.kL u fF rfl rfl (by decide)
 have y:=x.cast (m':=1) (ys:=(eP d)) rfl (IV hd0 (by omega))
 refine G.ef rfl rfl rfl rfl rfl (Ef.call Kh rfl rfl (sw e (hW.le j) y.vec (by omega) (by omega)) ?_)
 rintro _ z ⟨H,I,rfl,A,l⟩
 refine⟨_,rfl,?_⟩
 refine⟨fun _=>l,?_⟩
 have n:=j.trans l
 refine G.ef rfl rfl rfl rfl rfl (Ef.call NF rfl rfl (uX z A.vec (hR.le n) (by omega) (by omega)) ?_)
 rintro _ J ⟨rfl,o⟩
 refine⟨_,rfl,?_⟩
 refine⟨fun _=>o,?_⟩
 refine G.run 2 rfl (G.nil (E.eY (WC.ret (E.fu rfl rfl ?_))))
 exact⟨rB (decide_eq_decide.2 Ul),(n.trans o)⟩

theorem wD {A A2:Option Addr}{n c m c2 a b:Nat}(w:World)(hV:Vec w dv 1 A n (eP a))(hW:Vec w dv 1 A2 m (eP b))(hb0:0<b)(hn:n<=100000)(hm:m<=90000):Calls prog 121 #[.slice A n c,.slice A2 m c2] w fun r w'=>∃Aq cq Ar cr,r= .returned (.tuple #[.slice Aq (eP (a/b)).length cq,.slice Ar (eP (a%b)).length cr,.bool true])/\eU w' w.heap.size 143 dv 1 Aq (eP (a/b)).length cq (eP (a/b))/\eU w' w.heap.size 143 dv 1 Ar (eP (a%b)).length cr (eP (a%b))/\Le w w':=by
 have hl:=hV.1
 have a1:=hW.1
 have hB:B=4294967296:=rfl
 have bI:0<m:=by rw[<-a1,jP (by omega)];simp
 refine Ku func121 rfl rfl ?_
 have L0:=Le.refl w
 refine Sr (W.ef rfl rfl rfl (Ef.box rfl fun ac a2 a3 (a4:fA a2 ac 35 #[.slice A2 m c2]) a5=>(Wn 3 rfl (Nx (Sq (WC.draw [0,2,1,3,4,5] mixed (by kernel_rfl) fun w1 d1=>?_))))))
 have L2:=(L0.trans a5).trans d1
 refine Gn 1 rfl ?_
 have F:=(a4.le d1)
 refine Gd rfl (.fe (v:= .slice A2 m c2) jl rfl F rfl) (G.ef rfl rfl rfl rfl rfl (Ef.call sV rfl rfl (kr w1 (hV.le L2) (by omega)) ?_))
 rintro _ a6 ⟨rfl,an⟩
 refine⟨_,rfl,?_⟩
 refine⟨fun _=>an,?_⟩
 have L4:=L2.trans an
 refine G.ef rfl rfl rfl rfl rfl (Ef.call sV rfl rfl (kr a6 (hW.le L4) (by omega)) ?_)
 rintro _ bJ ⟨rfl,ao⟩
 refine⟨_,rfl,?_⟩
 refine⟨fun _=>ao,?_⟩
 refine Gn 1 rfl (G.iO rfl rfl rfl rfl (Ef.store FK rfl rfl (F.le (an.trans ao)) (by first|decide|(simp;done)) rfl ?_))
 intro ad O a7
 refine noT (by kernel_rfl) ?_
 have O:fA ad ac 35 #[.slice A2 m c2]:=O
 have L7:=(L4.trans ao).tb a7 L0 a3
 refine G.nil (E.eY (Sq (Sr (Wr (.fe (v:= .slice A2 m c2) jl rfl O rfl) rfl (Wr (.len underlying35 rfl) rfl (Wa (.dec (.eql rfl rfl) (dF (by omega))) rfl (Nx (WC.iD rfl (Sn (Sr (Wn 1 rfl (Wr (.len underlying35 rfl) rfl ?_))))))))))))
 refine W.ef rfl rfl rfl (Ef.rA 0 n underlying35 jH fF rfl rfl rfl rfl rfl (by omega) (by unfold maxLen;omega) ?_)
 intro V bK bL H Q
 have L8:=L7.trans Q
 refine W.ef rfl rfl rfl (Ef.alloc z35 fun ae a8 a9 (ba:fA a8 ae 35 #[.slice none 0 0]) t=>(W.iO rfl rfl (Ef.store FK rfl rfl ba (by first|decide|(simp;done)) rfl ?_)))
 intro bb X u
 have X:fA bb ae 35 #[.slice (some ⟨V,0,none⟩) n n]:=X
 have ap:=(L8.trans t).tb u L8 a9
 refine Nx (Sr (W.ef rfl rfl rfl (Ef.alloc z35 fun aa aB aC (af:fA aB aa 35 #[.slice none 0 0]) R=>(Nx (Sq (Sr (Wn 1 rfl (W.cl Qa rfl rfl (Cg aB) ?_))))))))
 rintro _ S ⟨bc,rfl,bM,aE,T⟩
 have ah:=(ap.trans R).trans T
 refine Nx (WC.block ?_)
 have bd:=(((H.le t).cb u (H.rn (by omega))).le (R.trans T))
 have be:=(af.le T)
 have bf:=(((O.le (Q.trans t)).cn u (by have:=O.lt;have:=Q.size;omega)).le (R.trans T))
 have bg:=(X.le (R.trans T))
 have hbq:=yG (c:=c) (xs:=(eP a)) (by omega) S aE (hV.le ah)
 refine WC.Kw (α:=Fin n) (N:=n) rfl Qh rfl rfl hbq (fun A=>Gy.refl _ _ _ _ _ _ A) (fun h k=>h.trans k) (fun Wd q o o' hq h1 h2 _=>Gy.put trivial h1 h2) (fun(pre:List (Fin n)) Wd=>∃Ar cr,Le w Wd/\S.heap.size<=Wd.heap.size/\fA Wd bc 35 #[.slice A n c]/\fA Wd ac 35 #[.slice A2 m c2]/\fA Wd ae 35 #[.slice (some ⟨V,0,none⟩) n n]/\eU Wd ad.heap.size 143 dv 1 (some ⟨V,0,none⟩) n n (IP (eP a) b n pre)/\fA Wd aa 35 #[.slice Ar ((eP (uj (eP a) b n pre)).length) cr]/\eU Wd S.heap.size 143 dv 1 Ar ((eP (uj (eP a) b n pre)).length) cr (eP (uj (eP a) b n pre))) (fun _ _=>False) (fun pre Wd W' row ⟨Ar,cr,LI,zI,f0,f1,Y,F,U,f5⟩ hg hr=>⟨Ar,cr,LI.gG hg (fun q e=>Nat.le_trans ah.size (hr q e).1),Nat.le_trans zI hg.size,f0.grown hg (fun r e=>(hr r e).2),f1.grown hg (fun r e=>(hr r e).2),Y.grown hg (fun r e=>(hr r e).2),F.grown hg (fun r e=>(hr r e).2),U.grown hg (fun r e=>(hr r e).2),f5.grown hg (fun r e=>(hr r e).2)⟩) (fun _ _ _ _ hf _ _=>hf) ⟨none,0,ah,Nat.le_refl _,aE,bf,bg,bd,(fA.cast be (by rw[F6,eT];rfl)),(eU.cast (eU.nil S S.heap.size 143 dv 1 none) (by rw[F6,eT];rfl) (by rw[F6,eT]))⟩ (fun x=>[(3,.pointer (some ⟨ac,0,none⟩)),(7,.pointer (some ⟨ae,0,none⟩)),(8,.pointer (some ⟨aa,0,none⟩)),(9,.int .i64 ((x.val:Nat):Int)),(10,.int .u32 (((eP a).getD x.val 0:Nat):Int))]) ?_ ?_ ?_ ?_
 ·intro lp x Wd
  refine RC.seq (RC.region rfl (fun⟨_,_,h⟩=>h) (Wn 1 rfl (W.nil (RC.eY (RC.region rfl (fun⟨_,_,h⟩=>h) (Wn 1 rfl (W.nil ?_)))))))
  exact fun a' ha'=>⟨ha'.sub (.of rfl),rfl⟩
 ·rintro lp pre x Wd ⟨Ar,cr,LI,zI,f0,f1,Y,F,U,f5⟩ hpre
  have bN:ad.heap.size<=Wd.heap.size:=by have:=Q.size;have:=t.size;have:=u.size;have:=R.size;have:=T.size;omega
  have bO:S.heap.size<=Wd.heap.size:=by omega
  have hx:=x.2
  have hql:=Uk (eP a) b n pre
  have hrl:=Xc (l:=eP a) hb0 pre
  have ZH:=kW a x.val
  have hroom:=MB ZH hrl
  have hrm:=gZ (Nat.le_of_lt hrl)
  have hul:=ze (d:=((eP a).getD x.val 0)) (r:=(uj (eP a) b n pre)) ZH
  refine RC.block (RC.seq (RC.region rfl (fun⟨_,_,h⟩=>h) (Wr (.fe (v:= .slice Ar ((eP (uj (eP a) b n pre)).length) cr) jl rfl U rfl) rfl (Wn 1 rfl (W.cl Zb rfl rfl (Xb ((eP a).getD x.val 0) Wd f5.vec ZH (by omega)) ?_)))))
  rintro _ bP ⟨ai,aj,rfl,aF,i⟩
  have aq:=(U.le i)
  refine W.iO rfl rfl (Ef.store FK rfl rfl aq (by first|decide|(simp;done)) rfl ?_)
  intro aG ab s
  have ab:fA aG aa 35 #[.slice ai ((eP (((eP a).getD x.val 0)+B*(uj (eP a) b n pre))).length) aj]:=ab
  have aH:=(LI.trans i).tb s ap aC
  refine W.nil (RC.eY (RC.seq (RC.seq (RC.region rfl (fun⟨_,_,h⟩=>h) (Wr (.fe (v:= .slice ai ((eP (((eP a).getD x.val 0)+B*(uj (eP a) b n pre))).length) aj) jl rfl ab rfl) rfl ?_)))))
  have ar:=((f1.le i).cn s (by have:=O.lt;have:=Q.size;have:=t.size;have:=u.size;omega))
  refine Wr (.fe (v:= .slice A2 m c2) jl rfl ar rfl) rfl ?_
  have au:=(aF.cb s (aF.rl (by have:=U.lt;omega)))
  refine W.cl NF rfl rfl (uX aG au.vec (hW.le aH) (by omega) (by omega)) ?_
  rintro _ bQ ⟨rfl,f⟩
  have av:=aH.trans f
  refine Wn 1 rfl (W.nil (RC.eY ?_))
  by_cases c1:(lH (((eP a).getD x.val 0)+B*(uj (eP a) b n pre)) b)<0
  ·refine RC.HZ rfl (dT c1) ?_
   have hlt:(((eP a).getD x.val 0)+B*(uj (eP a) b n pre))<b:=MC.1 c1
   refine RC.exit (E.fC (E.gW ?_))
   have aI:=(((f0.le i).cn s (by have:=af.lt;omega)).le f)
   have bh:=(((Y.le i).cn s (by have:=X.lt;omega)).le f)
   have bi:=(((F.le i).cb s (H.rn (by have:=t.size;have:=u.size;omega))).le f)
   exact fun a' _=>⟨((KeepsFrom.of_le i).trans ((KeepsFrom.Ey s aq).trans (KeepsFrom.of_le f))),⟨fun _=>aI,fun _=>(hV.le av)⟩,⟨ai,aj,av,by have:=zI;have:=i.size;have:=s.size;have:=f.size;omega,aI,(ar.le f),bh,(bi.cast rfl (IQ hlt).symm),((ab.le f).cast (by rw[oJ,Nat.mod_eq_of_lt hlt])),(((au.le f).mono (by omega)).cast (by rw[oJ,Nat.mod_eq_of_lt hlt]) (by rw[oJ,Nat.mod_eq_of_lt hlt]))⟩⟩
  refine RC.H5 rfl (dF c1) ?_
  have hlt:¬(((eP a).getD x.val 0)+B*(uj (eP a) b n pre))<b:=fun h=>c1 (MC.2 h)
  have hqp:0<(((eP a).getD x.val 0)+B*(uj (eP a) b n pre))/b:=Nat.div_pos (by omega) hb0
  have bR:=gJ hroom
  have hmd:=Nat.mul_div_le (((eP a).getD x.val 0)+B*(uj (eP a) b n pre)) b
  have ZX:=gZ hmd
  refine RC.skip (RC.eY (RC.seq (RC.draw [0,1,2,3,4,5] mixed (by kernel_rfl) rfl fun bj I=>?_)))
  have aJ:=av.trans I
  have aK:=(((Y.le i).cn s (by have:=X.lt;omega)).le (f.trans I))
  refine Gd rfl (.fe (v:= .slice (some ⟨V,0,none⟩) n n) jl rfl aK rfl) (Gn 1 rfl (Ga rfl (.makeFunc rfl) ?_))
  have aL:=(ar.le (f.trans I))
  have aM:=(ab.le (f.trans I))
  have aw:=(au.le (f.trans I))
  refine G.ef rfl rfl rfl rfl rfl (Ef.call Zc rfl rfl (Im (fun d=>decide (b*d<=(((eP a).getD x.val 0)+B*(uj (eP a) b n pre)))) Zd bj (fun d w1 h0 h1 hl=>Xf d w1 (aL.le hl) (aM.le hl) (hW.le (aJ.trans hl)) (aw.vec.le hl) h0 h1 (by omega) (by omega)) (by simp)) ?_)
  rintro _ bS ⟨bk,rfl,⟨bT,bl,bm⟩,C⟩
  refine⟨_,rfl,?_⟩
  refine⟨fun _=>C,?_⟩
  have bn:bk=(((eP a).getD x.val 0)+B*(uj (eP a) b n pre))/b:=F7 hb0 (of_decide_eq_true bl) hroom (bm.imp (fun h=>h.trans hB.symm) of_decide_eq_false)
  subst bn
  refine Ga rfl (.fV x.val underlying35 fP rfl rfl (H.vec.isSome fF (by omega)) rfl (by omega)) ?_
  have ak:=(((F.le i).cb s (H.rn (by have:=t.size;have:=u.size;omega))).le (f.trans (I.trans C)))
  refine G.iO rfl rfl rfl rfl (Ef.vE (j:=x.val) (o:=0) ((((eP a).getD x.val 0)+B*(uj (eP a) b n pre))/b) fP rfl (by omega) rfl ak fF (gD (IP (eP a) b n pre) 0 (by omega)) (by decide) rfl rfl fun bU bo K=>(noT (by kernel_rfl) (G.nil (RC.eY (RC.draw [0,1,2,3,4,5,6,7,8,9,10,11,12] mixed (by kernel_rfl) rfl ?_)))))
  intro bp J
  have ax:=(((aM.le C).ch K (H.rn (by have:=t.size;have:=u.size;omega))).le J)
  refine Gd rfl (.fe (v:= .slice ai ((eP (((eP a).getD x.val 0)+B*(uj (eP a) b n pre))).length) aj) jl rfl ax rfl) ?_
  have aO:=(((aL.le C).ch K (ak.rl (by have:=O.lt;omega))).le J)
  refine Gd rfl (.fe (v:= .slice A2 m c2) jl rfl aO rfl) ?_
  have aP:=(((aK.le C).ch K (H.rn (by omega))).le J)
  refine Gd rfl (.fe (v:= .slice (some ⟨V,0,none⟩) n n) jl rfl aP rfl) (Gn 1 rfl (Ga rfl (.fV x.val underlying35 fP rfl rfl (H.vec.isSome fF (by omega)) rfl (by omega)) ?_))
  have aQ:=(bo.le J)
  refine Gd rfl (.jB (v:= .int .u32 ((((((eP a).getD x.val 0)+B*(uj (eP a) b n pre))/b):Nat):Int)) gP rfl aQ.vec fF (List.getElem?_set_self (by omega)) rfl) ?_
  refine G.ef rfl rfl rfl rfl rfl (Ef.gq (len:=1) [_] underlying35 jH rfl (by simp[Value.cells]) rfl (by decide) (by decide) ?_)
  intro aR ay bq az y
  refine⟨fun _=>y,?_⟩
  have aS:=(((aJ.trans C).gG K (fun q hq=>Nat.le_trans L7.size (ak.row hq).1)).trans J).trans y
  have az:fA ay aR 143 (([((((eP a).getD x.val 0)+B*(uj (eP a) b n pre))/b)]).map dv).flatten.toArray:=az
  have bs:eU ay bp.heap.size 143 dv 1 (some ⟨aR,0,none⟩) 1 1 ([((((eP a).getD x.val 0)+B*(uj (eP a) b n pre))/b)]):=az.kL bq fF rfl rfl (by decide)
  have bt:=bs.cast (m':=1) (ys:=(eP ((((eP a).getD x.val 0)+B*(uj (eP a) b n pre))/b))) rfl (IV hqp hroom)
  refine G.ef rfl rfl rfl rfl rfl (Ef.call Kh rfl rfl (sw ay (hW.le aS) bt.vec (by omega) (by omega)) ?_)
  rintro _ bu ⟨bV,bW,rfl,bv,z⟩
  refine⟨_,rfl,?_⟩
  refine⟨fun _=>z,?_⟩
  refine G.ef rfl rfl rfl rfl rfl (Ef.call Ze rfl rfl (Uj bu (((aw.le C).ch K (fun q h1 h2=>by have:=(F.row h1).2;have:=(aw.row h2).1;omega)).le (J.trans (y.trans z))).vec bv.vec hmd (by omega) (by omega)) ?_)
  rintro _ bX ⟨aT,aU,rfl,aV,L⟩
  refine⟨_,rfl,?_⟩
  refine⟨fun _=>L,?_⟩
  refine Gn 3 rfl ?_
  have aW:=(ax.le (y.trans (z.trans L)))
  refine G.iO rfl rfl rfl rfl (Ef.store FK rfl rfl aW (by first|decide|(simp;done)) rfl ?_)
  intro bw aA P
  refine noT (by kernel_rfl) ?_
  have aA:fA bw aa 35 #[.slice aT ((eP ((((eP a).getD x.val 0)+B*(uj (eP a) b n pre))-(b*((((eP a).getD x.val 0)+B*(uj (eP a) b n pre))/b)))).length) aU]:=aA
  have aX:=((aS.trans z).trans L).tb P ap aC
  refine G.nil (E.gI ?_)
  have aY:=((((((f0.le i).cn s (by have:=af.lt;omega)).le (f.trans (I.trans C))).ch K (H.rn (by have:=t.size;have:=u.size;have:=R.size;omega))).le (J.trans (y.trans (z.trans L)))).cn P (by have:=af.lt;omega))
  have bx:=((aO.le (y.trans (z.trans L))).cn P (by have:=O.lt;have:=Q.size;have:=t.size;have:=u.size;omega))
  have bz:=((aP.le (y.trans (z.trans L))).cn P (by have:=X.lt;omega))
  have bA:=((aQ.le (y.trans (z.trans L))).cb P (H.rn (by have:=t.size;have:=u.size;omega)))
  have bB:=(aV.cb P (aV.rl (by have:=ax.lt;have:=y.size;have:=z.size;omega)))
  exact fun a' _=>⟨((KeepsFrom.of_le i).trans ((KeepsFrom.Ey s aq).trans ((KeepsFrom.of_le f).trans ((KeepsFrom.of_le I).trans ((KeepsFrom.of_le C).trans ((KeepsFrom.W9 K ak).trans ((KeepsFrom.of_le J).trans ((KeepsFrom.of_le y).trans ((KeepsFrom.of_le z).trans ((KeepsFrom.of_le L).trans (KeepsFrom.Ey P aW))))))))))),⟨fun _=>aY,fun _=>(hV.le aX)⟩,⟨aT,aU,aX,by have:=zI;have:=i.size;have:=s.size;have:=f.size;have:=I.size;have:=C.size;have:=K.size;have:=J.size;have:=y.size;have:=z.size;have:=L.size;have:=P.size;omega,aY,bx,bz,(bA.cast rfl (IU hlt).symm),(aA.cast (by rw[oJ,Nat.mod_eq_sub_mul_div])),((bB.mono (by have:=i.size;have:=s.size;have:=f.size;have:=I.size;have:=C.size;have:=K.size;have:=J.size;have:=y.size;have:=z.size;omega)).cast (by rw[oJ,Nat.mod_eq_sub_mul_div]) (by rw[oJ,Nat.mod_eq_sub_mul_div]))⟩⟩
 ·rintro D pre Wd hD hS ⟨Ar,cr,LI,zI,f0,f1,Y,F,U,f5⟩ hdef
  subst hS
  have bY:ad.heap.size<=Wd.heap.size:=by have:=Q.size;have:=t.size;have:=u.size;have:=R.size;have:=T.size;omega
  have bZ:S.heap.size<=Wd.heap.size:=by omega
  have VO:=Xe hb0 hl
  obtain⟨hdr,Xd,hdl,hdb⟩:=VO
  have hrm:=gZ (Nat.le_of_lt (Nat.mod_lt a hb0))
  rw[<-hdr]at hrm
  refine DE.gI (DE.eY (DC.seq (DC.draw [0,2,1,3,4,5,6] mixed (by kernel_rfl) fun bC Z=>(GD.rd rfl rfl (.fe (v:= .slice (some ⟨V,0,none⟩) n n) jl rfl (Y.le Z) rfl) rfl rfl rfl (GD.rd rfl rfl (.fe (v:= .slice Ar ((eP (uj (eP a) b n (nJ n n (Nat.le_refl _)))).length) cr) jl rfl (U.le Z) rfl) rfl rfl rfl ?_)))))
  refine GD.ef rfl rfl rfl rfl rfl (Ef.call Ij rfl rfl (by have h:=yo bC (F.le Z) hdb (by omega);rw[Xd]at h;exact h) ?_)
  rintro _ bD ⟨rfl,bE,al⟩
  refine⟨_,rfl,?_⟩
  refine⟨fun _=>al,?_⟩
  have aZ:=(LI.trans Z).trans al
  refine GD.ef rfl rfl rfl rfl rfl (Ef.call VE rfl rfl (EB bD (f5.le (Z.trans al)).vec (by omega)) ?_)
  rintro _ b0 ⟨b1,b2,rfl,bF,am⟩
  refine⟨_,rfl,?_⟩
  refine⟨fun _=>am,?_⟩
  refine GD.any rfl rfl (.assign rfl) rfl rfl rfl (GD.any rfl rfl (.assign rfl) rfl rfl rfl (GD.any rfl rfl (.assign rfl) rfl rfl rfl (GD.nil (DE.eY (DC.ret ?_)))))
  have a0:=(hdef.le (Z.trans (al.trans am)))
  obtain⟨QU,Xa⟩:=DU.put a0
  have bG:=(aZ.trans am).gG QU (fun q e=>by cases e;exact Nat.le_trans ah.size hD)
  have bH:=(bF.grown QU Xa)
  refine DE.VQ rfl a0 rfl rfl rfl ?_
  have hq:=(bH.mono aZ.size)
  rw[hdr]at hq ⊢
  exact⟨_,_,_,_,rfl,(((bE.le am).grown QU Xa).mono L7.size),hq,bG⟩
 intro D xs Wd _ _ hf;exact hf.elim

theorem ME {A A2:Option Addr}{n c m c2 a b:Nat}(w:World)(hV:Vec w dv 1 A n (eP a))(hW:Vec w dv 1 A2 m (eP b))(hn:n<=90000)(hm:m<=90000):Calls prog 137 #[.slice A n c,.slice A2 m c2] w fun r w'=>∃A c,r= .returned (.slice A (eP (Nat.gcd a b)).length c)/\eU w' w.heap.size 143 dv 1 A (eP (Nat.gcd a b)).length c (eP (Nat.gcd a b))/\Le w w':=by
 have hl:=hV.1
 have x:=hW.1
 have hB:B=4294967296:=rfl
 refine enter func137 rfl rfl ?_
 have k:=Le.refl w
 refine Sr (Wn 1 rfl (Nx (Sr (Wn 1 rfl (W.cl sV rfl rfl (kr w (hV.le k) (by omega)) ?_)))))
 rintro _ y ⟨rfl,z⟩
 have l:=k.trans z
 refine Wn 1 rfl (W.cl sV rfl rfl (kr y (hW.le l) (by omega)) ?_)
 rintro _ C ⟨rfl,D⟩
 have h:=l.trans D
 refine Wn 2 rfl (Nx (Sq (WC.block (WC.loop (ι:=Nat×Nat×(Option Addr)×Nat×Nat×(Option Addr)×Nat×Nat) (fun⟨u,v,Au,nu,cu,Av,nv,cv⟩=>[(0,.slice Au nu cu),(1,.slice Av nv cv)]) (fun⟨u,v,Au,nu,cu,Av,nv,cv⟩ d=>(Nat.gcd u v=Nat.gcd a b)/\(nu<=90000/\nv<=90000)/\((eP u).length=nu/\(eP v).length=nv)/\Le w d/\C.heap.size<=d.heap.size/\Vec d dv 1 Au nu (eP u)/\Vec d dv 1 Av nv (eP v)) (fun⟨u,v,Au,nu,cu,Av,nv,cv⟩=>v) (a,b,A,n,c,A2,m,c2) ?_ ?_ ?_))))
 ·exact .of rfl
 ·exact⟨rfl,⟨by omega,by omega⟩,⟨hl,x⟩,h,Nat.le_refl _,(hV.le h),(hW.le h)⟩
 rintro⟨u,v,Au,nu,cu,Av,nv,cv⟩ d ⟨hg,hnn,hll,i,F,o,s⟩
 refine Sq (Sr (Wn 1 rfl (Wr (.len underlying35 rfl) rfl (Wn 1 rfl (Nx ?_)))))
 by_cases t:0<((nv:Nat):Int)
 ·refine Cy rfl (dT t) ?_
  have f:0<v:=Nat.pos_of_ne_zero (fun e=>by rw[e,eT]at hll;have:=hll.2;simp at this;omega)
  have ZX:=gZ (Nat.le_of_lt (Nat.mod_lt u f))
  refine Sn (WC.block (Sr (Wn 2 rfl (W.cl Qb rfl rfl (wD d o s (by omega) (by omega) (by omega)) ?_))))
  rintro _ P ⟨Q,R,H,I,rfl,S,J,j⟩
  have K:=i.trans j
  refine Wn 7 rfl (Nx (WC.region (Wn 4 rfl (W.nil (E.gI ?_)))))
  have L:=(s.le j)
  refine E.again (v,(u%v),Av,nv,cv,H,((eP (u%v)).length),I) (.of rfl) ?_ ?_
  ·exact⟨by rw[<-hg,Nat.gcd_comm v,<-Nat.gcd_rec,Nat.gcd_comm],⟨by omega,by omega⟩,⟨hll.2,rfl⟩,K,by have:=F;have:=j.size;omega,L,J.vec⟩
  exact Nat.mod_lt _ f
 refine Cn rfl (dF t) ?_
 have f:v=0:=Classical.byContradiction (fun e=>by have:=hll.2;rw[jP e]at this;simp at this;omega)
 have hgu:u=Nat.gcd a b:=by rw[<-hg,f,Nat.gcd_zero_right]
 refine WC.exit (E.fC (E.fC (E.gW (E.eY (Sr (Wn 1 rfl (W.cl VE rfl rfl (EB d o (by omega)) ?_)))))))
 rintro _ T ⟨U,V,rfl,N,O⟩
 refine Wn 1 rfl (Nx (Rt (E.fu rfl rfl ?_)))
 rw[<-hgu];exact⟨_,_,rfl,(N.mono i.size),(i.trans O)⟩

theorem Um {A:Option Addr}{n c a:Nat}(w:World)(hV:Vec w dv 1 A n (eP a))(ha:a<4294967296):Calls prog 122 #[.slice A n c] w fun r w'=>r= .returned (.tuple #[.int .i64 ((a:Nat):Int),.bool true])/\Le w w':=by
 have hl:=hV.1
 have hB:B=4294967296:=rfl
 have aa:=gJ (d:=a) (by omega)
 refine Ku func122 rfl rfl ?_
 have u:=Le.refl w
 refine Sr (Wn 2 rfl (Nx (Sr (Wn 1 rfl (W.cl sV rfl rfl (kr w (hV.le u) (by omega)) ?_)))))
 rintro _ ab ⟨rfl,K⟩
 have s:=u.trans K
 refine Wn 1 rfl (Nx (Sr (W.ef rfl rfl rfl (Ef.alloc z24 fun f L y (O:fA L f 24 #[.int .u64 (0)]) P=>(W.iO rfl rfl (Ef.store XV rfl rfl O (by first|decide|(simp;done)) rfl ?_))))))
 intro z i Q
 have i:fA z f 24 #[.int .u64 (0)]:=i
 refine Nx (Sq (Sr (Wn 1 rfl (W.cl Qa rfl rfl (Cg z) ?_))))
 rintro _ C ⟨R,rfl,ac,F,H⟩
 have j:=((s.trans P).tb Q s y).trans H
 refine Nx (WC.block ?_)
 have S:=(i.le H)
 have hbq:=yG (c:=c) (xs:=(eP a)) (by omega) C F (hV.le j)
 refine WC.Kw (α:=Fin n) (N:=n) rfl Qh rfl rfl hbq (fun A=>Gy.refl _ _ _ _ _ _ A) (fun h k=>h.trans k) (fun Wd q o o' hq T U _=>Gy.put trivial T U) (fun(pre:List (Fin n)) Wd=>Le w Wd/\C.heap.size<=Wd.heap.size/\fA Wd R 35 #[.slice A n c]/\fA Wd f 24 #[.int .u64 (((Ck a pre):Nat):Int)]) (fun _ _=>False) (fun pre Wd W' row ⟨LI,zI,l,b⟩ hg hr=>⟨LI.gG hg (fun q e=>Nat.le_trans j.size (hr q e).1),Nat.le_trans zI hg.size,l.grown hg (fun r e=>(hr r e).2),b.grown hg (fun r e=>(hr r e).2)⟩) (fun _ _ _ _ hf _ _=>hf) ⟨j,Nat.le_refl _,F,S⟩ (fun x=>[(0,.slice A n c),(4,.pointer (some ⟨f,0,none⟩)),(6,.int .u32 (((eP a).getD x.val 0:Nat):Int))]) ?_ ?_ ?_ ?_
 ·intro lp x Wd
  refine RC.region rfl (fun⟨_,_,h⟩=>h) (Wn 1 rfl (W.nil ?_))
  exact fun a' ha'=>⟨ha'.sub (.of rfl),rfl⟩
 ·rintro lp pre x Wd ⟨LI,zI,l,b⟩ hpre
  have hx:=x.2
  have V:pre=[]:=List.length_eq_zero_iff.1 (by omega)
  have X:Ck a pre=0:=by rw[V];rfl
  have ZH:((eP a).getD x.val 0)=a:=QW (by omega) (by omega) (by omega)
  refine RC.block (RC.region rfl (fun⟨_,_,h⟩=>h) (Wr (.fe (v:= .int .u64 (((Ck a pre):Nat):Int)) Ws rfl b rfl) rfl (Wa (.Px (Ck a pre) 32 0 rfl rfl rfl rfl (by decide) (by rw[X])) rfl ?_)))
  refine Wn 1 rfl (Wr (.yh (lY underlying143) underlying24 rfl (IntWalk.u64_in _ (by omega))) rfl (Wa (.orN 0 ((eP a).getD x.val 0) rfl rfl rfl rfl (by decide) (by omega)) rfl (W.iO rfl rfl (Ef.store XV rfl rfl b (by first|decide|(simp;done)) rfl ?_))))
  intro Y t m
  have t:fA Y f 24 #[.int .u64 (((0|||((eP a).getD x.val 0)):Nat):Int)]:=t
  have I:=LI.tb m s y
  refine W.nil (E.gI ?_)
  have J:=(l.cn m (by have:=i.lt;omega))
  exact fun a' _=>⟨(KeepsFrom.Ey m b),⟨fun _=>J,fun _=>(hV.le I)⟩,⟨I,by have:=zI;have:=m.size;omega,J,(t.cast (by rw[ZH,Nat.zero_or,NV]))⟩⟩
 ·rintro D pre Wd hD hS ⟨LI,zI,l,b⟩ hdef
  subst hS
  have hia:Ck a (nJ n n (Nat.le_refl n))=a:=QX hl
  refine DE.gI (DE.eY (DC.seq (DC.seq (DC.region (DW.any (.move rfl) rfl rfl rfl ?_)))))
  refine DW.rd (.len underlying35 rfl) rfl rfl rfl (DW.any (.dec (.gtr rfl rfl) (dF (by omega))) rfl rfl rfl (DW.any (.move rfl) rfl rfl rfl (DW.yg (.fe (v:= .int .u64 (((Ck a (nJ n n (Nat.le_refl _))):Nat):Int)) Ws rfl b rfl) rfl rfl rfl rfl rfl rfl (DW.yg (Any.rd (.dec (.gtr rfl rfl) (dF (by rw[hia];omega))) _) rfl rfl rfl rfl rfl rfl ?_))))
  refine DW.any (.mO rfl rfl rfl) rfl rfl rfl (DW.nil (DE.eY (DC.iD rfl (DC.skip (DE.eY ?_)))))
  refine DC.seq (DC.region (DW.rd (.fe (v:= .int .u64 (((Ck a (nJ n n (Nat.le_refl _))):Nat):Int)) Ws rfl b rfl) rfl rfl rfl (DW.rd (.yh (lY underlying24) underlying3 rfl (IntWalk.i64_in _ (by rw[hia];omega))) rfl rfl rfl ?_)))
  refine DW.any (.assign rfl) rfl rfl rfl (DW.any (.assign rfl) rfl rfl rfl (DW.nil (DE.eY (DC.ret ?_))))
  obtain⟨QU,Xa⟩:=DU.put hdef
  have Z:=LI.gG QU (fun q e=>by cases e;exact Nat.le_trans j.size hD)
  refine DE.QP rfl hdef rfl rfl ?_
  exact⟨by rw[hia],Z⟩
 intro D xs Wd _ _ hf;exact hf.elim
end Go.Proofs.YtkaedikifgpkeaaGreatDoor

namespace Go.Proofs.YtkaedikifgpkeaaGreatDoor
open Tryz
open Go Go.Sx Go.oF
set_option maxRecDepth 20000
def okB (p q:Nat):Bool:=decide (0<q/\Nat.gcd p q=1)
def zx (w:World)(b1 b2:Nat)(A:Option Addr)(n:Nat)(xs:List Nat):Prop:=Vec w dv 1 A n xs/\∀g,kT A=some g->0<n->g<b1\/b2<=g
theorem zx.vec {w:World}{b1 b2 n:Nat}{A:Option Addr}{xs:List Nat}(h:zx w b1 b2 A n xs):Vec w dv 1 A n xs:=h.1
theorem zx.le {w w':World}{b1 b2 n:Nat}{A:Option Addr}{xs:List Nat}(h:zx w b1 b2 A n xs)(k:Le w w'):zx w' b1 b2 A n xs:=⟨h.1.le k,h.2⟩
theorem zx.ch {w w':World}{b1 b2 n g:Nat}{A:Option Addr}{xs:List Nat}(h:zx w b1 b2 A n xs)(k:Ch w w' (some g))(hn:∀q,kT A=some q->0<n->q<b1\/b2<=q->q≠g):zx w' b1 b2 A n xs:=
  ⟨h.1.iQ (k.iQ (F:=fun q=>q=g) (fun i hi=>(Option.some.inj hi).symm)) (fun q hq hm _=>hn q hq hm (h.2 q hq hm)),h.2⟩
def fE (f:Fr):Fr:=if okB f.n f.d=true then f else⟨0,1⟩
theorem MG {f:Fr}:okB f.n f.d=true↔okF f:=by unfold okB okF;rw[decide_eq_true_eq]
theorem pG (f:Fr):okF (fE f):=by
  unfold fE
  split
  · exact MG.1 (by assumption)
  · exact⟨by decide,rfl⟩
theorem qM {f:Fr}(h:okF f):fE f=f:=if_pos (MG.2 h)
theorem lX (f:Fr):(eP (fE f).n).length<=(eP f.n).length/\(eP (fE f).d).length<=(eP f.d).length+1:=by
  unfold fE
  split
  · exact⟨Nat.le_refl _,Nat.le_succ _⟩
  · have:=gJ (d:=1) (by decide)
    simp only[eT]
    exact⟨Nat.zero_le _,by omega⟩
theorem qi:(eP 0).length=0:=by rw[eT];rfl
theorem qN {a b:Nat}:lH a b=0↔a=b:=by unfold lH;split<;>(try split)<;>omega
theorem uY (n d:Nat):(gY n d).n<=n/\(gY n d).d<=d:=⟨Nat.div_le_self _ _,Nat.div_le_self _ _⟩
theorem zf {q:Nat}(h:0<(eP q).length):0<q:=Nat.pos_of_ne_zero fun e=>by rw[e,eT]at h;simp at h
theorem sF {q:Nat}(h:0<q):0<(eP q).length:=by rw[jP (by omega)];simp
theorem AR {n d:Nat}(h:0<d):(eP (Nat.gcd n d)).length<=(eP d).length:=gZ (Nat.le_of_dvd h (Nat.gcd_dvd_right n d))
theorem F8 (w:World):Calls prog 58 #[] w fun r w'=>∃A c,r= .returned (.slice A (eP 1).length c)/\eU w' w.heap.size 143 dv 1 A (eP 1).length c (eP 1)/\Le w w':=by
 refine enter func58 rfl rfl ?_
 have b:=Le.refl w
 refine Sr (Wn 1 rfl (Nx (Sr (W.cl Ty rfl rfl (FU 1 (by omega) w) ?_))))
 rintro _ f ⟨h,i,rfl,d,e⟩
 refine Wn 1 rfl (Nx (Rt (E.fu rfl rfl ?_)))
 exact⟨_,_,rfl,(d.mono b.size),(b.trans e)⟩

theorem Kz (w:World):Calls prog 76 #[] w fun r w'=>∃A1 c1 A2 c2,r= .returned (.agg #[.slice A1 (eP 0).length c1,.slice A2 (eP 1).length c2])/\eU w' w.heap.size 143 dv 1 A1 (eP 0).length c1 (eP 0)/\eU w' w.heap.size 143 dv 1 A2 (eP 1).length c2 (eP 1)/\Le w w':=by
 refine enter func76 rfl rfl ?_
 have h:=Le.refl w
 refine Sr (W.ef rfl rfl rfl (Ef.fI z37 fun i j v (b:fA j i 37 #[.slice none 0 0,.slice none 0 0]) x=>?_))
 have k:=h.trans x
 refine Nx (Sr (W.cl Ty rfl rfl (FU 0 (by omega) j) ?_))
 rintro _ y ⟨l,m,rfl,n,c⟩
 have o:=k.trans c
 refine W.cl WJ rfl rfl (F8 y) ?_
 rintro _ A ⟨s,t,rfl,u,d⟩
 refine Wa (.gF [.slice l ((eP 0).length) m,.slice s ((eP 1).length) t] jY z37 rfl rfl) rfl (W.sA gV rfl rfl (b.le (c.trans d)) ?_)
 intro z e f
 have e:fA z i 37 #[.slice l ((eP 0).length) m,.slice s ((eP 1).length) t]:=e
 refine Nx (Rt (E.fu rfl (iB rfl e gQ (by rfl)) ?_))
 exact⟨_,_,_,_,rfl,(((n.le d).cb f (n.rl (by have:=b.lt;omega))).mono k.size),((u.cb f (u.rl (by have:=b.lt;have:=c.size;omega))).mono o.size),((o.trans d).tb f h v)⟩

theorem zg {An Ad:Option Addr}{nn cn nd cd p q:Nat}(w:World)(hn:Vec w dv 1 An nn (eP p))(hd:Vec w dv 1 Ad nd (eP q))(bn:nn<=10000)(bd:nd<=10000):Calls prog 116 #[.agg #[.slice An nn cn,.slice Ad nd cd]] w fun r w'=>r= .returned (.bool (okB p q))/\Le w w':=by
 have hln:=hn.1;have hld:=hd.1
 have J:=gJ (d:=1) (by decide)
 refine enter func116 rfl rfl (Sr (W.ef rfl rfl rfl (Ef.iM rfl fun u f K (i:fA f u 37 #[.slice An nn cn,.slice Ad nd cd]) x=>?_)))
 have j:=(Le.refl w).trans x
 refine Wn 1 rfl (Nx (Sr (Wa (.eZ lW rfl) rfl (Wr (.fe (v:= .slice An nn cn) jl rfl i rfl) rfl (W.cl Qg rfl rfl (yC f (hn.le j) (by omega)) ?_)))))
 rintro _ y ⟨rfl,k⟩
 have l:=j.trans k
 refine Wn 1 rfl (Wg (Any.rd (.eZ kN rfl) _) rfl ?_)
 have m:=(i.le k)
 refine Wg (.fe (v:= .slice Ad nd cd) jl rfl m rfl) rfl (W.mW rfl rfl rfl rfl rfl rfl (Ef.call Qg rfl rfl (yC y (hd.le l) (by omega)) ?_))
 rintro _ z ⟨rfl,o⟩
 refine⟨_,rfl,?_⟩
 have b:=l.trans o
 refine Wn 2 rfl (Wg (Any.rd (.eZ kN rfl) _) rfl ?_)
 have e:=(m.le o)
 refine Wg (.fe (v:= .slice Ad nd cd) jl rfl e rfl) rfl (Wg (.len underlying35 rfl) rfl (Wn 2 rfl ?_))
 by_cases s:0<((nd:Nat):Int)
 ·have c:0<q:=zf (by omega)
  have hgl:=AR (n:=p) c
  refine Dt s rfl rfl (Wg (Any.rd (.eZ lW rfl) _) rfl (Wg (.fe (v:= .slice An nn cn) jl rfl e rfl) rfl (Wg (Any.rd (.eZ kN rfl) _) rfl (Wg (.fe (v:= .slice Ad nd cd) jl rfl e rfl) rfl (W.mW rfl rfl rfl rfl rfl rfl ?_)))))
  refine Ef.call Vp rfl rfl (ME z (hn.le b) (hd.le b) (by omega) (by omega)) ?_
  rintro _ A ⟨L,N,rfl,C,D⟩
  refine⟨_,rfl,?_⟩
  refine W.mW rfl rfl rfl rfl rfl rfl (Ef.call WJ rfl rfl (F8 A) ?_)
  rintro _ F ⟨O,P,rfl,H,t⟩
  refine⟨_,rfl,?_⟩
  refine W.mW rfl rfl rfl rfl rfl rfl (Ef.call NF rfl rfl (uX F (C.le t).vec H.vec (by omega) (by omega)) ?_)
  rintro _ Q ⟨rfl,I⟩
  refine⟨_,rfl,?_⟩
  refine Wn 3 rfl (Nx (Rt (E.fu rfl rfl ?_)))
  exact⟨rB (by unfold okB;exact decide_eq_decide.2 ⟨fun h=>⟨c,qN.1 h⟩,fun h=>qN.2 h.2⟩),(((b.trans D).trans t).trans I)⟩
 have c:¬0<q:=fun h=>by have:=sF h;omega
 refine Df s rfl rfl (Wn 10 rfl (Nx (Rt (E.fu rfl rfl ?_))))
 exact⟨rB (by unfold okB;exact(dF (fun h=>c h.1)).symm),b⟩

theorem Cm {An Ad:Option Addr}{nn cn nd cd p q:Nat}(w:World)(hn:Vec w dv 1 An nn (eP p))(hd:Vec w dv 1 Ad nd (eP q))(bn:nn<=10000)(bd:nd<=10000)(hok:okB p q=true):Calls prog 56 #[.agg #[.slice An nn cn,.slice Ad nd cd]] w fun r w'=>r= .returned (.agg #[.slice An nn cn,.slice Ad nd cd])/\Le w w':=by
 have hln:=hn.1;have hld:=hd.1
 refine enter func56 rfl rfl (Sr (W.ef rfl rfl rfl (Ef.iM rfl fun k l v (m:fA l k 37 #[.slice An nn cn,.slice Ad nd cd]) n=>?_)))
 have e:=(Le.refl w).trans n
 refine W.ef rfl rfl rfl (Ef.fI z37 fun f h o (s:fA h f 37 #[.slice none 0 0,.slice none 0 0]) i=>?_)
 have b:=e.trans i
 refine Nx (Sq (Sr ?_))
 have j:=(m.le i)
 refine Wr (.fB gQ (by rfl) rfl j) rfl ?_
 refine W.cl Vj rfl rfl (zg h (hn.le b) (hd.le b) (by omega) (by omega)) ?_
 rintro _ x ⟨rfl,c⟩
 refine Nx (Cy rfl hok (Sr (Wr (.fB gQ (by rfl) rfl (j.le c)) rfl ?_)))
 refine W.sA gV rfl rfl (s.le c) ?_
 intro t d u
 have d:fA t f 37 #[.slice An nn cn,.slice Ad nd cd]:=d
 refine Nx (Rt (E.eX (E.fu rfl (iB rfl d gQ (by rfl)) ?_)))
 exact⟨rfl,((b.trans c).tb u e o)⟩

theorem NW {An Ad:Option Addr}{nn cn nd cd p q:Nat}(w:World)(hn:Vec w dv 1 An nn (eP p))(hd:Vec w dv 1 Ad nd (eP q))(bn:nn<=10000)(bd:nd<=10000)(hok:¬okB p q=true):Calls prog 56 #[.agg #[.slice An nn cn,.slice Ad nd cd]] w fun r w'=>∃A1 c1 A2 c2,r= .returned (.agg #[.slice A1 (eP 0).length c1,.slice A2 (eP 1).length c2])/\eU w' w.heap.size 143 dv 1 A1 (eP 0).length c1 (eP 0)/\eU w' w.heap.size 143 dv 1 A2 (eP 1).length c2 (eP 1)/\Le w w':=by
 have hln:=hn.1;have hld:=hd.1
 refine enter func56 rfl rfl (Sr (W.ef rfl rfl rfl (Ef.iM rfl fun s t H (u:fA t s 37 #[.slice An nn cn,.slice Ad nd cd]) v=>?_)))
 have i:=(Le.refl w).trans v
 refine W.ef rfl rfl rfl (Ef.fI z37 fun j k x (c:fA k j 37 #[.slice none 0 0,.slice none 0 0]) l=>?_)
 have d:=i.trans l
 refine Nx (Sq (Sr (Wr (.fB gQ (by rfl) rfl (u.le l)) rfl ?_)))
 refine W.cl Vj rfl rfl (zg k (hn.le d) (hd.le d) (by omega) (by omega)) ?_
 rintro _ y ⟨rfl,b⟩
 have e:=d.trans b
 refine Nx (Cn rfl (Bool.eq_false_iff.2 hok) (Sn (Sr (W.cl aa9 rfl rfl (Kz y) ?_))))
 rintro _ I ⟨z,A,C,D,rfl,m,n,o⟩
 refine W.sA gV rfl rfl (c.le (b.trans o)) ?_
 intro F f h
 have f:fA F j 37 #[.slice z ((eP 0).length) A,.slice C ((eP 1).length) D]:=f
 refine Nx (Rt (E.fu rfl (iB rfl f gQ (by rfl)) ?_))
 exact⟨_,_,_,_,rfl,((m.cb h (m.rl (by have:=c.lt;have:=b.size;omega))).mono e.size),((n.cb h (n.rl (by have:=c.lt;have:=b.size;omega))).mono e.size),((e.trans o).tb h i x)⟩

theorem xJ {w:World}{base e s m c:Nat}{α:Type}{f:α->List Value}{A:Option Addr}{xs:List α}(h:eU w base e f s A m c xs){g:Nat}(hg:kT A=some g)(hm:0<m):base<=g:=by
  obtain⟨gb,rfl,hb,_⟩:=h.2.lit hm
  injection hg with hg
  subst hg
  exact hb
theorem uZ {b1:Nat}{An Ad:Option Addr}{nn cn nd cd p q:Nat}(w:World)(hn:Vec w dv 1 An nn (eP p))(hd:Vec w dv 1 Ad nd (eP q))(bn:nn<=10000)(bd:nd<=10000)(h1:∀g,kT An=some g->0<nn->g<b1)(h2:∀g,kT Ad=some g->0<nd->g<b1):
    Calls prog 56 #[.agg #[.slice An nn cn,.slice Ad nd cd]] w fun r w'=>∃A1 c1 A2 c2,r= .returned (.agg #[.slice A1 (eP (fE (⟨p,q⟩:Fr)).n).length c1,.slice A2 (eP (fE (⟨p,q⟩:Fr)).d).length c2])/\zx w' b1 w.heap.size A1 (eP (fE (⟨p,q⟩:Fr)).n).length (eP (fE (⟨p,q⟩:Fr)).n)/\zx w' b1 w.heap.size A2 (eP (fE (⟨p,q⟩:Fr)).d).length (eP (fE (⟨p,q⟩:Fr)).d)/\Le w w':=by
  by_cases hok:okB p q=true
  · rw[show fE (⟨p,q⟩:Fr)=⟨p,q⟩from if_pos hok]
    refine(Cm (cn:=cn) (cd:=cd) w hn hd bn bd hok).mono fun r w' ⟨h,hl⟩=>?_
    have hln:=hn.1
    have hld:=hd.1
    subst hln hld
    exact⟨An,cn,Ad,cd,h,⟨hn.le hl,fun g hg hm=> .inl (h1 g hg hm)⟩,⟨hd.le hl,fun g hg hm=> .inl (h2 g hg hm)⟩,hl⟩
  · rw[show fE (⟨p,q⟩:Fr)=⟨0,1⟩from if_neg hok]
    refine(NW (cn:=cn) (cd:=cd) w hn hd bn bd hok).mono fun r w' ⟨A1,c1,A2,c2,h,b,c,hl⟩=>?_
    exact⟨A1,c1,A2,c2,h,⟨b.vec,fun g hg hm=> .inr (xJ b hg hm)⟩,⟨c.vec,fun g hg hm=> .inr (xJ c hg hm)⟩,hl⟩


theorem IW {A Ag:Option Addr}{n c ng cg a g g1:Nat}(w:World)(hb1:fA w g1 35 #[.slice Ag ng cg])(hV:Vec w dv 1 A n (eP a))(hG:Vec w dv 1 Ag ng (eP g))(hg0:0<g)(hn:n<=90000)(hg1:ng<=90000):Calls prog 138 #[.slice A n c,.pointer (some ⟨g1,0,none⟩)] w fun r w'=>∃A c,r= .returned (.slice A (eP (a/g)).length c)/\eU w' w.heap.size 143 dv 1 A (eP (a/g)).length c (eP (a/g))/\Le w w':=by
 have hl:=hV.1;have f:=hG.1
 refine enter func138 rfl rfl ?_
 have b:=Le.refl w
 refine Sr (Wn 1 rfl (Nx (Sr (Wn 1 rfl (Wr (.fe (v:= .slice Ag ng cg) jl rfl (hb1.le b) rfl) rfl (W.cl Qb rfl rfl (wD w (hV.le b) (hG.le b) (by omega) (by omega) (by omega)) ?_))))))
 rintro _ h ⟨i,j,k,l,rfl,d,m,e⟩
 refine Wn 7 rfl (Nx (Sr (Wn 2 rfl (Nx (Rt (E.fu rfl rfl ?_))))))
 exact⟨_,_,rfl,(d.mono b.size),(b.trans e)⟩

theorem MH {A A2:Option Addr}{n c m c2 a b:Nat}(w:World)(hV:Vec w dv 1 A n (eP a))(hW:Vec w dv 1 A2 m (eP b))(hb:0<b)(hn:n<=90000)(hm:m<=90000):Calls prog 77 #[.slice A n c,.slice A2 m c2] w fun r w'=>∃A1 c1 A2 c2,r= .returned (.agg #[.slice A1 (eP (gY a b).n).length c1,.slice A2 (eP (gY a b).d).length c2])/\eU w' w.heap.size 143 dv 1 A1 (eP (gY a b).n).length c1 (eP (gY a b).n)/\eU w' w.heap.size 143 dv 1 A2 (eP (gY a b).d).length c2 (eP (gY a b).d)/\Le w w':=by
 have hl:=hV.1;have aa:=hW.1
 have ab:0<Nat.gcd a b:=Fb hb
 have hgl:=AR (n:=a) hb
 refine enter func77 rfl rfl ?_
 have x:=Le.refl w
 refine Sr (W.ef rfl rfl rfl (Ef.fI z37 fun y z Q (j:fA z y 37 #[.slice none 0 0,.slice none 0 0]) R=>?_))
 have l:=x.trans R
 refine Nx (Sr (Wn 2 rfl (W.cl Vp rfl rfl (ME z (hV.le l) (hW.le l) (by omega) (by omega)) ?_)))
 rintro _ ac ⟨S,T,rfl,C,e⟩
 have D:=l.trans e
 refine W.ef rfl rfl rfl (Ef.alloc z35 fun F U V (X:fA U F 35 #[.slice none 0 0]) f=>(W.iO rfl rfl (Ef.store FK rfl rfl X (by first|decide|(simp;done)) rfl ?_)))
 intro H k h
 have k:fA H F 35 #[.slice S ((eP (Nat.gcd a b)).length) T]:=k
 have o:=(D.trans f).tb h D V
 refine Nx (Sr (Wa (.makeFunc rfl) rfl (Wn 1 rfl (Nx (Sr (Wn 2 rfl ?_))))))
 have I:=((C.le f).cb h (C.rn (by omega)))
 refine W.ef rfl rfl rfl (Ef.xm Vq rfl rfl rfl (IW H k (hV.le o) I.vec (by assumption) (by omega) (by omega)) ?_)
 rintro _ Y ⟨J,K,rfl,L,i⟩
 refine⟨_,rfl,?_⟩
 have s:=o.trans i
 refine Wn 2 rfl (W.ef rfl rfl rfl (Ef.xm Vq rfl rfl rfl (IW Y (k.le i) (hW.le s) (I.le i).vec (by assumption) (by omega) (by omega)) ?_))
 rintro _ ad ⟨N,O,rfl,P,t⟩
 refine⟨_,rfl,?_⟩
 refine Wa (.gF [.slice J ((eP (a/(Nat.gcd a b))).length) K,.slice N ((eP (b/(Nat.gcd a b))).length) O] jY z37 rfl rfl) rfl (W.sA gV rfl rfl (((j.le (e.trans f)).cn h (by have:=j.lt;have:=e.size;omega)).le (i.trans t)) ?_)
 intro Z u v
 have u:fA Z y 37 #[.slice J ((eP (a/(Nat.gcd a b))).length) K,.slice N ((eP (b/(Nat.gcd a b))).length) O]:=u
 refine Nx (Rt (E.fu rfl (iB rfl u gQ (by rfl)) ?_))
 exact⟨_,_,_,_,rfl,(((L.le t).cb v (L.rl (by have:=j.lt;have:=e.size;have:=f.size;have:=h.size;omega))).mono o.size),((P.cb v (P.rl (by have:=j.lt;have:=e.size;have:=f.size;have:=h.size;have:=i.size;omega))).mono s.size),((s.trans t).tb v x Q)⟩

theorem KA (a b:Nat)(w:World)(hb:0<b)(ha:a<18446744073709551616)(hb2:b<18446744073709551616):Calls prog 33 #[.int .u64 ((a:Nat):Int),.int .u64 ((b:Nat):Int)] w fun r w'=>∃A1 c1 A2 c2,r= .returned (.tuple #[.agg #[.slice A1 (eP (gY a b).n).length c1,.slice A2 (eP (gY a b).d).length c2],.bool true])/\eU w' w.heap.size 143 dv 1 A1 (eP (gY a b).n).length c1 (eP (gY a b).n)/\eU w' w.heap.size 143 dv 1 A2 (eP (gY a b).d).length c2 (eP (gY a b).d)/\Le w w':=by
 have hla:=jS 2 (a:=a) ha;have hlb:=jS 2 (a:=b) hb2
 refine enter func33 rfl rfl ?_
 have k:=Le.refl w
 refine Sr (W.ef rfl rfl rfl (Ef.fI z37 fun l m u (f:fA m l 37 #[.slice none 0 0,.slice none 0 0]) v=>(Wn 1 rfl (Nx (Sq (Sr (Wn 1 rfl (Wa (.dec (.eql rfl rfl) (dF (by omega))) rfl (Nx (WC.iD rfl (Sn (Sr (Wn 1 rfl (W.cl Ty rfl rfl (FU a (by omega) m) ?_))))))))))))))
 rintro _ x ⟨J,K,rfl,y,e⟩
 refine Wn 1 rfl (W.cl Ty rfl rfl (FU b (by omega) x) ?_)
 rintro _ z ⟨L,N,rfl,A,c⟩
 have h:=((k.trans v).trans e).trans c
 refine W.cl Yy rfl rfl (MH z (y.le c).vec A.vec (by assumption) (by omega) (by omega)) ?_
 rintro _ O ⟨C,D,F,H,rfl,o,s,t⟩
 refine W.sA gV rfl rfl (f.le (e.trans (c.trans t))) ?_
 intro I i j
 have i:fA I l 37 #[.slice C ((eP ((gY a b).n)).length) D,.slice F ((eP ((gY a b).d)).length) H]:=i
 refine Wn 1 rfl (Nx (Rt (E.jb rfl (iB rfl i gQ (by rfl)) rfl ?_)))
 exact⟨_,_,_,_,rfl,((o.cb j (o.rl (by have:=f.lt;have:=e.size;have:=c.size;omega))).mono h.size),((s.cb j (s.rl (by have:=f.lt;have:=e.size;have:=c.size;omega))).mono h.size),((h.trans t).tb j k u)⟩

theorem NY {uk um:Option Addr}{qz cn1 qA cd1 p1 q1:Nat}{uo uq:Option Addr}{qB cn2 qC cd2 p2 q2:Nat}(w:World)(hn1:Vec w dv 1 uk qz (eP p1))(hd1:Vec w dv 1 um qA (eP q1))(Xg:qz<=10000)(Xh:qA<=10000)(hn2:Vec w dv 1 uo qB (eP p2))(hd2:Vec w dv 1 uq qC (eP q2))(Xi:qB<=10000)(Xj:qC<=10000):Calls prog 97 #[.agg #[.slice uk qz cn1,.slice um qA cd1],.agg #[.slice uo qB cn2,.slice uq qC cd2]] w fun r w'=>∃A1 c1 A2 c2 A3 c3,r= .returned (.tuple #[.slice A1 (eP ((fE ⟨p1,q1⟩).n*(fE ⟨p2,q2⟩).d)).length c1,.slice A2 (eP ((fE ⟨p2,q2⟩).n*(fE ⟨p1,q1⟩).d)).length c2,.slice A3 (eP ((fE ⟨p1,q1⟩).d*(fE ⟨p2,q2⟩).d)).length c3])/\eU w' w.heap.size 143 dv 1 A1 (eP ((fE ⟨p1,q1⟩).n*(fE ⟨p2,q2⟩).d)).length c1 (eP ((fE ⟨p1,q1⟩).n*(fE ⟨p2,q2⟩).d))/\eU w' w.heap.size 143 dv 1 A2 (eP ((fE ⟨p2,q2⟩).n*(fE ⟨p1,q1⟩).d)).length c2 (eP ((fE ⟨p2,q2⟩).n*(fE ⟨p1,q1⟩).d))/\eU w' w.heap.size 143 dv 1 A3 (eP ((fE ⟨p1,q1⟩).d*(fE ⟨p2,q2⟩).d)).length c3 (eP ((fE ⟨p1,q1⟩).d*(fE ⟨p2,q2⟩).d))/\Le w w':=by
 have ax:=hn1.1;have ay:=hd1.1
 have az:=hn2.1;have aA:=hd2.1
 have aB:=gJ (d:=1) (by decide)
 have aC:=qi
 refine enter func97 rfl rfl ?_
 have e:=Le.refl w
 refine Sr (W.ef rfl rfl rfl (Ef.iM rfl fun O ab o (y:fA ab O 37 #[.slice uk qz cn1,.slice um qA cd1]) ac=>?_))
 have f:=e.trans ac
 refine W.ef rfl rfl rfl (Ef.iM rfl fun P ad s (ae:fA ad P 37 #[.slice uo qB cn2,.slice uq qC cd2]) Q=>(Wn 3 rfl (Nx (Sq (WC.draw [0,2,1,3,4,5] mixed (by kernel_rfl) fun w1 z=>?_)))))
 have A:=(f.trans Q).trans z
 have i:=(y.le (Q.trans z))
 refine Gd rfl (.fB gQ (by rfl) rfl i) ?_
 have j:=(ae.le z)
 refine Gd rfl (.fB gQ (by rfl) rfl j) ?_
 refine G.ef rfl rfl rfl rfl rfl (Ef.call PZ rfl rfl (uZ (b1:=w.heap.size) w1 (hn1.le A) (hd1.le A) (by omega) (by omega) (fun g hg hm=>hn1.jc fF hm hg) (fun g hg hm=>hd1.jc fF hm hg)) ?_)
 rintro _ af ⟨R,S,C,D,rfl,ah,ai,b⟩
 refine⟨_,rfl,?_⟩
 refine⟨fun _=>b,?_⟩
 have F:=A.trans b
 refine G.ef rfl rfl rfl rfl rfl (Ef.call PZ rfl rfl (uZ (b1:=w.heap.size) af (hn2.le F) (hd2.le F) (by omega) (by omega) (fun g hg hm=>hn2.jc fF hm hg) (fun g hg hm=>hd2.jc fF hm hg)) ?_)
 rintro _ aE ⟨T,U,H,I,rfl,aj,ak,k⟩
 refine⟨_,rfl,?_⟩
 refine⟨fun _=>k,?_⟩
 refine G.iO rfl rfl rfl rfl (Ef.storeAll gV (by rfl) rfl rfl (i.le (b.trans k)) (by rfl) (by simp[Value.oneCell']) ?_)
 intro al J l
 refine noT (by kernel_rfl) ?_
 have J:fA al O 37 #[.slice R ((eP (fE (⟨p1,q1⟩:Fr)).n).length) S,.slice C ((eP (fE (⟨p1,q1⟩:Fr)).d).length) D]:=J
 have am:=lX ⟨p1,q1⟩;have an:=lX ⟨p2,q2⟩
 simp only at am an
 have ao:=((j.le (b.trans k)).cn l (by have:=y.lt;omega))
 refine G.iO rfl rfl rfl rfl (Ef.storeAll gV (by rfl) rfl rfl ao (by rfl) (by simp[Value.oneCell']) ?_)
 intro ap K m
 refine noT (by kernel_rfl) ?_
 have K:fA ap P 37 #[.slice T ((eP (fE (⟨p2,q2⟩:Fr)).n).length) U,.slice H ((eP (fE (⟨p2,q2⟩:Fr)).d).length) I]:=K
 refine G.nil (E.eY (Sq (WC.draw [0,1,2,3,5,6,7,8,10,11,12,13,4,9,14,15,16,17] mixed (by kernel_rfl) fun w2 c=>?_)))
 have V:=(((F.trans k).tb l e o).tb m f s).trans c
 refine Ga rfl (.eZ lW rfl) ?_
 have L:=((J.cn m (by have:=y.lt;omega)).le c)
 refine Gd rfl (.fe (v:= .slice R ((eP (fE (⟨p1,q1⟩:Fr)).n).length) S) jl rfl L rfl) (Ga rfl (.eZ kN rfl) ?_)
 have N:=(K.le c)
 refine Gd rfl (.fe (v:= .slice H ((eP (fE (⟨p2,q2⟩:Fr)).d).length) I) jl rfl N rfl) (Ga rfl (.eZ lW rfl) (Gd rfl (.fe (v:= .slice T ((eP (fE (⟨p2,q2⟩:Fr)).n).length) U) jl rfl N rfl) (Ga rfl (.eZ kN rfl) (Gd rfl (.fe (v:= .slice C ((eP (fE (⟨p1,q1⟩:Fr)).d).length) D) jl rfl L rfl) (Ga rfl (.eZ kN rfl) ?_)))))
 refine Gd rfl (.fe (v:= .slice C ((eP (fE (⟨p1,q1⟩:Fr)).d).length) D) jl rfl L rfl) (Ga rfl (.eZ kN rfl) (Gd rfl (.fe (v:= .slice H ((eP (fE (⟨p2,q2⟩:Fr)).d).length) I) jl rfl N rfl) ?_))
 have X:=(((ak.ch l (fun q _ _ h=>by have:=i.lt;have:=b.size;have:=e.size;have:=o;omega)).ch m (fun q _ _ h=>by have:=j.lt;have:=b.size;have:=f.size;have:=s;omega)).le c)
 refine G.ef rfl rfl rfl rfl rfl (Ef.call Kh rfl rfl (sw w2 ((((ah.le k).ch l (fun q _ _ h=>by have:=i.lt;have:=e.size;have:=o;omega)).ch m (fun q _ _ h=>by have:=j.lt;have:=f.size;have:=s;omega)).le c).vec X.vec (by omega) (by omega)) ?_)
 rintro _ aq ⟨aF,aG,rfl,ar,t⟩
 refine⟨_,rfl,?_⟩
 refine⟨fun _=>t,?_⟩
 have Y:=V.trans t
 have Z:=((((ai.le k).ch l (fun q _ _ h=>by have:=i.lt;have:=e.size;have:=o;omega)).ch m (fun q _ _ h=>by have:=j.lt;have:=f.size;have:=s;omega)).le (c.trans t))
 refine G.ef rfl rfl rfl rfl rfl (Ef.call Kh rfl rfl (sw aq (((aj.ch l (fun q _ _ h=>by have:=i.lt;have:=b.size;have:=e.size;have:=o;omega)).ch m (fun q _ _ h=>by have:=j.lt;have:=b.size;have:=f.size;have:=s;omega)).le (c.trans t)).vec Z.vec (by omega) (by omega)) ?_)
 rintro _ au ⟨aH,aI,rfl,av,u⟩
 refine⟨_,rfl,?_⟩
 refine⟨fun _=>u,?_⟩
 have aa:=Y.trans u
 refine G.ef rfl rfl rfl rfl rfl (Ef.call Kh rfl rfl (sw au (Z.le u).vec (X.le (t.trans u)).vec (by omega) (by omega)) ?_)
 rintro _ aJ ⟨aK,aL,rfl,aw,x⟩
 refine⟨_,rfl,?_⟩
 refine⟨fun _=>x,?_⟩
 refine Gn 3 rfl (G.nil (E.eY (Rt (E.gU rfl rfl rfl rfl ?_))))
 exact⟨_,_,_,_,_,_,rfl,((ar.le (u.trans x)).mono V.size),((av.le x).mono Y.size),(aw.mono aa.size),(aa.trans x)⟩

theorem F9 {uk um:Option Addr}{qz cn1 qA cd1 p1 q1:Nat}{uo uq:Option Addr}{qB cn2 qC cd2 p2 q2:Nat}(w:World)(hn1:Vec w dv 1 uk qz (eP p1))(hd1:Vec w dv 1 um qA (eP q1))(Xg:qz<=10000)(Xh:qA<=10000)(hn2:Vec w dv 1 uo qB (eP p2))(hd2:Vec w dv 1 uq qC (eP q2))(Xi:qB<=10000)(Xj:qC<=10000):Calls prog 44 #[.agg #[.slice uk qz cn1,.slice um qA cd1],.agg #[.slice uo qB cn2,.slice uq qC cd2]] w fun r w'=>r= .returned (.int .i64 (kQ (fE ⟨p1,q1⟩) (fE ⟨p2,q2⟩)))/\Le w w':=by
 have y:=hn1.1;have z:=hd1.1
 have A:=hn2.1;have C:=hd2.1
 have D:=gJ (d:=1) (by decide)
 have F:=qi
 refine enter func44 rfl rfl (Sr (W.ef rfl rfl rfl (Ef.iM rfl fun f h H (i:fA h f 37 #[.slice uk qz cn1,.slice um qA cd1]) j=>(W.ef rfl rfl rfl (Ef.iM rfl fun k c I (l:fA c k 37 #[.slice uo qB cn2,.slice uq qC cd2]) e=>?_)))))
 have b:=((Le.refl w).trans j).trans e
 refine Wn 1 rfl (Nx (Sr (Wr (.fB gQ (by rfl) rfl (i.le e)) rfl ?_)))
 refine Wr (.fB gQ (by rfl) rfl l) rfl ?_
 refine W.cl abh rfl rfl (NY c (hn1.le b) (hd1.le b) (by omega) (by omega) (hn2.le b) (hd2.le b) (by omega) (by omega)) ?_
 rintro _ m ⟨J,K,L,N,O,P,rfl,o,s,Q,t⟩
 have R:=iR (fE (⟨p1,q1⟩:Fr)).n (fE (⟨p2,q2⟩:Fr)).d;have S:=iR (fE (⟨p2,q2⟩:Fr)).n (fE (⟨p1,q1⟩:Fr)).d;have u:=lX (⟨p1,q1⟩:Fr);have v:=lX (⟨p2,q2⟩:Fr)
 simp only at u v
 refine Wn 7 rfl (Nx (Sr (Wn 2 rfl (W.cl NF rfl rfl (uX m o.vec s.vec (by omega) (by omega)) ?_))))
 rintro _ T ⟨rfl,x⟩
 refine Wn 1 rfl (Nx (Rt (E.fu rfl rfl ?_)))
 exact⟨rfl,((b.trans t).trans x)⟩

theorem yI {uk um:Option Addr}{qz cn1 qA cd1 p1 q1:Nat}{uo uq:Option Addr}{qB cn2 qC cd2 p2 q2:Nat}(w:World)(hn1:Vec w dv 1 uk qz (eP p1))(hd1:Vec w dv 1 um qA (eP q1))(Xg:qz<=10000)(Xh:qA<=10000)(hn2:Vec w dv 1 uo qB (eP p2))(hd2:Vec w dv 1 uq qC (eP q2))(Xi:qB<=10000)(Xj:qC<=10000):Calls prog 37 #[.agg #[.slice uk qz cn1,.slice um qA cd1],.agg #[.slice uo qB cn2,.slice uq qC cd2]] w fun r w'=>∃A1 c1 A2 c2,r= .returned (.agg #[.slice A1 (eP (jW (fE ⟨p1,q1⟩) (fE ⟨p2,q2⟩)).n).length c1,.slice A2 (eP (jW (fE ⟨p1,q1⟩) (fE ⟨p2,q2⟩)).d).length c2])/\eU w' w.heap.size 143 dv 1 A1 (eP (jW (fE ⟨p1,q1⟩) (fE ⟨p2,q2⟩)).n).length c1 (eP (jW (fE ⟨p1,q1⟩) (fE ⟨p2,q2⟩)).n)/\eU w' w.heap.size 143 dv 1 A2 (eP (jW (fE ⟨p1,q1⟩) (fE ⟨p2,q2⟩)).d).length c2 (eP (jW (fE ⟨p1,q1⟩) (fE ⟨p2,q2⟩)).d)/\Le w w':=by
 have aL:=hn1.1;have aM:=hd1.1
 have aO:=hn2.1;have aP:=hd2.1
 have aQ:=gJ (d:=1) (by decide)
 have aR:=qi
 have ah:=(pG ⟨p1,q1⟩).1;have ai:=(pG ⟨p2,q2⟩).1
 have hdp:=Nat.mul_pos ah ai
 refine enter func37 rfl rfl ?_
 have k:=Le.refl w
 refine Sr (W.ef rfl rfl rfl (Ef.iM rfl fun O aj u (y:fA aj O 37 #[.slice uk qz cn1,.slice um qA cd1]) ak=>?_))
 have l:=k.trans ak
 refine W.ef rfl rfl rfl (Ef.iM rfl fun P al x (Q:fA al P 37 #[.slice uo qB cn2,.slice uq qC cd2]) z=>?_)
 have R:=l.trans z
 refine W.ef rfl rfl rfl (Ef.fI z37 fun S am an (A:fA am S 37 #[.slice none 0 0,.slice none 0 0]) C=>(Nx (Sq (WC.draw [0,2,1,3,4,5] mixed (by kernel_rfl) fun w1 m=>?_))))
 have D:=(R.trans C).trans m
 have o:=(y.le (z.trans (C.trans m)))
 refine Gd rfl (.fB gQ (by rfl) rfl o) ?_
 have s:=(Q.le (C.trans m))
 refine Gd rfl (.fB gQ (by rfl) rfl s) ?_
 refine G.ef rfl rfl rfl rfl rfl (Ef.call PZ rfl rfl (uZ (b1:=w.heap.size) w1 (hn1.le D) (hd1.le D) (by omega) (by omega) (fun g hg hm=>hn1.jc fF hm hg) (fun g hg hm=>hd1.jc fF hm hg)) ?_)
 rintro _ ao ⟨T,U,V,X,rfl,ap,aq,b⟩
 refine⟨_,rfl,?_⟩
 refine⟨fun _=>b,?_⟩
 have F:=D.trans b
 refine G.ef rfl rfl rfl rfl rfl (Ef.call PZ rfl rfl (uZ (b1:=w.heap.size) ao (hn2.le F) (hd2.le F) (by omega) (by omega) (fun g hg hm=>hn2.jc fF hm hg) (fun g hg hm=>hd2.jc fF hm hg)) ?_)
 rintro _ aS ⟨Y,Z,aa,ab,rfl,ar,au,e⟩
 refine⟨_,rfl,?_⟩
 refine⟨fun _=>e,?_⟩
 refine G.iO rfl rfl rfl rfl (Ef.storeAll gV (by rfl) rfl rfl (o.le (b.trans e)) (by rfl) (by simp[Value.oneCell']) ?_)
 intro av H f
 refine noT (by kernel_rfl) ?_
 have H:fA av O 37 #[.slice T ((eP (fE (⟨p1,q1⟩:Fr)).n).length) U,.slice V ((eP (fE (⟨p1,q1⟩:Fr)).d).length) X]:=H
 have aw:=((s.le (b.trans e)).cn f (by have:=y.lt;omega))
 refine G.iO rfl rfl rfl rfl (Ef.storeAll gV (by rfl) rfl rfl aw (by rfl) (by simp[Value.oneCell']) ?_)
 intro ax I i
 refine noT (by kernel_rfl) ?_
 have I:fA ax P 37 #[.slice Y ((eP (fE (⟨p2,q2⟩:Fr)).n).length) Z,.slice aa ((eP (fE (⟨p2,q2⟩:Fr)).d).length) ab]:=I
 refine G.nil (E.eY (Sq (WC.draw [0,1,2,3,5,6,7,8,4,9,10,11] mixed (by kernel_rfl) fun w2 c=>(Ga rfl (.eZ lW rfl) ?_))))
 have ac:=((H.cn i (by have:=y.lt;omega)).le c)
 refine Gd rfl (.fe (v:= .slice T ((eP (fE (⟨p1,q1⟩:Fr)).n).length) U) jl rfl ac rfl) (Ga rfl (.eZ lW rfl) ?_)
 have ad:=(I.le c)
 refine Gd rfl (.fe (v:= .slice Y ((eP (fE (⟨p2,q2⟩:Fr)).n).length) Z) jl rfl ad rfl) (Ga rfl (.eZ kN rfl) (Gd rfl (.fe (v:= .slice V ((eP (fE (⟨p1,q1⟩:Fr)).d).length) X) jl rfl ac rfl) (Ga rfl (.eZ kN rfl) (Gd rfl (.fe (v:= .slice aa ((eP (fE (⟨p2,q2⟩:Fr)).d).length) ab) jl rfl ad rfl) ?_))))
 have aT:=iR (fE ⟨p1,q1⟩).n (fE ⟨p2,q2⟩).n;have aU:=iR (fE ⟨p1,q1⟩).d (fE ⟨p2,q2⟩).d;have ay:=lX ⟨p1,q1⟩;have az:=lX ⟨p2,q2⟩
 simp only at ay az
 refine G.ef rfl rfl rfl rfl rfl (Ef.call Kh rfl rfl (sw w2 ((((ap.le e).ch f (fun q _ _ h=>by have:=o.lt;have:=k.size;have:=u;omega)).ch i (fun q _ _ h=>by have:=s.lt;have:=l.size;have:=x;omega)).le c).vec (((ar.ch f (fun q _ _ h=>by have:=o.lt;have:=b.size;have:=k.size;have:=u;omega)).ch i (fun q _ _ h=>by have:=s.lt;have:=b.size;have:=l.size;have:=x;omega)).le c).vec (by omega) (by omega)) ?_)
 rintro _ aA ⟨aV,aW,rfl,aB,j⟩
 refine⟨_,rfl,?_⟩
 refine⟨fun _=>j,?_⟩
 refine G.ef rfl rfl rfl rfl rfl (Ef.call Kh rfl rfl (sw aA ((((aq.le e).ch f (fun q _ _ h=>by have:=o.lt;have:=k.size;have:=u;omega)).ch i (fun q _ _ h=>by have:=s.lt;have:=l.size;have:=x;omega)).le (c.trans j)).vec (((au.ch f (fun q _ _ h=>by have:=o.lt;have:=b.size;have:=k.size;have:=u;omega)).ch i (fun q _ _ h=>by have:=s.lt;have:=b.size;have:=l.size;have:=x;omega)).le (c.trans j)).vec (by omega) (by omega)) ?_)
 rintro _ aC ⟨aX,aY,rfl,aE,t⟩
 refine⟨_,rfl,?_⟩
 refine⟨fun _=>t,?_⟩
 have J:=(((((F.trans e).tb f k u).tb i l x).trans c).trans j).trans t
 refine G.ef rfl rfl rfl rfl rfl (Ef.call Yy rfl rfl (MH aC (aB.le t).vec aE.vec hdp (by omega) (by omega)) ?_)
 rintro _ aZ ⟨aF,aG,aH,aI,rfl,ae,af,K⟩
 refine⟨_,rfl,?_⟩
 refine⟨fun _=>K,?_⟩
 have aJ:=((((A.le (m.trans (b.trans e))).cn f (by have:=y.lt;have:=z.size;omega)).cn i (by have:=Q.lt;omega)).le (c.trans (j.trans (t.trans K))))
 refine G.iO rfl rfl rfl rfl (Ef.storeAll gV (by rfl) rfl rfl aJ (by rfl) (by simp[Value.oneCell']) ?_)
 intro aK L N
 refine noT (by kernel_rfl) ?_
 have L:fA aK S 37 #[.slice aF ((eP ((gY (((fE (⟨p1,q1⟩:Fr)).n)*((fE (⟨p2,q2⟩:Fr)).n)) (((fE (⟨p1,q1⟩:Fr)).d)*((fE (⟨p2,q2⟩:Fr)).d))).n)).length) aG,.slice aH ((eP ((gY (((fE (⟨p1,q1⟩:Fr)).n)*((fE (⟨p2,q2⟩:Fr)).n)) (((fE (⟨p1,q1⟩:Fr)).d)*((fE (⟨p2,q2⟩:Fr)).d))).d)).length) aI]:=L
 refine G.nil (E.eY (Rt (E.fu rfl (iB rfl L gQ (by rfl)) ?_)))
 exact⟨_,_,_,_,rfl,((ae.cb N (ae.rl (by have:=A.lt;have:=m.size;have:=b.size;have:=e.size;have:=f.size;have:=i.size;have:=c.size;have:=j.size;have:=t.size;omega))).mono J.size),((af.cb N (af.rl (by have:=A.lt;have:=m.size;have:=b.size;have:=e.size;have:=f.size;have:=i.size;have:=c.size;have:=j.size;have:=t.size;omega))).mono J.size),((J.trans K).tb N R an)⟩
end Go.Proofs.YtkaedikifgpkeaaGreatDoor

namespace Go.Proofs.YtkaedikifgpkeaaGreatDoor
open Tryz
open Go Go.Sx Go.Num Go.fO Go.oF Go.uI
set_option maxRecDepth 20000
def sZ (k:Wy):List Value:=[.int .i64 k.f,.int .i64 k.c]
theorem AU:lg sZ 2:=⟨fun _=>rfl,fun x v hv=>by simp[sZ]at hv;rcases hv with rfl|rfl<;>rfl,by decide⟩
def rG (n:Nt):List Value:=[.int .i64 n.lo,.int .i64 n.hi,.int .i64 n.rm]
theorem jE:lg rG 3:=⟨fun _=>rfl,fun x v hv=>by simp[rG]at hv;rcases hv with rfl|rfl|rfl<;>rfl,by decide⟩
def zh (k:Wy):Value:= .agg (sZ k).toArray
def IX (n:Nt):Value:= .agg (rG n).toArray
abbrev Un:=List (Nat×Wy×Nt)
theorem Uo {d:Nat}(a b:Wy):vM prog (d+2) 112 (.agg (sZ a).toArray) (.agg (sZ b).toArray) (decide (a=b)):=by
  have h:=vM.ints (P:=prog) (d:=d) (t:=112) (sZ a) (sZ b) [(.i64,0),(.i64,1)] (by kernel_rfl) (by kernel_rfl) (by
    rw[show(prog.fieldsOf 112)=_ from(by unfold Program.fieldsOf;rw[underlying112])]
    exact⟨by decide,rfl,underlying3,⟨_,_,rfl,rfl⟩,by decide,rfl,underlying3,⟨_,_,rfl,rfl⟩,trivial⟩)
  have e:xw (sZ a) (sZ b) [(.i64,0),(.i64,1)]=decide (a=b):=by
    obtain⟨c,f⟩:=a
    obtain⟨i,j⟩:=b
    simp only[xw,sZ,List.getElem?_cons_zero,List.getElem?_cons_succ]
    rw[Bool.eq_iff_iff]
    simp only[Bool.and_eq_true,decide_eq_true_eq,Bool.and_true,Wy.mk.injEq]
  rw[e]at h
  exact h
theorem QY (b:Bool)(k:Wy)(w:World):∀m:Nat,(Instr.checkKey b (m+2) 112 (zh k)).run prog w= .ok () w:=by
  intro m
  have hi:∀(v:Int) (w:World),(Instr.checkKey b (m+1) 3 (.int .i64 v)).run prog w= .ok () w:=fun v w=>by unfold Instr.checkKey;simp[run_underlying underlying3]
  have d:∀w:World,(part 3 (sZ k).toArray 0).run prog w= .ok (.int .i64 k.f) w:=jA gM rfl
  have e:∀w:World,(part 3 (sZ k).toArray 1).run prog w= .ok (.int .i64 k.c) w:=jA gM rfl
  unfold Instr.checkKey
  simp only[Sem.run_bind,run_underlying underlying112,Result.andThen_ok,zh]
  simp[d,e,hi]
theorem OH:BO prog 112 zh:=BO.struct underlying112 (fun b k w=>QY b k w 9998) (fun k=>⟨_,rfl⟩) (fun a b=>Uo (d:=9998) a b)
theorem xK {k:Wy}{P:Program}(w:World):(Instr.keyThatStays (zh k) (zh k)).run P w= .ok (zh k) w:=by
  have:Instr.sameBits 10000 (zh k) (zh k)=true:=by simp[zh,sZ,Instr.sameBits]
  unfold Instr.keyThatStays
  rw[if_pos this]
  rfl
theorem MI (n:Int)(w:World):Calls prog 125 #[.int .i64 (n)] w fun r w'=>r= .returned (.bool (tu n))/\Le w w':=by
 refine enter func125 rfl rfl ?_
 have c:=Le.refl w
 refine Sr (Wn 1 rfl (Nx (Sr (Wn 2 rfl ?_))))
 by_cases b:0<=n
 ·refine Dt b rfl rfl (Wn 4 rfl (Nx (Rt (E.fu rfl rfl ?_))))
  exact⟨rB (by simp[tu,b]),c⟩
 refine Df b rfl rfl (Wn 4 rfl (Nx (Rt (E.fu rfl rfl ?_))))
 exact⟨rB (by simp[tu,b]),c⟩

theorem Gb (e:fO.Edge)(w:World):Calls prog 60 #[.agg (fD e).toArray] w fun r w'=>r= .returned (.bool (lS e))/\Le w w':=by
 refine enter func60 rfl rfl (Sr (W.ef rfl rfl rfl (Ef.iM rfl fun z n D (o:fA n z 66 (fD e).toArray) A=>(Wn 1 rfl (Nx (Sr (Wn 1 rfl (Nx (Sr (Wn 1 rfl (Wa (.eZ iX rfl) rfl (Wr (.fe (v:= .int .i64 e.f) gM rfl o rfl) rfl ?_))))))))))))
 refine W.cl Vk rfl rfl (MI e.f n) ?_
 rintro _ C ⟨rfl,s⟩
 have u:=((Le.refl w).trans A).trans s
 by_cases b:(tu e.f)=true
 ·refine Wa (.dec (.move rfl) b) rfl (Wn 1 rfl (Wg (Any.rd (.eZ jK rfl) _) rfl ?_))
  have x:=(o.le s)
  refine Wg (.fe (v:= .int .i64 e.t) gM rfl x rfl) rfl (W.mW rfl rfl rfl rfl rfl rfl (Ef.call Vk rfl rfl (MI e.t C) ?_))
  rintro _ F ⟨rfl,y⟩
  refine⟨_,rfl,?_⟩
  have i:=u.trans y
  refine Wn 1 rfl ?_
  by_cases d:(tu e.t)=true
  ·refine Wa (.dec (.move rfl) d) rfl (Wg (Any.rd (.eZ iX rfl) _) rfl ?_)
   have j:=(x.le y)
   refine Wg (.fe (v:= .int .i64 e.f) gM rfl j rfl) rfl (Wg (Any.rd (.eZ jK rfl) _) rfl (Wg (.fe (v:= .int .i64 e.t) gM rfl j rfl) rfl (Wn 2 rfl ?_)))
   by_cases h:e.f≠e.t
   ·refine Dt h rfl rfl (Wg (Any.rd (.eZ iY rfl) _) rfl (Wg (.fe (v:= .int .i64 e.c) gM rfl j rfl) rfl (Wn 2 rfl ?_)))
    by_cases k:0<=e.c
    ·refine Dt k rfl rfl (Wg (Any.rd (.eZ iY rfl) _) rfl (Wg (.fe (v:= .int .i64 e.c) gM rfl j rfl) rfl (Wn 2 rfl ?_)))
     by_cases l:e.c<1048576
     ·refine Dt l rfl rfl (Wg (Any.rd (.eZ iF rfl) _) rfl (Wg (.fe (v:= .int .i64 e.r) gM rfl j rfl) rfl (Wn 2 rfl ?_)))
      by_cases m:0<e.r
      ·refine Dt m rfl rfl (Wg (Any.rd (.eZ iF rfl) _) rfl (Wg (.fe (v:= .int .i64 e.r) gM rfl j rfl) rfl (Wn 3 rfl (Nx (Rt (E.fu rfl rfl ?_))))))
       exact⟨rB (by simp[lS,b,d,h,k,l,m]),i⟩
      refine Df m rfl rfl (Wn 5 rfl (Nx (Rt (E.fu rfl rfl ?_))))
      exact⟨rB (by simp[lS,b,d,h,k,l,m]),i⟩
     refine Df l rfl rfl (Wn 10 rfl (Nx (Rt (E.fu rfl rfl ?_))))
     exact⟨rB (by simp[lS,b,d,h,k,l]),i⟩
    refine Df k rfl rfl (Wn 15 rfl (Nx (Rt (E.fu rfl rfl ?_))))
    exact⟨rB (by simp[lS,b,d,h,k]),i⟩
   refine Df h rfl rfl (Wn 20 rfl (Nx (Rt (E.fu rfl rfl ?_))))
   exact⟨rB (by simp[lS,b,d,h]),i⟩
  refine Wa (.dec (.move rfl) (Bool.eq_false_iff.2 d)) rfl (Wn 27 rfl (Nx (Rt (E.fu rfl rfl ?_))))
  exact⟨rB (by simp[lS,b,d]),i⟩
 refine Wa (.dec (.move rfl) (Bool.eq_false_iff.2 b)) rfl (Wn 33 rfl (Nx (Rt (E.fu rfl rfl ?_))))
 exact⟨rB (by simp[lS,b]),u⟩

theorem Co (e:fO.Edge)(a:Int)(w:World):Calls prog 63 #[.agg (fD e).toArray,.int .i64 (a)] w fun r w'=>r= .returned (.bool (jJ e a))/\Le w w':=by
 refine enter func63 rfl rfl (Sr (W.ef rfl rfl rfl (Ef.iM rfl fun j f l (h:fA f j 66 (fD e).toArray) k=>(Wn 1 rfl (Nx (Sr (Wr (.fB iJ (by rfl) rfl h) rfl ?_)))))))
 refine W.cl WL rfl rfl (Gb e f) ?_
 rintro _ m ⟨rfl,i⟩
 have d:=((Le.refl w).trans k).trans i
 by_cases b:(lS e)=true
 ·refine Wa (.dec (.move rfl) b) rfl (Wn 3 rfl ?_)
  by_cases c:0<a
  ·refine Dt c rfl rfl (Wn 1 rfl (Wg (Any.rd (.eZ iF rfl) _) rfl (Wg (.fe (v:= .int .i64 e.r) gM rfl (h.le i) rfl) rfl (Wn 3 rfl (Nx (Rt (E.fu rfl rfl ?_)))))))
   exact⟨rB (by simp[jJ,b,c]),d⟩
  refine Df c rfl rfl (Wn 6 rfl (Nx (Rt (E.fu rfl rfl ?_))))
  exact⟨rB (by simp[jJ,b,c]),d⟩
 refine Wa (.dec (.move rfl) (Bool.eq_false_iff.2 b)) rfl (Wn 10 rfl (Nx (Rt (E.fu rfl rfl ?_))))
 exact⟨rB (by simp[jJ,b]),d⟩

theorem oq (e:fO.Edge)(w:World):Calls prog 62 #[.agg (fD e).toArray] w fun r w'=>r= .returned (.agg (sZ (iC e)).toArray)/\Le w w':=by
 refine enter func62 rfl rfl (Sr (W.ef rfl rfl rfl (Ef.iM rfl fun k l y (m:fA l k 66 (fD e).toArray) n=>?_)))
 have d:=(Le.refl w).trans n
 refine W.ef rfl rfl rfl (Ef.fI Tt fun h o s (t:fA o h 112 (sZ XC).toArray) i=>(Nx (Sr (Wa (.eZ iX rfl) rfl ?_))))
 have j:=(m.le i)
 refine Wr (.fe (v:= .int .i64 e.f) gM rfl j rfl) rfl (Wa (.eZ iY rfl) rfl (Wr (.fe (v:= .int .i64 e.c) gM rfl j rfl) rfl (Wa (.gF (sZ (⟨e.f,e.c⟩:Wy)) VM Tt rfl rfl) rfl (W.iO rfl rfl (Ef.storeAll PS (by rfl) rfl rfl t (by simp only[List.size_toArray,AU.len]) (AU.one (⟨e.f,e.c⟩:Wy)) ?_)))))
 intro u b x
 have b:fA u h 112 (sZ (⟨e.f,e.c⟩:Wy)).toArray:=b
 refine Nx (Rt (E.fu rfl (iB rfl b PT (by rfl)) ?_))
 exact⟨rfl,((d.trans i).tb x d s)⟩

theorem Cq {gp gm ca:Nat}{la:Un}(k:Wy)(rm:Int)(w:World)(hp:fA w gp 102 #[.map (some gm)])(hM:kM w zh IX gm la ca)(hg:∀k v,gB k la=some v->j3 v)(h0:0<rm)(h1:rm<=1125899906842624):Calls prog 61 #[.pointer (some ⟨gp,0,none⟩),.agg (sZ k).toArray,.int .i64 (rm)] w fun r w'=>r= .returned (.agg (rG (cnt (gB k la) rm)).toArray)/\Le w w':=by
 refine enter func61 rfl rfl (Sr (W.ef rfl rfl rfl (Ef.iM rfl fun J K aj (L:fA K J 112 (sZ k).toArray) N=>?_)))
 have m:=(Le.refl w).trans N
 refine W.ef rfl rfl rfl (Ef.fI z109 fun n O z (e:fA O n 109 (rG DJ).toArray) A=>(Nx (Sq (WC.draw [0,1,2,3,4,5,6,7,8,9,10,11] mixed (by kernel_rfl) fun w1 d=>?_))))
 have c:=(m.trans A).trans d
 refine Gn 1 rfl (Ga rfl (.nilCheck rfl) (Ga rfl (.eZ su rfl) (Gd rfl (.fe (v:= .map (some gm)) BP rfl (hp.le c) rfl) (Gd rfl (.fB PT (by rfl) rfl (L.le (A.trans d))) ?_))))
 rcases optG (gB k la)with f|⟨b,f⟩
 ·refine Gd rfl (.as (.LU (key:=k) underlying100 OH z109 rfl rfl (hM.le c)) (by rw[f]<;>rfl)) ?_
  refine Gn 1 rfl (Ga rfl (.extract (v:= .agg (rG DJ).toArray) rfl rfl) (Gn 1 rfl (G.ef rfl rfl rfl rfl rfl (Ef.fI z109 fun P Q R (S:fA Q P 109 (rG DJ).toArray) o=>⟨fun _=>o,?_⟩))))
  refine G.iO rfl rfl rfl rfl (Ef.storeAll vQ (by rfl) rfl rfl S (by simp only[List.size_toArray,jE.len]) (jE.one DJ) ?_)
  intro ak al C
  refine noT (by kernel_rfl) (Gn 1 rfl (G.nil (E.eY (Sq (Sr (Wn 2 rfl (Nx (WC.gL rfl (Sr (Wn 1 rfl (Wa (.add rfl rfl (by omega)) rfl (Wn 1 rfl (Wa (.gF (rG (⟨0,(rm+1),rm⟩:Nt)) Es z109 rfl rfl) rfl ?_)))))))))))))
  have T:=((e.le (d.trans o)).cn C (by have:=e.lt;have:=d.size;omega))
  refine W.iO rfl rfl (Ef.storeAll vQ (by rfl) rfl rfl T (by simp only[List.size_toArray,jE.len]) (jE.one (⟨0,(rm+1),rm⟩:Nt)) ?_)
  intro U s V
  have s:fA U n 109 (rG (⟨0,(rm+1),rm⟩:Nt)).toArray:=s
  have X:=((c.trans o).tb C c R).tb V m z
  refine Nx (Rt (E.eX (E.fu rfl (iB rfl s PR (by rfl)) ?_)))
  exact⟨by rw[f];rfl,X⟩
 have hok:=hg _ _ f
 unfold j3 at hok
 refine Gd rfl (.as (.LU (key:=k) underlying100 OH z109 rfl rfl (hM.le c)) (by rw[f]<;>rfl)) ?_
 refine Gn 1 rfl (Ga rfl (.extract (v:= .agg (rG b).toArray) rfl rfl) (Gn 1 rfl (G.ef rfl rfl rfl rfl rfl (Ef.fI z109 fun h Y j (Z:fA Y h 109 (rG DJ).toArray) t=>⟨fun _=>t,?_⟩))))
 refine G.iO rfl rfl rfl rfl (Ef.storeAll vQ (by rfl) rfl rfl Z (by simp only[List.size_toArray,jE.len]) (jE.one b) ?_)
 intro aa l D
 refine noT (by kernel_rfl) ?_
 have l:fA aa h 109 (rG b).toArray:=l
 refine Gn 1 rfl (G.nil (E.eY (Sq (Sr (Wn 2 rfl (Nx (WC.iD rfl (Sn (Sr (Wa (.eZ pE rfl) rfl (Wr (.fe (v:= .int .i64 b.lo) gM rfl l rfl) rfl (Wn 1 rfl (Wr (.min2 rfl rfl) rfl (Wn 1 rfl ?_))))))))))))))
 refine Wa (.eZ pE rfl) rfl (W.iO rfl rfl (Ef.store kR rfl rfl l (by first|decide|(simp;done)|simp[jE.len]) rfl ?_))
 intro ab u F
 have u:fA ab h 109 (rG ({b with lo:=(min b.lo rm)})).toArray:=u
 refine Wa (.eZ TE rfl) rfl (W.iO rfl rfl (Ef.store kR rfl rfl u (by first|decide|(simp;done)|simp[jE.len]) rfl ?_))
 intro ac i H
 have i:fA ac h 109 (rG ({{b with lo:=(min b.lo rm)}with rm:=rm})).toArray:=i
 refine Nx (Sr (Wa (.eZ qK rfl) rfl (Wr (.fe (v:= .int .i64 (({{b with lo:=(min b.lo rm)}with rm:=rm}).hi)) gM rfl i rfl) rfl (Wn 1 rfl (Wa (.add rfl rfl (by omega)) rfl (Wr (.min2 rfl rfl) rfl ?_))))))
 refine Wa (.eZ pE rfl) rfl (Wr (.fe (v:= .int .i64 (({{b with lo:=(min b.lo rm)}with rm:=rm}).lo)) gM rfl i rfl) rfl (Wa (.add rfl rfl (by dsimp only;omega)) rfl ?_))
 refine Wr (.max2 rfl rfl) rfl (Wa (.eZ qK rfl) rfl (W.iO rfl rfl (Ef.store kR rfl rfl i (by first|decide|(simp;done)|simp[jE.len]) rfl ?_)))
 intro ad x I
 have x:fA ad h 109 (rG ({{{b with lo:=(min b.lo rm)}with rm:=rm}with hi:=(max (min (({{b with lo:=(min b.lo rm)}with rm:=rm}).hi) (rm+1)) ((({{b with lo:=(min b.lo rm)}with rm:=rm}).lo)+1))})).toArray:=x
 refine Nx (Sr (Wr (.fB PR (by rfl) rfl x) rfl ?_))
 have ae:=(((((e.le (d.trans t)).cn D (by have:=e.lt;have:=d.size;omega)).cn F (by have:=e.lt;have:=d.size;omega)).cn H (by have:=e.lt;have:=d.size;omega)).cn I (by have:=e.lt;have:=d.size;omega))
 refine W.iO rfl rfl (Ef.storeAll vQ (by rfl) rfl rfl ae (by simp only[List.size_toArray,jE.len]) (jE.one ({{{b with lo:=(min b.lo rm)}with rm:=rm}with hi:=(max (min (({{b with lo:=(min b.lo rm)}with rm:=rm}).hi) (rm+1)) ((({{b with lo:=(min b.lo rm)}with rm:=rm}).lo)+1))})) ?_)
 intro af y ah
 have y:fA af n 109 (rG ({{{b with lo:=(min b.lo rm)}with rm:=rm}with hi:=(max (min (({{b with lo:=(min b.lo rm)}with rm:=rm}).hi) (rm+1)) ((({{b with lo:=(min b.lo rm)}with rm:=rm}).lo)+1))})).toArray:=y
 have ai:=(((((c.trans t).tb D c j).tb F c j).tb H c j).tb I c j).tb ah m z
 refine Nx (Rt (E.fu rfl (iB rfl y PR (by rfl)) ?_))
 exact⟨by rw[f];rfl,ai⟩

theorem MJ {gp gm ca:Nat}{la:Un}(e:fO.Edge)(w:World)(hp:fA w gp 102 #[.map (some gm)])(hM:kM w zh IX gm la ca)(hg:∀k v,gB k la=some v->j3 v):Calls prog 25 #[.pointer (some ⟨gp,0,none⟩),.agg (fD e).toArray] w fun r w'=>r= .returned (.tuple #[.int .i64 (mK (fun k=>gB k la) e).1,.int .i64 (mK (fun k=>gB k la) e).2])/\Le w w':=by
 refine enter func25 rfl rfl (Sr (W.ef rfl rfl rfl (Ef.iM rfl fun J t T (u:fA t J 66 (fD e).toArray) K=>(Wn 2 rfl (Nx (Sq (Sr (Wr (.fB iJ (by rfl) rfl u) rfl ?_))))))))
 refine W.cl WL rfl rfl (Gb e t) ?_
 rintro _ U ⟨rfl,x⟩
 have y:=((Le.refl w).trans K).trans x
 refine Wn 1 rfl (Nx ?_)
 by_cases c:(lS e)=true
 ·refine Cn rfl (congrArg not c) ?_
  have ZI:=lv (by assumption:lS e=true)
  refine Sn (Sq (WC.Hz [0,1,3,4] [2,5,6] [7] (fun i=>bif Nat.beq i 5 then[2]else[]) mixed (by kernel_rfl) fun L z=>?_))
  have h:=y.trans z
  refine Gn 1 rfl ?_
  have A:=(u.le (x.trans z))
  refine Gd rfl (.fB iJ (by rfl) rfl A) ?_
  refine Ga rfl (.eZ iF rfl) (Gd rfl (.fe (v:= .int .i64 e.r) gM rfl A rfl) (G.nil (E.Hy ⟨by rfl,fun iU=>(bif Nat.beq iU 2 then(fun v w'=>v= .agg (sZ (iC e)).toArray)else(bif Nat.beq iU 5 then(fun v w'=>v= .agg (rG (cnt (gB (iC e) la) e.r)).toArray)else(bif Nat.beq iU 6 then(fun v w'=>∃b,v= .pointer (some ⟨b,0,none⟩)/\fA w' b 109 (rG DJ).toArray)else(fun _ _=>True)))),?_,?_,?_⟩)))
  ·intro iU hi v d l hv hle
   simp only[List.mem_cons,List.not_mem_nil,or_false]at hi
   rcases hi with rfl|rfl|rfl
   ·exact hv
   ·exact hv
   obtain⟨b,hvv,m⟩:=hv;exact⟨b,hvv,m.le hle⟩
  ·intro iU hi
   simp only[List.mem_cons,List.not_mem_nil,or_false]at hi
   rcases hi with rfl|rfl|rfl
   ·refine .inl ⟨rfl,Step.JN rfl rfl ?_⟩
    intro d hle
    refine Ef.call Kg rfl rfl (oq e d) ?_
    rintro _ l ⟨rfl,f⟩
    refine⟨_,rfl,?_⟩
    exact⟨f,rfl,fun k hk=>hk.elim⟩
   ·refine .inl ⟨rfl,Step.Ta (j:=2) rfl rfl rfl ?_⟩
    intro N d hle o
    have C:=h.trans hle
    have o:N= .agg (sZ (iC e)).toArray:=o
    subst o
    refine Ef.call P5 rfl rfl (Cq (iC e) e.r d (hp.le C) (hM.le C) hg (by omega) (by omega)) ?_
    rintro _ l ⟨rfl,f⟩
    refine⟨_,rfl,?_⟩
    have hof:=yt (fun n hn=>hg (iC e) n hn) (show 0<e.r by omega) (show e.r<=1125899906842624 by omega)
    unfold j3 at hof
    exact⟨f,rfl,fun k hk=>hk.elim⟩
   refine .inl ⟨rfl,Step.JN rfl rfl ?_⟩
   intro d hle
   refine Ef.fI z109 fun b l hg D f=>?_
   exact⟨f,⟨_,rfl,D⟩,fun k hk=>(show b=k from hk)▸⟨hg,D.lt⟩⟩
  intro ZJ W_3 h_3 KC Uq abF
  have O:ZJ 2= .agg (sZ (iC e)).toArray:=KC 2 (by decide)
  have P:ZJ 5= .agg (rG (cnt (gB (iC e) la) e.r)).toArray:=KC 5 (by decide)
  obtain⟨b,F,m⟩:=KC 6 (by decide)
  have Q:L.heap.size<=b:=(Uq 6 (by decide) b (by rw[F];rfl)).1
  show G _ _ _ _ _ ((12,ZJ 2)::(15,ZJ 5)::(6,ZJ 6)::_) _
  rw[O,P,F]
  refine G.iO rfl rfl rfl rfl (Ef.storeAll vQ (by rfl) rfl rfl m (by simp only[List.size_toArray,jE.len]) (jE.one (cnt (gB (iC e) la) e.r)) ?_)
  intro R s S
  refine noT (by kernel_rfl) ?_
  have s:fA R b 109 (rG (cnt (gB (iC e) la) e.r)).toArray:=s
  refine G.nil (E.eY (Sq (WC.draw [0,1,2,3,4,5] mixed (by kernel_rfl) fun V H=>(Ga rfl (.eZ pE rfl) ?_))))
  have I:=(s.le H)
  refine Gd rfl (.fe (v:= .int .i64 ((cnt (gB (iC e) la) e.r).lo)) gM rfl I rfl) (Ga rfl (.eZ qK rfl) (Gd rfl (.fe (v:= .int .i64 ((cnt (gB (iC e) la) e.r).hi)) gM rfl I rfl) (Gn 2 rfl (G.nil (E.eY (Rt (E.jb rfl rfl rfl ?_)))))))
  exact⟨(by first|rfl|(simp[mK,ofM,c];done)|(simp[mK,ofM,c];omega)|(simp[mK,ofM,c];split<;>first|(exfalso;omega)|(simp;done)|(simp;omega))),(((h.trans h_3).tb S h Q).trans H)⟩
 refine Cy rfl (congrArg not (Bool.eq_false_iff.2 c)) (Sr (Wn 2 rfl (Nx (Rt (E.eX (E.jb rfl rfl rfl ?_))))))
 exact⟨(by first|rfl|(simp[mK,ofM,c];done)|(simp[mK,ofM,c];omega)|(simp[mK,ofM,c];split<;>first|(exfalso;omega)|(simp;done)|(simp;omega))),y⟩

theorem QZ {gp gm ca:Nat}{la:Un}(e:fO.Edge)(a:Int)(w:World)(hp:fA w gp 102 #[.map (some gm)])(hM:kM w zh IX gm la ca)(hg:∀k v,gB k la=some v->j3 v):Calls prog 129 #[.pointer (some ⟨gp,0,none⟩),.agg (fD e).toArray,.int .i64 (a)] w fun r w'=>∃A1 c1 A2 c2,r= .returned (.tuple #[.agg #[.slice A1 (eP (gN (fun k=>gB k la) e a).n).length c1,.slice A2 (eP (gN (fun k=>gB k la) e a).d).length c2],.bool (lT e a)])/\eU w' w.heap.size 143 dv 1 A1 (eP (gN (fun k=>gB k la) e a).n).length c1 (eP (gN (fun k=>gB k la) e a).n)/\eU w' w.heap.size 143 dv 1 A2 (eP (gN (fun k=>gB k la) e a).d).length c2 (eP (gN (fun k=>gB k la) e a).d)/\Le w w':=by
 refine enter func129 rfl rfl (Sr (W.ef rfl rfl rfl (Ef.iM rfl fun S T ai (U:fA T S 66 (fD e).toArray) V=>?_)))
 have j:=(Le.refl w).trans V
 refine W.ef rfl rfl rfl (Ef.fI z37 fun l F s (c:fA F l 37 #[.slice none 0 0,.slice none 0 0]) H=>(Wn 1 rfl (Nx (Sq (Sr ?_)))))
 have I:=(U.le H)
 refine Wr (.fB iJ (by rfl) rfl I) rfl ?_
 refine W.cl WL rfl rfl (Gb e F) ?_
 rintro _ X ⟨rfl,b⟩
 have f:=(j.trans H).trans b
 refine Wn 1 rfl ?_
 by_cases i:(lS e)=true
 ·refine Wa (.dec (.move rfl) (congrArg not i)) rfl (Wn 3 rfl ?_)
  by_cases o:a<0
  ·refine Dt o rfl rfl (Wn 5 rfl (Nx (WC.gL rfl (Sr (Wa (.gF [.slice none 0 0,.slice none 0 0] jY z37 rfl rfl) rfl (W.sA gV rfl rfl (c.le b) ?_))))))
   intro Y x Z
   have x:fA Y l 37 #[.slice none 0 0,.slice none 0 0]:=x
   have L6:=f.tb Z j s
   refine Wn 1 rfl (Nx (Rt (E.eX (E.jb rfl (iB rfl x gQ (by rfl)) rfl ?_))))
   have hgo:lT e a=false:=(by simp[lT,i,o]<;>omega)
   have hod:gN (fun k=>gB k la) e a=⟨0,0⟩:=(by unfold gN;exact if_neg (by rw[hgo];decide))
   rw[hod,hgo]
   exact⟨none,0,none,0,by simp only[eT];rfl,by simp only[eT];exact eU.nil _ _ _ _ _ _,by simp only[eT];exact eU.nil _ _ _ _ _ _,L6⟩
  refine Df o rfl rfl (Wn 1 rfl (Wg (Any.rd (.eZ iF rfl) _) rfl ?_))
  have J:=(I.le b)
  refine Wg (.fe (v:= .int .i64 e.r) gM rfl J rfl) rfl (Wn 2 rfl (Nx ?_))
  by_cases t:e.r<a
  ·refine Cy rfl (dT t) (Sr (Wa (.gF [.slice none 0 0,.slice none 0 0] jY z37 rfl rfl) rfl (W.sA gV rfl rfl (c.le b) ?_)))
   intro aa y ab
   have y:fA aa l 37 #[.slice none 0 0,.slice none 0 0]:=y
   have L9:=f.tb ab j s
   refine Wn 1 rfl (Nx (Rt (E.eX (E.jb rfl (iB rfl y gQ (by rfl)) rfl ?_))))
   have hgo:lT e a=false:=(by simp[lT,i,o,t]<;>omega)
   have hod:gN (fun k=>gB k la) e a=⟨0,0⟩:=(by unfold gN;exact if_neg (by rw[hgo];decide))
   rw[hod,hgo]
   exact⟨none,0,none,0,by simp only[eT];rfl,by simp only[eT];exact eU.nil _ _ _ _ _ _,by simp only[eT];exact eU.nil _ _ _ _ _ _,L9⟩
  refine Cn rfl (dF t) ?_
  have ZI:=wW (m:=(fun k=>gB k la)) (fun k v h=>hg k v h) (by assumption:lS e=true)
  have hmz:=lv (by assumption:lS e=true)
  refine Sn (Sr (Wn 1 rfl (Wr (.fB iJ (by rfl) rfl J) rfl ?_)))
  refine W.cl Yl rfl rfl (MJ e X (hp.le f) (hM.le f) hg) ?_
  rintro _ ac ⟨rfl,u⟩
  have z:=f.trans u
  refine Wn 5 rfl (Nx (Sr (Wn 3 rfl (Wr (.max2 rfl rfl) rfl (Wn 1 rfl (Wr (.min2 rfl rfl) rfl (Wa (.sub rfl rfl (by omega)) rfl ?_)))))))
  obtain⟨nn,hnn⟩:=Int.eq_ofNat_of_zero_le (show 0<=(mK (fun k=>gB k la) e).2-min (max a (mK (fun k=>gB k la) e).1) (mK (fun k=>gB k la) e).2 by omega)
  refine Wr (.as (.yh (lY underlying3) underlying24 rfl (IntWalk.u64_in _ (by omega))) (by rw[hnn])) rfl ?_
  refine Wn 2 rfl (Wa (.sub rfl rfl (by omega)) rfl ?_)
  obtain⟨dd,hdd⟩:=Int.eq_ofNat_of_zero_le (show 0<=(mK (fun k=>gB k la) e).2-(mK (fun k=>gB k la) e).1 by omega)
  refine Wr (.as (.yh (lY underlying3) underlying24 rfl (IntWalk.u64_in _ (by omega))) (by rw[hdd])) rfl ?_
  refine W.cl Wx rfl rfl (KA nn dd ac (by omega) (by omega) (by omega)) ?_
  rintro _ aj ⟨K,L,N,O,rfl,P,Q,R⟩
  refine Wa (.extract (v:= .agg #[.slice K ((eP ((gY nn dd).n)).length) L,.slice N ((eP ((gY nn dd).d)).length) O]) rfl rfl) rfl (Wn 1 rfl (W.sA gV rfl rfl (c.le (b.trans (u.trans R))) ?_))
  intro ad A C
  have A:fA ad l 37 #[.slice K ((eP ((gY nn dd).n)).length) L,.slice N ((eP ((gY nn dd).d)).length) O]:=A
  refine Wn 1 rfl (Nx (Rt (E.jb rfl (iB rfl A gQ (by rfl)) rfl ?_)))
  have hgo:lT e a=true:=(by simp[lT,i,o,t]<;>omega)
  have hod:gN (fun k=>gB k la) e a=gY nn dd:=(by unfold gN;rw[if_pos hgo,show Bv (fun k=>gB k la) e a=(nn:Int)from hnn,show DK (fun k=>gB k la) e=(dd:Int)from hdd];rfl)
  rw[hod,hgo]
  exact⟨_,_,_,_,rfl,((P.cb C (P.rl (by have:=c.lt;have:=b.size;have:=u.size;omega))).mono z.size),((Q.cb C (Q.rl (by have:=c.lt;have:=b.size;have:=u.size;omega))).mono z.size),((z.trans R).tb C j s)⟩
 refine Wa (.dec (.move rfl) (congrArg not (Bool.eq_false_iff.2 i))) rfl (Wn 9 rfl (Nx (WC.gL rfl (Sr (Wa (.gF [.slice none 0 0,.slice none 0 0] jY z37 rfl rfl) rfl (W.sA gV rfl rfl (c.le b) ?_))))))
 intro ae D af
 have D:fA ae l 37 #[.slice none 0 0,.slice none 0 0]:=D
 have ah:=f.tb af j s
 refine Wn 1 rfl (Nx (Rt (E.eX (E.jb rfl (iB rfl D gQ (by rfl)) rfl ?_))))
 have hgo:lT e a=false:=(by simp[lT,i]<;>omega)
 have hod:gN (fun k=>gB k la) e a=⟨0,0⟩:=(by unfold gN;exact if_neg (by rw[hgo];decide))
 rw[hod,hgo]
 exact⟨none,0,none,0,by simp only[eT];rfl,by simp only[eT];exact eU.nil _ _ _ _ _ _,by simp only[eT];exact eU.nil _ _ _ _ _ _,ah⟩

theorem Q0 {gp gm ca:Nat}{la:Un}(e:fO.Edge)(a:Int)(w:World)(hp0:fA w gp 102 #[.map (some gm)])(hM0:kM w zh IX gm la ca)(hg:∀k v,gB k la=some v->j3 v)(n1:gp≠gm):Calls prog 26 #[.pointer (some ⟨gp,0,none⟩),.agg (fD e).toArray,.int .i64 (a)] w fun r w'=>r= .returned (.tuple #[])/\∃la' Q3,kM w' zh IX gm la' Q3/\(∀k,gB k la'=wV (fun k=>gB k la) e a k)/\jU w w' (fun k=>k=gm):=by
 refine enter func26 rfl rfl (Sr (W.ef rfl rfl rfl (Ef.iM rfl fun R F ak (H:fA F R 66 (fD e).toArray) c=>(Nx (Sr (Wr (.fB iJ (by rfl) rfl H) rfl ?_))))))
 refine Wn 1 rfl (W.cl WM rfl rfl (Co e a F) ?_)
 rintro _ al ⟨rfl,b⟩
 have I:=((jU.refl w (fun k=>k=gm)).le c).le b
 refine Nx ?_
 by_cases z:(jJ e a)=true
 ·refine Cy rfl z ?_
  have hsm:=l9 (by assumption:jJ e a=true)
  have hmz:=lv hsm.1
  refine Sq (WC.Hz [0,1,3,4] [2,5,6] [7] (fun i=>bif Nat.beq i 5 then[2]else[]) mixed (by kernel_rfl) fun l d=>?_)
  have J:=I.le d
  refine Gn 1 rfl ?_
  have x:=(H.le (b.trans d))
  refine Gd rfl (.fB iJ (by rfl) rfl x) ?_
  refine Ga rfl (.eZ iF rfl) (Gd rfl (.fe (v:= .int .i64 e.r) gM rfl x rfl) (G.nil (E.Hy ⟨by rfl,fun iU=>(bif Nat.beq iU 2 then(fun v w'=>v= .agg (sZ (iC e)).toArray)else(bif Nat.beq iU 5 then(fun v w'=>v= .agg (rG (cnt (gB (iC e) la) e.r)).toArray)else(bif Nat.beq iU 6 then(fun v w'=>∃f,v= .pointer (some ⟨f,0,none⟩)/\fA w' f 109 (rG DJ).toArray)else(fun _ _=>True)))),?_,?_,?_⟩)))
  ·intro iU hi v m l hv hle
   simp only[List.mem_cons,List.not_mem_nil,or_false]at hi
   rcases hi with rfl|rfl|rfl
   ·exact hv
   ·exact hv
   obtain⟨f,hvv,A⟩:=hv;exact⟨f,hvv,A.le hle⟩
  ·intro iU hi
   simp only[List.mem_cons,List.not_mem_nil,or_false]at hi
   rcases hi with rfl|rfl|rfl
   ·refine .inl ⟨rfl,Step.JN rfl rfl ?_⟩
    intro m hle
    refine Ef.call Kg rfl rfl (oq e m) ?_
    rintro _ l ⟨rfl,o⟩
    refine⟨_,rfl,?_⟩
    exact⟨o,rfl,fun k hk=>hk.elim⟩
   ·refine .inl ⟨rfl,Step.Ta (j:=2) rfl rfl rfl ?_⟩
    intro S m hle C
    have C:S= .agg (sZ (iC e)).toArray:=C
    subst C
    refine Ef.call P5 rfl rfl (Cq (iC e) e.r m (hp0.le (c.trans (b.trans (d.trans hle)))) (hM0.le (c.trans (b.trans (d.trans hle)))) hg (by omega) (by omega)) ?_
    rintro _ l ⟨rfl,o⟩
    refine⟨_,rfl,?_⟩
    have hof:=yt (fun n hn=>hg (iC e) n hn) (show 0<e.r by omega) (show e.r<=1125899906842624 by omega)
    unfold j3 at hof
    exact⟨o,rfl,fun k hk=>hk.elim⟩
   refine .inl ⟨rfl,Step.JN rfl rfl ?_⟩
   intro m hle
   refine Ef.fI z109 fun f l hg K o=>?_
   exact⟨o,⟨_,rfl,K⟩,fun k hk=>(show f=k from hk)▸⟨hg,K.lt⟩⟩
  intro DI W_2 h_2 nR u6 Q4
  have T:DI 2= .agg (sZ (iC e)).toArray:=nR 2 (by decide)
  have U:DI 5= .agg (rG (cnt (gB (iC e) la) e.r)).toArray:=nR 5 (by decide)
  obtain⟨f,L,A⟩:=nR 6 (by decide)
  have V:l.heap.size<=f:=(u6 6 (by decide) f (by rw[L];rfl)).1
  show G _ _ _ _ _ ((12,DI 2)::(15,DI 5)::(6,DI 6)::_) _
  rw[T,U,L]
  have X:=J.le h_2
  refine G.iO rfl rfl rfl rfl (Ef.storeAll vQ (by rfl) rfl rfl A (by simp only[List.size_toArray,jE.len]) (jE.one (cnt (gB (iC e) la) e.r)) ?_)
  intro N D s
  refine noT (by kernel_rfl) ?_
  have D:fA N f 109 (rG (cnt (gB (iC e) la) e.r)).toArray:=D
  have Y:jU w N (fun k=>k=gm):=X.ch s (fun i hi hlt=>by cases hi;exact absurd hlt (by have:=J.size;have:=V;omega))
  refine G.nil (E.eY (WC.draw [0,1,2,3,4,6,7,8,9,10,11,12,13,14,15,16,17,5,18] mixed (by kernel_rfl) fun Z h=>(Gn 1 rfl (Ga rfl (.nilCheck rfl) (Ga rfl (.eZ su rfl) (Gd rfl (.fe (v:= .map (some gm)) BP rfl (((hp0.le (c.trans (b.trans (d.trans h_2)))).cn s (by have:=hp0.lt;have:=c.size;have:=b.size;have:=d.size;omega)).le h) rfl) ?_))))))
  have O:=(((x.le h_2).cn s (by have:=x.lt;omega)).le h)
  refine Gd rfl (.fB iJ (by rfl) rfl O) ?_
  refine Ga rfl (.eZ pE rfl) ?_
  have P:=(D.le h)
  refine Gd rfl (.fe (v:= .int .i64 ((cnt (gB (iC e) la) e.r).lo)) gM rfl P rfl) (Gn 1 rfl (Ga rfl (.sub rfl rfl (by omega)) (Gd rfl (.min2 rfl rfl) (Ga rfl (.eZ qK rfl) (Gd rfl (.fe (v:= .int .i64 ((cnt (gB (iC e) la) e.r).hi)) gM rfl P rfl) ?_)))))
  refine Gn 1 rfl (Gd rfl (.min2 rfl rfl) (Ga rfl (.eZ iF rfl) (Gd rfl (.fe (v:= .int .i64 e.r) gM rfl O rfl) (Ga rfl (.gF (rG (⟨(min ((cnt (gB (iC e) la) e.r).lo) (a-1)),(min ((cnt (gB (iC e) la) e.r).hi) a),e.r⟩:Nt)) Es z109 rfl rfl) (G.ef rfl rfl rfl rfl rfl ?_)))))
  refine Ef.call Kg rfl rfl (oq e Z) ?_
  rintro _ am ⟨rfl,y⟩
  refine⟨_,rfl,?_⟩
  refine⟨fun _=>y,?_⟩
  have Q:=(Y.le h).le y
  rcases optG (gB (iC e) la)with t|⟨an,t⟩
  ·have aa:=(((hM0.le (c.trans (b.trans (d.trans h_2)))).cn s (by have:=hM0.lt;have:=c.size;have:=b.size;have:=d.size;omega)).le (h.trans y))
   refine G.iO rfl rfl rfl rfl (Ef.xC (key:=(iC e)) (u:=(⟨(min ((cnt (gB (iC e) la) e.r).lo) (a-1)),(min ((cnt (gB (iC e) la) e.r).hi) a),e.r⟩:Nt)) underlying100 OH rfl rfl rfl aa t fun ab ac ad=>(noT (by kernel_rfl) ?_))
   have ae:jU w ab (fun k=>k=gm):=Q.ch ad (fun i hi _=>by cases hi;exact rfl)
   refine G.nil (E.end_ (E.nO rfl ?_))
   have hf:wV (fun k=>gB k la) e a=nV (fun k=>gB k la) (iC e) (He e a (ofM (fun k=>gB k la) (iC e) e.r)):=if_pos (by assumption)
   rw[hf]
   exact⟨rfl,_,_,ac,fun k=>by rw[pQ t];rfl,ae⟩
  refine G.iO rfl rfl rfl rfl (Ef.xD (key:=(iC e)) (u:=(⟨(min ((cnt (gB (iC e) la) e.r).lo) (a-1)),(min ((cnt (gB (iC e) la) e.r).hi) a),e.r⟩:Nt)) underlying100 OH rfl rfl rfl (((hM0.le (c.trans (b.trans (d.trans h_2)))).cn s (by have:=hM0.lt;have:=c.size;have:=b.size;have:=d.size;omega)).le (h.trans y)) xK t ?_)
  intro af ah ai
  refine noT (by kernel_rfl) ?_
  have aj:jU w af (fun k=>k=gm):=Q.ch ai (fun i hi _=>by cases hi;exact rfl)
  refine G.nil (E.end_ (E.nO rfl ?_))
  have hf:wV (fun k=>gB k la) e a=nV (fun k=>gB k la) (iC e) (He e a (ofM (fun k=>gB k la) (iC e) e.r)):=if_pos (by assumption)
  rw[hf]
  exact⟨rfl,_,_,ah,fun k=>by rw[rD ⟨_,t⟩];rfl,aj⟩
 refine Cn rfl (Bool.eq_false_iff.2 z) (WC.skip (E.end_ (E.nO rfl ?_)))
 have hf:wV (fun k=>gB k la) e a=(fun k=>gB k la):=if_neg (by simp[z])
 rw[hf]
 exact⟨rfl,_,_,(hM0.le (c.trans b)),fun k=>rfl,I⟩

theorem Q5 {gp gm ca:Nat}{la:Un}(e:fO.Edge)(a:Int)(w:World)(hp0:fA w gp 102 #[.map (some gm)])(hM0:kM w zh IX gm la ca)(hg:∀k v,gB k la=some v->j3 v)(n1:gp≠gm):Calls prog 27 #[.pointer (some ⟨gp,0,none⟩),.agg (fD e).toArray,.int .i64 (a)] w fun r w'=>r= .returned (.tuple #[])/\∃la' Q3,kM w' zh IX gm la' Q3/\(∀k,gB k la'=lG (fun k=>gB k la) e a k)/\jU w w' (fun k=>k=gm):=by
 refine enter func27 rfl rfl (Sr (W.ef rfl rfl rfl (Ef.iM rfl fun R F ak (H:fA F R 66 (fD e).toArray) c=>(Nx (Sr (Wr (.fB iJ (by rfl) rfl H) rfl ?_))))))
 refine Wn 1 rfl (W.cl WM rfl rfl (Co e a F) ?_)
 rintro _ al ⟨rfl,b⟩
 have I:=((jU.refl w (fun k=>k=gm)).le c).le b
 refine Nx ?_
 by_cases z:(jJ e a)=true
 ·refine Cy rfl z ?_
  have hsm:=l9 (by assumption:jJ e a=true)
  have hmz:=lv hsm.1
  refine Sq (WC.Hz [0,1,3,4] [2,5,6] [7] (fun i=>bif Nat.beq i 5 then[2]else[]) mixed (by kernel_rfl) fun l d=>?_)
  have J:=I.le d
  refine Gn 1 rfl ?_
  have x:=(H.le (b.trans d))
  refine Gd rfl (.fB iJ (by rfl) rfl x) ?_
  refine Ga rfl (.eZ iF rfl) (Gd rfl (.fe (v:= .int .i64 e.r) gM rfl x rfl) (G.nil (E.Hy ⟨by rfl,fun iU=>(bif Nat.beq iU 2 then(fun v w'=>v= .agg (sZ (iC e)).toArray)else(bif Nat.beq iU 5 then(fun v w'=>v= .agg (rG (cnt (gB (iC e) la) e.r)).toArray)else(bif Nat.beq iU 6 then(fun v w'=>∃f,v= .pointer (some ⟨f,0,none⟩)/\fA w' f 109 (rG DJ).toArray)else(fun _ _=>True)))),?_,?_,?_⟩)))
  ·intro iU hi v m l hv hle
   simp only[List.mem_cons,List.not_mem_nil,or_false]at hi
   rcases hi with rfl|rfl|rfl
   ·exact hv
   ·exact hv
   obtain⟨f,hvv,A⟩:=hv;exact⟨f,hvv,A.le hle⟩
  ·intro iU hi
   simp only[List.mem_cons,List.not_mem_nil,or_false]at hi
   rcases hi with rfl|rfl|rfl
   ·refine .inl ⟨rfl,Step.JN rfl rfl ?_⟩
    intro m hle
    refine Ef.call Kg rfl rfl (oq e m) ?_
    rintro _ l ⟨rfl,o⟩
    refine⟨_,rfl,?_⟩
    exact⟨o,rfl,fun k hk=>hk.elim⟩
   ·refine .inl ⟨rfl,Step.Ta (j:=2) rfl rfl rfl ?_⟩
    intro S m hle C
    have C:S= .agg (sZ (iC e)).toArray:=C
    subst C
    refine Ef.call P5 rfl rfl (Cq (iC e) e.r m (hp0.le (c.trans (b.trans (d.trans hle)))) (hM0.le (c.trans (b.trans (d.trans hle)))) hg (by omega) (by omega)) ?_
    rintro _ l ⟨rfl,o⟩
    refine⟨_,rfl,?_⟩
    have hof:=yt (fun n hn=>hg (iC e) n hn) (show 0<e.r by omega) (show e.r<=1125899906842624 by omega)
    unfold j3 at hof
    exact⟨o,rfl,fun k hk=>hk.elim⟩
   refine .inl ⟨rfl,Step.JN rfl rfl ?_⟩
   intro m hle
   refine Ef.fI z109 fun f l hg K o=>?_
   exact⟨o,⟨_,rfl,K⟩,fun k hk=>(show f=k from hk)▸⟨hg,K.lt⟩⟩
  intro DI W_2 h_2 nR u6 Q4
  have T:DI 2= .agg (sZ (iC e)).toArray:=nR 2 (by decide)
  have U:DI 5= .agg (rG (cnt (gB (iC e) la) e.r)).toArray:=nR 5 (by decide)
  obtain⟨f,L,A⟩:=nR 6 (by decide)
  have V:l.heap.size<=f:=(u6 6 (by decide) f (by rw[L];rfl)).1
  show G _ _ _ _ _ ((12,DI 2)::(15,DI 5)::(6,DI 6)::_) _
  rw[T,U,L]
  have X:=J.le h_2
  refine G.iO rfl rfl rfl rfl (Ef.storeAll vQ (by rfl) rfl rfl A (by simp only[List.size_toArray,jE.len]) (jE.one (cnt (gB (iC e) la) e.r)) ?_)
  intro N D s
  refine noT (by kernel_rfl) ?_
  have D:fA N f 109 (rG (cnt (gB (iC e) la) e.r)).toArray:=D
  have Y:jU w N (fun k=>k=gm):=X.ch s (fun i hi hlt=>by cases hi;exact absurd hlt (by have:=J.size;have:=V;omega))
  refine G.nil (E.eY (WC.draw [0,1,2,3,4,6,7,8,9,10,11,12,13,14,15,16,17,5,18] mixed (by kernel_rfl) fun Z h=>(Gn 1 rfl (Ga rfl (.nilCheck rfl) (Ga rfl (.eZ su rfl) (Gd rfl (.fe (v:= .map (some gm)) BP rfl (((hp0.le (c.trans (b.trans (d.trans h_2)))).cn s (by have:=hp0.lt;have:=c.size;have:=b.size;have:=d.size;omega)).le h) rfl) ?_))))))
  have O:=(((x.le h_2).cn s (by have:=x.lt;omega)).le h)
  refine Gd rfl (.fB iJ (by rfl) rfl O) ?_
  refine Ga rfl (.eZ pE rfl) ?_
  have P:=(D.le h)
  refine Gd rfl (.fe (v:= .int .i64 ((cnt (gB (iC e) la) e.r).lo)) gM rfl P rfl) (Gn 1 rfl (Gd rfl (.max2 rfl rfl) (Ga rfl (.eZ qK rfl) (Gd rfl (.fe (v:= .int .i64 ((cnt (gB (iC e) la) e.r).hi)) gM rfl P rfl) (Gn 1 rfl ?_)))))
  refine Ga rfl (.add rfl rfl (by omega)) (Gd rfl (.max2 rfl rfl) (Ga rfl (.eZ iF rfl) (Gd rfl (.fe (v:= .int .i64 e.r) gM rfl O rfl) (Ga rfl (.gF (rG (⟨(max ((cnt (gB (iC e) la) e.r).lo) a),(max ((cnt (gB (iC e) la) e.r).hi) (a+1)),e.r⟩:Nt)) Es z109 rfl rfl) (G.ef rfl rfl rfl rfl rfl ?_)))))
  refine Ef.call Kg rfl rfl (oq e Z) ?_
  rintro _ am ⟨rfl,y⟩
  refine⟨_,rfl,?_⟩
  refine⟨fun _=>y,?_⟩
  have Q:=(Y.le h).le y
  rcases optG (gB (iC e) la)with t|⟨an,t⟩
  ·have aa:=(((hM0.le (c.trans (b.trans (d.trans h_2)))).cn s (by have:=hM0.lt;have:=c.size;have:=b.size;have:=d.size;omega)).le (h.trans y))
   refine G.iO rfl rfl rfl rfl (Ef.xC (key:=(iC e)) (u:=(⟨(max ((cnt (gB (iC e) la) e.r).lo) a),(max ((cnt (gB (iC e) la) e.r).hi) (a+1)),e.r⟩:Nt)) underlying100 OH rfl rfl rfl aa t fun ab ac ad=>(noT (by kernel_rfl) ?_))
   have ae:jU w ab (fun k=>k=gm):=Q.ch ad (fun i hi _=>by cases hi;exact rfl)
   refine G.nil (E.end_ (E.nO rfl ?_))
   have hf:lG (fun k=>gB k la) e a=nV (fun k=>gB k la) (iC e) (wU e a (ofM (fun k=>gB k la) (iC e) e.r)):=if_pos (by assumption)
   rw[hf]
   exact⟨rfl,_,_,ac,fun k=>by rw[pQ t];rfl,ae⟩
  refine G.iO rfl rfl rfl rfl (Ef.xD (key:=(iC e)) (u:=(⟨(max ((cnt (gB (iC e) la) e.r).lo) a),(max ((cnt (gB (iC e) la) e.r).hi) (a+1)),e.r⟩:Nt)) underlying100 OH rfl rfl rfl (((hM0.le (c.trans (b.trans (d.trans h_2)))).cn s (by have:=hM0.lt;have:=c.size;have:=b.size;have:=d.size;omega)).le (h.trans y)) xK t ?_)
  intro af ah ai
  refine noT (by kernel_rfl) ?_
  have aj:jU w af (fun k=>k=gm):=Q.ch ai (fun i hi _=>by cases hi;exact rfl)
  refine G.nil (E.end_ (E.nO rfl ?_))
  have hf:lG (fun k=>gB k la) e a=nV (fun k=>gB k la) (iC e) (wU e a (ofM (fun k=>gB k la) (iC e) e.r)):=if_pos (by assumption)
  rw[hf]
  exact⟨rfl,_,_,ah,fun k=>by rw[rD ⟨_,t⟩];rfl,aj⟩
 refine Cn rfl (Bool.eq_false_iff.2 z) (WC.skip (E.end_ (E.nO rfl ?_)))
 have hf:lG (fun k=>gB k la) e a=(fun k=>gB k la):=if_neg (by simp[z])
 rw[hf]
 exact⟨rfl,_,_,(hM0.le (c.trans b)),fun k=>rfl,I⟩

theorem NZ {g ck:Nat}{l:Un}(w:World)(hM:kM w zh IX g l ck):Calls prog 75 #[.map (some g)] w fun r w'=>∃g',r= .returned (.map (some g'))/\w.heap.size<=g'/\kM w' zh IX g' l ck/\Le w w':=by
 refine enter func75 rfl rfl ?_
 have b:=Le.refl w
 refine Sr (Wn 1 rfl (Nx (Sq (Sr (Wn 1 rfl (Wa (.dec (.Wo underlying100 rfl) rfl) rfl (Nx (WC.iD rfl (Sn (Sr (Wn 1 rfl (Wa (.XT underlying100 rfl rfl) rfl (W.ef rfl rfl rfl (Ef.Wp func136 rfl rfl (by kernel_rfl) (by kernel_rfl) rfl (hM.le b) ?_))))))))))))))
 intro f h c d e
 refine Wr (.Tf underlying100 rfl) rfl (Wn 1 rfl (Nx (Rt (E.fu rfl rfl ?_))))
 exact⟨_,rfl,(by have:=c;have:=b.size;omega),d,(b.trans e)⟩

theorem Ur (w:World):Calls prog 22 #[] w fun r w'=>∃gp gm,r= .returned (.pointer (some ⟨gp,0,none⟩))/\fA w' gp 102 #[.map (some gm)]/\kM w' zh IX gm [] 0/\w.heap.size<=gp/\w.heap.size<=gm/\gp≠gm/\Le w w':=by
 refine enter func22 rfl rfl ?_
 have c:=Le.refl w
 refine Sr (Wn 1 rfl (Nx (Sr (W.ef rfl rfl rfl (Ef.PK zh IX fun b n i d j=>?_)))))
 have e:=c.trans j
 refine Wa (.gF [.map (some b)] VL X5 rfl rfl) rfl (W.ef rfl rfl rfl (Ef.iM rfl fun f k l (m:fA k f 102 #[.map (some b)]) h=>(Wn 1 rfl (Nx (Rt (E.fu rfl rfl ?_))))))
 exact⟨_,_,rfl,m,(d.le h),(by have:=l;have:=e.size;omega),(by have:=i;have:=c.size;omega),(show f≠b from by have:=d.lt;omega),(e.trans h)⟩

theorem Q6 {gp gm ca:Nat}{la:Un}(w:World)(hp:fA w gp 102 #[.map (some gm)])(hM:kM w zh IX gm la ca)(hg:∀k v,gB k la=some v->j3 v):Calls prog 32 #[.pointer (some ⟨gp,0,none⟩)] w fun r w'=>∃gp gm,r= .returned (.pointer (some ⟨gp,0,none⟩))/\fA w' gp 102 #[.map (some gm)]/\kM w' zh IX gm la ca/\w.heap.size<=gp/\w.heap.size<=gm/\gp≠gm/\Le w w':=by
 refine enter func32 rfl rfl ?_
 have b:=Le.refl w
 refine Sr (Wn 1 rfl (Nx (Sr (Wn 1 rfl (Wa (.nilCheck rfl) rfl (Wa (.eZ su rfl) rfl (Wr (.fe (v:= .map (some gm)) BP rfl (hp.le b) rfl) rfl (W.cl aa8 rfl rfl (NZ w (hM.le b)) ?_))))))))
 rintro _ o ⟨c,rfl,i,d,j⟩
 have e:=b.trans j
 refine Wa (.gF [.map (some c)] VL X5 rfl rfl) rfl (W.ef rfl rfl rfl (Ef.iM rfl fun f l m (n:fA l f 102 #[.map (some c)]) h=>(Wn 1 rfl (Nx (Rt (E.fu rfl rfl ?_))))))
 exact⟨_,_,rfl,n,(d.le h),(by have:=m;have:=e.size;omega),(by have:=i;have:=b.size;omega),(show f≠c from by have:=d.lt;omega),(e.trans h)⟩
end Go.Proofs.YtkaedikifgpkeaaGreatDoor

namespace Go.Proofs.YtkaedikifgpkeaaGreatDoor
open Tryz
open Go Go.Sx Go.Num Go.fO Go.oF Go.uI
set_option maxRecDepth 20000
def Cs (w:World)(F F':Nat->Prop):Prop:=∀k,F' k->F k\/w.heap.size<=k
def iN (w:World)(base gp:Nat)(F:Nat->Prop)(m:MF):Prop:=∃gm la ca,fA w gp 102 #[.map (some gm)]/\kM w zh IX gm la ca/\(fun k=>gB k la)=m/\ic m/\gp≠gm/\(∀k,F k↔k=gp\/k=gm)/\base<=gp/\base<=gm
section
variable {w w':World}{base gp:Nat}{F:Nat->Prop}{m:MF}
theorem iN.iQ {F':Nat->Prop}(h:iN w base gp F m)(hc:jU w w' F')(hne:∀k,F k->¬F' k):iN w' base gp F m:=by
  obtain⟨gm,la,ca,c,d,e,f,i,b,j,l⟩:=h
  exact⟨gm,la,ca,c.iQ hc (hne _ ((b _).2 (.inl rfl))),d.iQ hc (hne _ ((b _).2 (.inr rfl))),e,f,i,b,j,l⟩
theorem iN.ch {r:Option Nat}(h:iN w base gp F m)(hc:Ch w w' r)(hne:∀k,r=some k->¬F k):iN w' base gp F m:=h.iQ (hc.iQ (F:=fun k=>r=some k) (fun i hi=>hi)) (fun k hk hr=>hne k hr hk)
theorem iN.le (h:iN w base gp F m)(hl:Le w w'):iN w' base gp F m:=h.iQ (hl.iQ (fun _=>False)) (fun _ _ hf=>hf)
theorem iN.lt (h:iN w base gp F m){k:Nat}(hk:F k):k<w.heap.size:=by
  obtain⟨gm,la,ca,b,c,e,f,i,d,j,l⟩:=h
  rcases(d k).1 hk with rfl|rfl
  · exact b.lt
  · exact c.lt
theorem iN.good (h:iN w base gp F m):ic m:=by
  obtain⟨gm,la,ca,c,d,e,b,f,i,j,k⟩:=h
  exact b
theorem iN.old (h:iN w base gp F m){k:Nat}(hk:F k):base<=k:=by
  obtain⟨gm,la,ca,e,f,i,j,l,b,c,d⟩:=h
  rcases(b k).1 hk with rfl|rfl
  · exact c
  · exact d
theorem iN.size (h:iN w base gp F m):base<=w.heap.size:=by
  obtain⟨gm,la,ca,b,c,d,e,f,i,j,k⟩:=h
  have:=b.lt
  omega
theorem EC {la:Un}(h4:ic (fun k=>gB k la)):∀k v,gB k la=some v->j3 v:=fun k v hv=>h4 k v hv
def KD (w:World)(base gp:Nat)(F:Nat->Prop)(m:MF):Ending->World->Prop:=fun e w'=>e= .returned (.tuple #[])/\iN w' base gp F m/\Cs w F F/\jU w w' F
theorem IY (w:World):Calls prog 22 #[] w fun r w'=>∃gp F,r= .returned (.pointer (some ⟨gp,0,none⟩))/\iN w' w.heap.size gp F (fun _=>none)/\Le w w':=by
  refine Calls.mono (Ur w) ?_
  rintro r w' ⟨gp,gm,hr,b,c,d,e,f,i⟩
  exact⟨gp,fun k=>k=gp\/k=gm,hr,⟨gm,[],0,b,c,rfl,(fun _ _ h=>by cases h),f,fun _=>Iff.rfl,d,e⟩,i⟩
theorem N7 (h:iN w base gp F m):Calls prog 32 #[.pointer (some ⟨gp,0,none⟩)] w fun r w'=>∃JO F',r= .returned (.pointer (some ⟨JO,0,none⟩))/\iN w' w.heap.size JO F' m/\Le w w':=by
  obtain⟨gm,la,ca,c,d,rfl,b,l,n,o,s⟩:=h
  refine Calls.mono (Q6 w c d (EC b)) ?_
  rintro r w' ⟨JO,gm',hr,k1,k2,e,f,i,j⟩
  exact⟨JO,fun k=>k=JO\/k=gm',hr,⟨gm',la,ca,k1,k2,rfl,b,i,fun _=>Iff.rfl,e,f⟩,j⟩
theorem Q7 (e:fO.Edge)(h:iN w base gp F m):Calls prog 25 #[.pointer (some ⟨gp,0,none⟩),.agg (fD e).toArray] w fun r w'=>r= .returned (.tuple #[.int .i64 (mK m e).1,.int .i64 (mK m e).2])/\Le w w':=by
  obtain⟨gm,la,ca,b,c,rfl,d,f,i,j,k⟩:=h
  exact MJ e w b c (EC d)
theorem ED (e:fO.Edge)(a:Int)(h:iN w base gp F m):Calls prog 129 #[.pointer (some ⟨gp,0,none⟩),.agg (fD e).toArray,.int .i64 a] w fun r w'=>∃A1 c1 A2 c2,r= .returned (.tuple #[.agg #[.slice A1 (eP (gN m e a).n).length c1,.slice A2 (eP (gN m e a).d).length c2],.bool (lT e a)])/\eU w' w.heap.size 143 dv 1 A1 (eP (gN m e a).n).length c1 (eP (gN m e a).n)/\eU w' w.heap.size 143 dv 1 A2 (eP (gN m e a).d).length c2 (eP (gN m e a).d)/\Le w w':=by
  obtain⟨gm,la,ca,b,c,rfl,f,i,j,k,l⟩:=h
  exact QZ e a w b c (EC f)
theorem N8 (e:fO.Edge)(a:Int)(h:iN w base gp F m):Calls prog 26 #[.pointer (some ⟨gp,0,none⟩),.agg (fD e).toArray,.int .i64 a] w (KD w base gp F (wV m e a)):=by
  obtain⟨gm,la,ca,c,j,rfl,d,b,f,l,n⟩:=h
  refine Calls.mono (Q0 e a w c j (EC d) b) ?_
  rintro r w' ⟨hr,la',Q3,k1,k2,i⟩
  exact⟨hr,⟨gm,la',Q3,c.iQ i b,k1,funext k2,Bw d e a,b,f,l,n⟩,fun k hk=> .inl hk,i.mono fun k hk _=>(f k).2 (.inr hk)⟩
theorem EE (e:fO.Edge)(a:Int)(h:iN w base gp F m):Calls prog 27 #[.pointer (some ⟨gp,0,none⟩),.agg (fD e).toArray,.int .i64 a] w (KD w base gp F (lG m e a)):=by
  obtain⟨gm,la,ca,c,j,rfl,d,b,f,l,n⟩:=h
  refine Calls.mono (Q5 e a w c j (EC d) b) ?_
  rintro r w' ⟨hr,la',Q3,k1,k2,i⟩
  exact⟨hr,⟨gm,la',Q3,c.iQ i b,k1,funext k2,vZ d e a,b,f,l,n⟩,fun k hk=> .inl hk,i.mono fun k hk _=>(f k).2 (.inr hk)⟩
end
end Go.Proofs.YtkaedikifgpkeaaGreatDoor

namespace Go.tH
open Go.fO Go.oF Go.uI Go.Proofs.YtkaedikifgpkeaaGreatDoor
def ji (m:MF)(xs:List fO.Edge)(s:List Int):Nat->Fr
  |0=>gY 1 1
  |k+1=>jW (fE (ji m xs s k)) (fE (gN m (xs.getD k eO) (s.getD k 0)))
def fM (m:MF)(xs:List fO.Edge)(a x:Int):Fr×Int×Int:=
  if(fq xs a x).2.2=0 then(ji m xs (fq xs a x).1 xs.length,(fq xs a x).1.getD 0 0,0)else(⟨0,0⟩,0,(fq xs a x).2.2)
structure kY where
  way:List fO.Edge
  fQ:Fr
  sent:Int
def j6:kY:=⟨[],⟨0,0⟩,0⟩
def je:List fO.Edge->List fO.Edge->Int
  |[],[]=>0
  |[],_::_=> -1
  |_::_,[]=>1
  |x::xs,y::ys=>if kg x.c y.c≠0 then kg x.c y.c else je xs ys
def u7 (a b:kY):Bool:=decide (Ml [kQ (fE b.fQ) (fE a.fQ),kg a.sent b.sent,je a.way b.way]<0)
def xL (way:List fO.Edge)(r:Fr×Int×Int)(b:kY):Prop:=way≠[]/\(r.2.2≠0\/r.1.n=0\/(b.way≠[]/\kQ (fE r.1) (fE b.fQ)<0))
instance (way : List fO.Edge) (r : Fr × Int × Int) (b : kY) : Decidable (xL way r b) := by unfold xL; infer_instance
def IZ (way:List fO.Edge)(r:Fr×Int×Int):kY:=⟨way,r.1,r.2.1⟩
def xM (way:List fO.Edge)(to:Int)(e:fO.Edge):Bool:=decide (e.f=to)||way.any (fun y=>decide (y.f=e.f))
def ZZ (g:List fO.Edge)(at_:Int):List fO.Edge:=g.filter fun e=>decide (e.t=at_)
def D6 (Q8:List fO.Edge->Int->kY->kY)(way:List fO.Edge)(to:Int)(b:kY)(e:fO.Edge):kY:=if xM way to e=true then b else Q8 (e::way) e.f b
def jd (g:List fO.Edge)(m:MF)(fr to a x:Int):Nat->List fO.Edge->Int->kY->kY
  |0,_,_,b=>b
  |n+1,way,at_,b=>
    if xL way (fM m way a x) b then b
    else if at_=fr then if b.way=[]\/u7 (IZ way (fM m way a x)) b=true then IZ way (fM m way a x)else b
    else if way.length=8 then b
    else(ZZ g at_).foldl (D6 (jd g m fr to a x n) way to) b
def mR (g:List fO.Edge)(fr to a x:Int):Bool:= !ko g|| !jv fr 0 11|| !jv to 0 11||decide (fr=to)|| !jv a 1 1125899906842624|| !jv x 1 1048576
def gz (g:List fO.Edge)(m:MF)(fr to a x:Int):List fO.Edge×Fr×Int:=
  if mR g fr to a x=true then([],⟨0,0⟩,1)
  else if(jd g m fr to a x 9 [] to j6).way=[]then([],⟨0,0⟩,19)
  else((jd g m fr to a x 9 [] to j6).way,(jd g m fr to a x 9 [] to j6).fQ,0)
theorem MK (m:MF)(xs:List fO.Edge)(s:List Int):∀k,okF (ji m xs s k)
  |0=>qG (by decide)
  |k+1=>qG (Nat.mul_pos (pG _).1 (pG _).1)
theorem yJ {m:MF}(hm:ic m)(e:fO.Edge)(a:Int):(eP (gN m e a).n).length<=2/\(eP (gN m e a).d).length<=2:=by
  unfold gN
  split
  · rename_i h
    simp only[lT,Bool.and_eq_true,decide_eq_true_eq]at h
    have hb:=wW hm h.1.1
    have hr:=lv h.1.1
    have c:(Bv m e a).toNat<18446744073709551616:=by unfold Bv;omega
    have f:(DK m e).toNat<18446744073709551616:=by unfold DK;omega
    have b:=uY (Bv m e a).toNat (DK m e).toNat
    exact⟨Nat.le_trans (gZ b.1) (jS 2 c),Nat.le_trans (gZ b.2) (jS 2 f)⟩
  · simp only[eT]
    exact⟨Nat.zero_le _,Nat.zero_le _⟩
theorem xN {m:MF}(hm:ic m)(xs:List fO.Edge)(s:List Int):∀k,(eP (ji m xs s k).n).length<=4*k+1/\(eP (ji m xs s k).d).length<=4*k+1
  |0=>⟨Nat.le_trans (gZ (uY 1 1).1) (gJ (by decide)),Nat.le_trans (gZ (uY 1 1).2) (gJ (by decide))⟩
  |k+1=>by
    have h0:=xN hm xs s k
    have f:=lX (gN m (xs.getD k eO) (s.getD k 0))
    have h:=yJ hm (xs.getD k eO) (s.getD k 0)
    have c:=qM (MK m xs s k)
    have e:ji m xs s (k+1)=gY ((ji m xs s k).n*(fE (gN m (xs.getD k eO) (s.getD k 0))).n) ((ji m xs s k).d*(fE (gN m (xs.getD k eO) (s.getD k 0))).d):=by show jW _ _=_;rw[c];rfl
    have i:=iR (ji m xs s k).n (fE (gN m (xs.getD k eO) (s.getD k 0))).n
    have j:=iR (ji m xs s k).d (fE (gN m (xs.getD k eO) (s.getD k 0))).d
    have b:=uY ((ji m xs s k).n*(fE (gN m (xs.getD k eO) (s.getD k 0))).n) ((ji m xs s k).d*(fE (gN m (xs.getD k eO) (s.getD k 0))).d)
    rw[e]
    have l:=gZ b.1
    have o:=gZ b.2
    omega
theorem yK {m:MF}(hm:ic m)(xs:List fO.Edge)(a x:Int):(eP (fM m xs a x).1.n).length<=100/\(eP (fM m xs a x).1.d).length<=100:=by
  unfold fM
  split
  · rename_i h
    have hw:=(l7 h).1
    have:=kZ hw
    have:=xN hm xs (fq xs a x).1 xs.length
    simp only
    omega
  · simp only[eT]
    exact⟨Nat.zero_le _,Nat.zero_le _⟩
end Go.tH

namespace Go.Proofs.YtkaedikifgpkeaaGreatDoor
open Tryz
open Go Go.Sx Go.Num Go.fO Go.oF Go.uI Go.tH
set_option maxRecDepth 20000
theorem Q9 {base gp:Nat}{F:Nat->Prop}{m:MF}(a x:Int){A:Option Addr}{n c:Nat}{xs:List fO.Edge}(w:World)(hP:iN w base gp F m)(hV:Vec w fD 9 A n xs)(hn:n<=1000000):Calls prog 70 #[.pointer (some ⟨gp,0,none⟩),.slice A n c,.int .i64 a,.int .i64 (x)] w fun r w'=>∃A1 c1 A2 c2,r= .returned (.tuple #[.agg #[.slice A1 (eP (fM m xs a x).1.n).length c1,.slice A2 (eP (fM m xs a x).1.d).length c2],.int .i64 (fM m xs a x).2.1,.int .i64 (fM m xs a x).2.2])/\eU w' w.heap.size 143 dv 1 A1 (eP (fM m xs a x).1.n).length c1 (eP (fM m xs a x).1.n)/\eU w' w.heap.size 143 dv 1 A2 (eP (fM m xs a x).1.d).length c2 (eP (fM m xs a x).1.d)/\Le w w':=by
 have hl:=hV.1
 have hgm:=hP.good
 refine enter func70 rfl rfl ?_
 have L0:=Le.refl w
 refine Sr (W.ef rfl rfl rfl (Ef.fI z37 fun X Y aH (C:fA Y X 37 #[.slice none 0 0,.slice none 0 0]) Z=>?_))
 have L1:=L0.trans Z
 refine Wn 2 rfl (Nx (Sr (Wn 3 rfl (W.cl Yq rfl rfl (Mq a x Y (hV.le L1) (by omega)) ?_))))
 rintro _ I ⟨ah,ai,bQ,bR,rfl,R,bS,j⟩
 have L2:=L1.trans j
 refine Wn 7 rfl (Nx (Sq (Sr (Wn 2 rfl (Nx ?_)))))
 by_cases c0:((fq xs a x).2.2)≠0
 ·refine Cy rfl (dT c0) (Sr (Wa (.gF [.slice none 0 0,.slice none 0 0] jY z37 rfl rfl) rfl (Wn 1 rfl (W.sA gV rfl rfl (C.le j) ?_))))
  intro bp aj bq
  have aj:fA bp X 37 #[.slice none 0 0,.slice none 0 0]:=aj
  have L4:=L2.tb bq L0 aH
  refine Wn 2 rfl (Nx (Rt (E.eX (E.gU rfl (iB rfl aj gQ (by rfl)) rfl rfl ?_))))
  have hod:fM m xs a x=(⟨0,0⟩,0,(fq xs a x).2.2):=if_neg (by assumption)
  rw[hod]
  exact⟨none,0,none,0,by simp only[eT];rfl,by simp only[eT];exact eU.nil _ _ _ _ _ _,by simp only[eT];exact eU.nil _ _ _ _ _ _,L4⟩
 refine Cn rfl (dF c0) ?_
 have hcl:=rU (Decidable.not_not.1 (by assumption):(fq xs a x).2.2=0)
 have hwl:=kZ (l7 (Decidable.not_not.1 (by assumption):(fq xs a x).2.2=0)).1
 refine Sn (Sr (W.cl Wx rfl rfl (KA 1 1 I (by omega) (by omega) (by omega)) ?_))
 rintro _ bT ⟨ak,al,am,an,rfl,aI,aJ,h⟩
 have L5:=L2.trans h
 refine Wn 1 rfl (Wa (.extract (v:= .agg #[.slice ak ((eP ((gY 1 1).n)).length) al,.slice am ((eP ((gY 1 1).d)).length) an]) rfl rfl) rfl (Wn 1 rfl (W.ef rfl rfl rfl (Ef.fI z37 fun J bs S (bt:fA bs J 37 #[.slice none 0 0,.slice none 0 0]) D=>(W.sA gV rfl rfl bt ?_)))))
 intro aK ao H
 have ao:fA aK J 37 #[.slice ak ((eP ((gY 1 1).n)).length) al,.slice am ((eP ((gY 1 1).d)).length) an]:=ao
 refine Wn 1 rfl (Nx (Sq (Sr (Wn 1 rfl (Wr (.len underlying22 rfl) rfl (Wn 1 rfl (Nx (WC.block ?_))))))))
 have bu:=((hP.le (Z.trans (j.trans (h.trans D)))).ch H (fun q hqq hF=>by cases hqq;have:=hP.lt hF;have:=Z.size;have:=j.size;have:=h.size;have:=S;omega))
 refine WC.loop (ι:=Nat×(Option Addr)×Nat×(Option Addr)×Nat) (fun⟨k,Ax,cx,Ay,cy⟩=>[(0,.pointer (some ⟨gp,0,none⟩)),(8,.pointer (some ⟨X,0,none⟩)),(11,.slice ah ((fq xs a x).1.length) ai),(14,.pointer (some ⟨J,0,none⟩)),(36,.slice A n c),(37,.int .i64 ((n:Nat):Int)),(38,.int .i64 ((k:Nat):Int))]) (fun⟨k,Ax,cx,Ay,cy⟩ s=>(k<=n)/\Le w s/\aK.heap.size<=s.heap.size/\iN s base gp F m/\fA s X 37 #[.slice none 0 0,.slice none 0 0]/\eU s Y.heap.size 3 iv 1 ah ((fq xs a x).1.length) ai ((fq xs a x).1)/\fA s J 37 #[.slice Ax ((eP (ji m xs (fq xs a x).1 k).n).length) cx,.slice Ay ((eP (ji m xs (fq xs a x).1 k).d).length) cy]/\eU s I.heap.size 143 dv 1 Ax ((eP (ji m xs (fq xs a x).1 k).n).length) cx (eP (ji m xs (fq xs a x).1 k).n)/\eU s I.heap.size 143 dv 1 Ay ((eP (ji m xs (fq xs a x).1 k).d).length) cy (eP (ji m xs (fq xs a x).1 k).d)) (fun⟨k,Ax,cx,Ay,cy⟩=>n-k) (0,ak,al,am,an) ?_ ?_ ?_
 ·exact .of rfl
 ·exact⟨Nat.zero_le _,((L5.trans D).tb H L5 S),Nat.le_refl _,bu,((C.le (j.trans (h.trans D))).cn H (by have:=C.lt;have:=j.size;have:=h.size;omega)),((R.le (h.trans D)).cb H (R.rn (by have:=h.size;omega))),ao,((aI.le D).cb H (aI.rn (by omega))),((aJ.le D).cb H (aJ.rn (by omega)))⟩
 rintro⟨k,Ax,cx,Ay,cy⟩ s ⟨hk,ad,aL,aa,K,ap,L,N,O⟩
 have bU:Y.heap.size<=s.heap.size:=by have:=j.size;have:=h.size;have:=D.size;have:=H.size;omega
 have bV:I.heap.size<=s.heap.size:=by have:=h.size;have:=D.size;have:=H.size;omega
 have bW:I.heap.size<=s.heap.size:=by have:=h.size;have:=D.size;have:=H.size;omega
 have hal:=xN hgm xs (fq xs a x).1 k
 have hol:=yJ hgm (xs.getD k eO) ((fq xs a x).1.getD k 0)
 refine Sr (Wn 1 rfl (Nx (Sq ?_)))
 by_cases c1:((k:Nat):Int)<((n:Nat):Int)
 ·refine Cy rfl (dT c1) (Sn (Sq (WC.block (Sr (Wn 1 rfl (Wa (.fV k underlying22 iI rfl rfl (hV.isSome eQ (by omega)) rfl (by omega)) rfl (Wr (.j5 iJ rfl (hV.le ad) eQ (gD xs eO (by omega))) rfl (W.ef rfl rfl rfl (Ef.fI z66 ?_)))))))))
  intro aM bv aq ar e
  have ar:fA bv aM 66 (fD eO).toArray:=ar
  refine Wn 1 rfl (W.iO rfl rfl (Ef.storeAll iI (by rfl) rfl rfl ar (by simp only[List.size_toArray,eQ.len]) (eQ.one (xs.getD k eO)) ?_))
  intro bw au f
  have au:fA bw aM 66 (fD (xs.getD k eO)).toArray:=au
  refine Nx (Sq (WC.Pw (fun o=>(app o [0,1,2,3,4,5] (.br (app o [6,7,8,9,10,11,12] .nil) (app o [10,6,7,8,9,11,12] .nil)))) mixed (by kernel_rfl) fun w8 b=>?_))
  have av:=((ad.trans e).tb f ad aq).trans b
  refine GT.app (Gn 1 rfl (Gd rfl (.fB iJ (by rfl) rfl (au.le b)) ?_))
  refine Gn 2 rfl (Ga rfl (.fV k underlying47 kR rfl rfl (R.vec.isSome fT (by omega)) rfl (by omega)) ?_)
  have ab:=(((ap.le e).cb f (ap.rn (by omega))).le b)
  refine Gd rfl (.jB (v:= .int .i64 (((fq xs a x).1).getD k 0)) gM rfl ab.vec fT (gD ((fq xs a x).1) 0 (by first|omega|(simp only[List.length_cons,List.length_nil];omega))) rfl) ?_
  refine G.nil (GT.br ?_ ?_)
  ·refine GT.last ?_
   have aw:=(((aa.le e).ch f (fun q hqq hF=>by cases hqq;have:=aa.lt hF;have:=aq;omega)).le b)
   refine G.ef rfl rfl rfl rfl rfl (Ef.call Vn rfl rfl (ED (xs.getD k eO) (((fq xs a x).1).getD k 0) aw) ?_)
   rintro _ bX ⟨aO,aP,aQ,aR,rfl,aS,aT,i⟩
   refine⟨_,rfl,?_⟩
   refine⟨fun _=>i,?_⟩
   have aU:=av.trans i
   refine Gn 1 rfl (Ga rfl (.extract (v:= .agg #[.slice aO ((eP ((gN m (xs.getD k eO) (((fq xs a x).1).getD k 0)).n)).length) aP,.slice aQ ((eP ((gN m (xs.getD k eO) (((fq xs a x).1).getD k 0)).d)).length) aR]) rfl rfl) (Gn 1 rfl (G.ef rfl rfl rfl rfl rfl (Ef.fI z37 fun aV bx aW (bz:fA bx aV 37 #[.slice none 0 0,.slice none 0 0]) l=>⟨fun _=>l,?_⟩))))
   refine G.iO rfl rfl rfl rfl (Ef.storeAll gV (by rfl) rfl rfl bz (by rfl) (by simp[Value.oneCell']) ?_)
   intro aX ax t
   refine noT (by kernel_rfl) ?_
   have ax:fA aX aV 37 #[.slice aO ((eP ((gN m (xs.getD k eO) (((fq xs a x).1).getD k 0)).n)).length) aP,.slice aQ ((eP ((gN m (xs.getD k eO) (((fq xs a x).1).getD k 0)).d)).length) aR]:=ax
   refine Gn 1 rfl (G.nil (E.eY (WC.region ?_)))
   have ae:=((((L.le e).cn f (by have:=L.lt;omega)).le (b.trans (i.trans l))).cn t (by have:=L.lt;have:=e.size;have:=f.size;have:=b.size;have:=i.size;omega))
   refine Wr (.fB gQ (by rfl) rfl ae) rfl ?_
   refine Wr (.fB gQ (by rfl) rfl ax) rfl ?_
   refine W.cl Wz rfl rfl (yI aX ((((N.le e).cb f (N.rn (by omega))).le (b.trans (i.trans l))).cb t (N.rn (by have:=e.size;have:=f.size;have:=b.size;have:=i.size;omega))).vec ((((O.le e).cb f (O.rn (by omega))).le (b.trans (i.trans l))).cb t (O.rn (by have:=e.size;have:=f.size;have:=b.size;have:=i.size;omega))).vec (by omega) (by omega) ((aS.le l).cb t (aS.rn (by omega))).vec ((aT.le l).cb t (aT.rn (by omega))).vec (by omega) (by omega)) ?_
   rintro _ bY ⟨aY,aZ,a0,a1,rfl,a2,a3,T⟩
   refine W.sA gV rfl rfl (ae.le T) ?_
   intro bA ay P
   have ay:fA bA J 37 #[.slice aY ((eP ((jW (fE (⟨((ji m xs (fq xs a x).1 k).n),((ji m xs (fq xs a x).1 k).d)⟩:Fr)) (fE (⟨((gN m (xs.getD k eO) (((fq xs a x).1).getD k 0)).n),((gN m (xs.getD k eO) (((fq xs a x).1).getD k 0)).d)⟩:Fr))).n)).length) aZ,.slice a0 ((eP ((jW (fE (⟨((ji m xs (fq xs a x).1 k).n),((ji m xs (fq xs a x).1 k).d)⟩:Fr)) (fE (⟨((gN m (xs.getD k eO) (((fq xs a x).1).getD k 0)).n),((gN m (xs.getD k eO) (((fq xs a x).1).getD k 0)).d)⟩:Fr))).d)).length) a1]:=ay
   refine W.nil (E.gI (E.eY (WC.region (Wa (.add rfl rfl (by omega)) rfl (Wn 1 rfl (W.nil ?_))))))
   have bB:=((((aw.le (i.trans l)).ch t (fun q hqq hF=>by cases hqq;have:=aw.lt hF;have:=i.size;have:=aW;omega)).le T).ch P (fun q hqq hF=>by cases hqq;have:=hP.lt hF;have:=Z.size;have:=j.size;have:=h.size;have:=S;omega))
   have bC:=((((((K.le e).cn f (by have:=K.lt;omega)).le (b.trans (i.trans l))).cn t (by have:=K.lt;have:=e.size;have:=f.size;have:=b.size;have:=i.size;omega)).le T).cn P (by have:=C.lt;have:=j.size;have:=h.size;omega))
   have bD:=((((ab.le (i.trans l)).cb t (ab.rn (by have:=i.size;omega))).le T).cb P (R.rn (by have:=h.size;omega)))
   have bE:=(a2.cb P (a2.rl (by have:=ae.lt;omega)))
   have bF:=(a3.cb P (a3.rl (by have:=ae.lt;omega)))
   refine E.again (k+1,aY,aZ,a0,a1) (.of rfl) ?_ ?_
   ·exact⟨by omega,((((aU.trans l).tb t aU aW).trans T).tb P L5 S),by have:=aL;have:=e.size;have:=f.size;have:=b.size;have:=i.size;have:=l.size;have:=t.size;have:=T.size;have:=P.size;omega,bB,bC,bD,ay,(bE.mono (by have:=e.size;have:=f.size;have:=b.size;have:=i.size;have:=l.size;have:=t.size;omega)),(bF.mono (by have:=e.size;have:=f.size;have:=b.size;have:=i.size;have:=l.size;have:=t.size;omega))⟩
   first|omega|(simp only[];omega)
  refine GT.last (G.ef rfl rfl rfl rfl rfl (Ef.fI z37 fun a4 bG a5 (az:fA bG a4 37 #[.slice none 0 0,.slice none 0 0]) z=>⟨fun _=>z,?_⟩))
  have a6:=(((aa.le e).ch f (fun q hqq hF=>by cases hqq;have:=aa.lt hF;have:=aq;omega)).le (b.trans z))
  refine G.ef rfl rfl rfl rfl rfl (Ef.call Vn rfl rfl (ED (xs.getD k eO) (((fq xs a x).1).getD k 0) a6) ?_)
  rintro _ bZ ⟨a7,a8,a9,ba,rfl,bb,bc,u⟩
  refine⟨_,rfl,?_⟩
  refine⟨fun _=>u,?_⟩
  refine Gn 1 rfl (Ga rfl (.extract (v:= .agg #[.slice a7 ((eP ((gN m (xs.getD k eO) (((fq xs a x).1).getD k 0)).n)).length) a8,.slice a9 ((eP ((gN m (xs.getD k eO) (((fq xs a x).1).getD k 0)).d)).length) ba]) rfl rfl) (Gn 1 rfl (G.iO rfl rfl rfl rfl (Ef.storeAll gV (by rfl) rfl rfl (az.le u) (by rfl) (by simp[Value.oneCell']) ?_))))
  intro bd aA y
  refine noT (by kernel_rfl) ?_
  have aA:fA bd a4 37 #[.slice a7 ((eP ((gN m (xs.getD k eO) (((fq xs a x).1).getD k 0)).n)).length) a8,.slice a9 ((eP ((gN m (xs.getD k eO) (((fq xs a x).1).getD k 0)).d)).length) ba]:=aA
  refine Gn 1 rfl (G.nil (E.eY (WC.region ?_)))
  have af:=((((L.le e).cn f (by have:=L.lt;omega)).le (b.trans (z.trans u))).cn y (by have:=L.lt;have:=e.size;have:=f.size;have:=b.size;omega))
  refine Wr (.fB gQ (by rfl) rfl af) rfl ?_
  refine Wr (.fB gQ (by rfl) rfl aA) rfl ?_
  refine W.cl Wz rfl rfl (yI bd ((((N.le e).cb f (N.rn (by omega))).le (b.trans (z.trans u))).cb y (N.rn (by have:=e.size;have:=f.size;have:=b.size;omega))).vec ((((O.le e).cb f (O.rn (by omega))).le (b.trans (z.trans u))).cb y (O.rn (by have:=e.size;have:=f.size;have:=b.size;omega))).vec (by omega) (by omega) (bb.cb y (bb.rl (by have:=az.lt;omega))).vec (bc.cb y (bc.rl (by have:=az.lt;omega))).vec (by omega) (by omega)) ?_
  rintro _ b0 ⟨be,bf,bg,bh,rfl,bi,bj,U⟩
  refine W.sA gV rfl rfl (af.le U) ?_
  intro bH aB Q
  have aB:fA bH J 37 #[.slice be ((eP ((jW (fE (⟨((ji m xs (fq xs a x).1 k).n),((ji m xs (fq xs a x).1 k).d)⟩:Fr)) (fE (⟨((gN m (xs.getD k eO) (((fq xs a x).1).getD k 0)).n),((gN m (xs.getD k eO) (((fq xs a x).1).getD k 0)).d)⟩:Fr))).n)).length) bf,.slice bg ((eP ((jW (fE (⟨((ji m xs (fq xs a x).1 k).n),((ji m xs (fq xs a x).1 k).d)⟩:Fr)) (fE (⟨((gN m (xs.getD k eO) (((fq xs a x).1).getD k 0)).n),((gN m (xs.getD k eO) (((fq xs a x).1).getD k 0)).d)⟩:Fr))).d)).length) bh]:=aB
  have bI:=((((av.trans z).trans u).tb y av a5).trans U).tb Q L5 S
  refine W.nil (E.gI (E.eY (WC.region (Wa (.add rfl rfl (by omega)) rfl (Wn 1 rfl (W.nil ?_))))))
  have bJ:=((((a6.le u).ch y (fun q hqq hF=>by cases hqq;have:=aa.lt hF;have:=e.size;have:=f.size;have:=b.size;have:=a5;omega)).le U).ch Q (fun q hqq hF=>by cases hqq;have:=hP.lt hF;have:=Z.size;have:=j.size;have:=h.size;have:=S;omega))
  have bK:=((((((K.le e).cn f (by have:=K.lt;omega)).le (b.trans (z.trans u))).cn y (by have:=K.lt;have:=e.size;have:=f.size;have:=b.size;omega)).le U).cn Q (by have:=C.lt;have:=j.size;have:=h.size;omega))
  have bL:=((((ab.le (z.trans u)).cb y (ab.rn (by omega))).le U).cb Q (R.rn (by have:=h.size;omega)))
  have bM:=(bi.cb Q (bi.rl (by have:=af.lt;omega)))
  have bN:=(bj.cb Q (bj.rl (by have:=af.lt;omega)))
  refine E.again (k+1,be,bf,bg,bh) (.of rfl) ?_ ?_
  ·exact⟨by omega,bI,by have:=aL;have:=e.size;have:=f.size;have:=b.size;have:=z.size;have:=u.size;have:=y.size;have:=U.size;have:=Q.size;omega,bJ,bK,bL,aB,(bM.mono (by have:=e.size;have:=f.size;have:=b.size;have:=z.size;have:=u.size;have:=y.size;omega)),(bN.mono (by have:=e.size;have:=f.size;have:=b.size;have:=z.size;have:=u.size;have:=y.size;omega))⟩
  first|omega|(simp only[];omega)
 refine Cn rfl (dF c1) (WC.exit (E.fC (E.fC (E.gW (E.eY (Sq (WC.PD (fun bO w'=>Le w w'/\fA w' J 37 #[.slice Ax ((eP (ji m xs (fq xs a x).1 k).n).length) cx,.slice Ay ((eP (ji m xs (fq xs a x).1 k).d).length) cy]/\eU w' I.heap.size 143 dv 1 Ax ((eP (ji m xs (fq xs a x).1 k).n).length) cx (eP (ji m xs (fq xs a x).1 k).n)/\eU w' I.heap.size 143 dv 1 Ay ((eP (ji m xs (fq xs a x).1 k).d).length) cy (eP (ji m xs (fq xs a x).1 k).d)/\eU w' Y.heap.size 3 iv 1 ah ((fq xs a x).1.length) ai ((fq xs a x).1)) [0,1,2,3,4,5,6] mixed (by kernel_rfl) fun bO V=>?_)))))))
 have bk:=ad.trans V
 have bl:=(L.le V)
 have aC:=(N.le V)
 have aE:=(O.le V)
 have aF:=(ap.le V)
 refine⟨⟨bk,bl,aC,aE,aF⟩,?_⟩
 refine GS.rd rfl rfl (fun w' hs=> .fB gQ (by rfl) rfl hs.2.1) rfl rfl rfl ?_
 refine GS.any rfl rfl (.move rfl) rfl rfl rfl (GS.any rfl rfl (.fV 0 underlying47 kR rfl rfl (R.vec.isSome fT (by omega)) rfl (by omega)) rfl rfl rfl (GS.rd rfl rfl (fun w' hs=> .jB (v:= .int .i64 (((fq xs a x).1).getD 0 0)) gM rfl hs.2.2.2.2.vec fT (gD ((fq xs a x).1) 0 (by first|omega|(simp only[List.length_cons,List.length_nil];omega))) rfl) rfl rfl rfl ?_))
 refine GS.iO rfl rfl rfl rfl (Ef.storeAll gV (by rfl) rfl rfl (K.le V) (by rfl) (by simp[Value.oneCell']) ?_)
 intro bP aG ac
 have aG:fA bP X 37 #[.slice Ax ((eP (ji m xs (fq xs a x).1 k).n).length) cx,.slice Ay ((eP (ji m xs (fq xs a x).1 k).d).length) cy]:=aG
 have bm:=bk.tb ac L0 aH
 have bn:=(aC.cb ac (aC.rl (by have:=C.lt;have:=j.size;omega)))
 have bo:=(aE.cb ac (aE.rl (by have:=C.lt;have:=j.size;omega)))
 refine⟨⟨bm,(bl.cn ac (by have:=C.lt;have:=j.size;have:=h.size;omega)),bn,bo,(aF.cb ac (aF.rl (by have:=C.lt;omega)))⟩,?_⟩
 refine GS.any rfl rfl (.assign rfl) rfl rfl rfl (GS.any rfl rfl (.assign rfl) rfl rfl rfl (GS.nil (E.eY (Rt (E.gU rfl (iB rfl aG gQ (by rfl)) rfl rfl ?_)))))
 have hkn:k=n:=(by omega)
 subst hkn
 have hod:fM m xs a x=(ji m xs (fq xs a x).1 xs.length,(fq xs a x).1.getD 0 0,0):=if_pos (Decidable.not_not.1 (by assumption))
 rw[hod,hl]
 exact⟨_,_,_,_,rfl,(bn.mono L2.size),(bo.mono L2.size),bm⟩


end Go.Proofs.YtkaedikifgpkeaaGreatDoor

namespace Go.Proofs.YtkaedikifgpkeaaGreatDoor
open Tryz
open Go Go.Sx Go.Num Go.fO Go.oF Go.uI Go.tH
set_option maxRecDepth 20000
theorem Ct {xs ys:List fO.Edge}{k:Nat}(h1:k<xs.length)(h2:k<ys.length):je (xs.drop k) (ys.drop k)=if kg (xs.getD k eO).c (ys.getD k eO).c≠0 then kg (xs.getD k eO).c (ys.getD k eO).c else je (xs.drop (k+1)) (ys.drop (k+1)):=by
  rw[List.drop_eq_getElem_cons h1,List.drop_eq_getElem_cons h2,je]
  simp[List.getD,h1,h2]
theorem Cu {xs ys:List fO.Edge}{k:Nat}(h1:k<xs.length)(h2:ys.length<=k):je (xs.drop k) (ys.drop k)=1:=by
  rw[List.drop_eq_getElem_cons h1,List.drop_of_length_le h2,je]
theorem zi {xs ys:List fO.Edge}{k:Nat}(h1:xs.length<=k)(h2:k<ys.length):je (xs.drop k) (ys.drop k)= -1:=by
  rw[List.drop_eq_getElem_cons h2,List.drop_of_length_le h1,je]
theorem Cv {xs ys:List fO.Edge}{k:Nat}(h1:xs.length<=k)(h2:ys.length<=k):je (xs.drop k) (ys.drop k)=0:=by
  rw[List.drop_of_length_le h2,List.drop_of_length_le h1,je]
theorem Us (x y:fO.Edge)(w:World):Calls prog 131 #[.agg (fD x).toArray,.agg (fD y).toArray] w fun r w'=>r= .returned (.int .i64 (kg x.c y.c))/\Le w w':=by
 refine enter func131 rfl rfl (Sr (W.ef rfl rfl rfl (Ef.iM rfl fun e f m (h:fA f e 66 (fD x).toArray) i=>(W.ef rfl rfl rfl (Ef.iM rfl fun j b n (k:fA b j 66 (fD y).toArray) d=>(Wn 1 rfl (Nx (Sr ?_))))))))
 refine Wa (.eZ iY rfl) rfl (Wr (.fe (v:= .int .i64 x.c) gM rfl (h.le d) rfl) rfl (Wa (.eZ iY rfl) rfl (Wr (.fe (v:= .int .i64 y.c) gM rfl k rfl) rfl (W.cl Ii rfl rfl (ui x.c y.c b) ?_))))
 rintro _ o ⟨rfl,l⟩
 refine Wn 1 rfl (Nx (Rt (E.fu rfl rfl ?_)))
 exact⟨rfl,((((Le.refl w).trans i).trans d).trans l)⟩

theorem qO (n lo hi:Int)(w:World):Calls prog 68 #[.int .i64 n,.int .i64 lo,.int .i64 (hi)] w fun r w'=>r= .returned (.bool (jv n lo hi))/\Le w w':=by
 refine enter func68 rfl rfl ?_
 have c:=Le.refl w
 refine Sr (Wn 1 rfl (Nx (Sr (Wn 3 rfl ?_))))
 by_cases b:lo<=n
 ·refine Dt b rfl rfl (Wn 5 rfl (Nx (Rt (E.fu rfl rfl ?_))))
  exact⟨rB (by simp[jv,b]),c⟩
 refine Df b rfl rfl (Wn 5 rfl (Nx (Rt (E.fu rfl rfl ?_))))
 exact⟨rB (by simp[jv,b]),c⟩

theorem KE {A A2:Option Addr}{n c n2 c2:Nat}{xs ys:List fO.Edge}(w:World)(hV:Vec w fD 9 A n xs)(hW:Vec w fD 9 A2 n2 ys)(hn:n<=1000000)(hn2:n2<=1000000):Calls prog 130 #[.slice A n c,.slice A2 n2 c2,.func (.func 131) #[] #[]] w fun r w'=>r= .returned (.int .i64 (je xs ys))/\Le w w':=by
 have hl:=hV.1;have O:=hW.1
 refine enter func130 rfl rfl (Sr (Wn 1 rfl (Nx (Sq (Sr (Wn 1 rfl (Wr (.len underlying22 rfl) rfl (Wn 1 rfl (Nx (WC.block (WC.loop (ι:=Nat) (fun k=>[(0,.slice A n c),(1,.slice A2 n2 c2),(2,.func (.func 131) #[] #[]),(11,.slice A n c),(12,.int .i64 ((n:Nat):Int)),(13,.int .i64 ((k:Nat):Int))]) (fun k f=>(k<=n)/\(k<=n2\/k<=n)/\(je xs ys=je (xs.drop k) (ys.drop k))/\Le w f/\w.heap.size<=f.heap.size) (fun k=>n-k) 0 ?_ ?_ ?_)))))))))))
 ·exact .of rfl
 ·exact⟨Nat.zero_le _,Or.inl (Nat.zero_le _),rfl,(Le.refl w),Nat.le_refl _⟩
 rintro k f ⟨hk,P,hrc,b,H⟩
 refine Sr (Wn 1 rfl (Nx (Sq ?_)))
 by_cases o:((k:Nat):Int)<((n:Nat):Int)
 ·refine Cy rfl (dT o) (Sn (Sq (WC.block (Sr (Wn 1 rfl (Wa (.fV k underlying22 iI rfl rfl (hV.isSome eQ (by omega)) rfl (by omega)) rfl (Wr (.j5 iJ rfl (hV.le b) eQ (gD xs eO (by omega))) rfl (W.ef rfl rfl rfl (Ef.fI z66 ?_)))))))))
  intro s I J h t
  have h:fA I s 66 (fD eO).toArray:=h
  refine Wn 1 rfl (W.iO rfl rfl (Ef.storeAll iI (by rfl) rfl rfl h (by simp only[List.size_toArray,eQ.len]) (eQ.one (xs.getD k eO)) ?_))
  intro K d u
  have d:fA K s 66 (fD (xs.getD k eO)).toArray:=d
  have e:=(b.trans t).tb u b J
  refine Nx (Sq (Sr (Wn 2 rfl (Wr (.len underlying22 rfl) rfl (Wn 1 rfl (Nx ?_))))))
  by_cases x:((n2:Nat):Int)<=((k:Nat):Int)
  ·refine Cy rfl (dT x) (Sr (Wn 1 rfl (Nx (Rt (E.eX (E.gT (E.eX (E.eX (E.gT (E.eX (E.fu rfl rfl ?_)))))))))))
   exact⟨congrArg (fun v=>Ending.returned (Value.int .i64 v)) (hrc.trans (Cu (by omega) (by omega))).symm,e⟩
  refine Cn rfl (dF x) (Sn (Sr (Wn 2 rfl (Wa (.fV k underlying22 iI rfl rfl (hW.isSome eQ (by omega)) rfl (by omega)) rfl (Wr (.j5 iJ rfl (hW.le e) eQ (gD ys eO (by omega))) rfl (W.ef rfl rfl rfl (Ef.fI z66 ?_)))))))
  intro y L N i j
  have i:fA L y 66 (fD eO).toArray:=i
  refine W.iO rfl rfl (Ef.storeAll iI (by rfl) rfl rfl i (by simp only[List.size_toArray,eQ.len]) (eQ.one (ys.getD k eO)) ?_)
  intro z l m
  have l:fA z y 66 (fD (ys.getD k eO)).toArray:=l
  refine Nx (Sr (Wn 1 rfl (Wr (.fB iJ (by rfl) rfl ((d.le j).cn m (by have:=d.lt;omega))) rfl ?_)))
  refine Wr (.fB iJ (by rfl) rfl l) rfl ?_
  refine W.cl YT rfl rfl (Us (xs.getD k eO) (ys.getD k eO) z) ?_
  rintro _ Q ⟨rfl,C⟩
  have D:=((e.trans j).tb m e N).trans C
  refine Wn 1 rfl (Nx (Sr (Wn 2 rfl (Nx ?_))))
  by_cases c2:(kg (xs.getD k eO).c (ys.getD k eO).c)≠0
  ·refine Cy rfl (dT c2) (Sr (Wn 2 rfl (Nx (Rt (E.gT (E.eX (E.eX (E.gT (E.eX (E.fu rfl rfl ?_))))))))))
   exact⟨congrArg (fun v=>Ending.returned (Value.int .i64 v)) (hrc.trans (by rw[Ct (by omega) (by omega),if_pos (by assumption)])).symm,D⟩
  refine Cn rfl (dF c2) (WC.skip (E.gI (E.eY (WC.region (Wa (.add rfl rfl (by omega)) rfl (Wn 1 rfl (W.nil (E.again (k+1) (.of rfl) ?_ ?_))))))))
  ·exact⟨by omega,by omega,by rw[hrc,Ct (by omega) (by omega),if_neg (by assumption)],D,by have:=H;have:=t.size;have:=u.size;have:=j.size;have:=m.size;have:=C.size;omega⟩
  first|omega|(simp only[];omega)
 refine Cn rfl (dF o) (WC.exit (E.fC (E.fC (E.gW (E.eY (Sq (Sr (Wn 1 rfl (Wr (.len underlying22 rfl) rfl (Wn 1 rfl (Wr (.len underlying22 rfl) rfl (Wn 1 rfl (Nx ?_)))))))))))))
 by_cases F:((n:Nat):Int)<((n2:Nat):Int)
 ·refine Cy rfl (dT F) (Sr (Wn 1 rfl (Nx (Rt (E.eX (E.fu rfl rfl ?_))))))
  exact⟨congrArg (fun v=>Ending.returned (Value.int .i64 v)) (hrc.trans (zi (by omega) (by omega))).symm,b⟩
 refine Cn rfl (dF F) (Sn (Sr (Wn 1 rfl (Nx (Rt (E.fu rfl rfl ?_))))))
 exact⟨congrArg (fun v=>Ending.returned (Value.int .i64 v)) (hrc.trans (Cv (by omega) (by omega))).symm,b⟩

theorem N9 {ML uk um:Option Addr}{Gc OI qz cn1 qA cd1 p1 q1:Nat}{Cw:List fO.Edge}{s1:Int}{MM uo uq:Option Addr}{Gz OJ qB cn2 qC cd2 p2 q2:Nat}{Cx:List fO.Edge}{s2:Int}(w:World)(hw1:Vec w fD 9 ML Gc Cw)(hn1:Vec w dv 1 uk qz (eP p1))(hd1:Vec w dv 1 um qA (eP q1))(bw1:Gc<=10000)(Xg:qz<=10000)(Xh:qA<=10000)(hw2:Vec w fD 9 MM Gz Cx)(hn2:Vec w dv 1 uo qB (eP p2))(hd2:Vec w dv 1 uq qC (eP q2))(bw2:Gz<=10000)(Xi:qB<=10000)(Xj:qC<=10000):Calls prog 71 #[.agg #[.slice ML Gc OI,.slice uk qz cn1,.slice um qA cd1,.int .i64 (s1)],.agg #[.slice MM Gz OJ,.slice uo qB cn2,.slice uq qC cd2,.int .i64 (s2)]] w fun r w'=>r= .returned (.bool (u7 (⟨Cw,⟨p1,q1⟩,s1⟩:kY) (⟨Cx,⟨p2,q2⟩,s2⟩:kY)))/\Le w w':=by
 have L:=hw1.1;have N:=hn1.1;have O:=hd1.1
 have P:=hw2.1;have Q:=hn2.1;have R:=hd2.1
 refine enter func71 rfl rfl (Sr (W.ef rfl rfl rfl (Ef.iM rfl fun y z S (A:fA z y 122 #[.slice ML Gc OI,.slice uk qz cn1,.slice um qA cd1,.int .i64 (s1)]) C=>(W.ef rfl rfl rfl (Ef.iM rfl fun D i T (j:fA i D 122 #[.slice MM Gz OJ,.slice uo qB cn2,.slice uq qC cd2,.int .i64 (s2)]) k=>?_)))))
 have c:=((Le.refl w).trans C).trans k
 refine Wn 1 rfl (Nx (Sr (Wa (.eZ uO rfl) rfl ?_)))
 have l:=(A.le k)
 refine Wr (.fe (v:= .slice ML Gc OI) ni rfl l rfl) rfl (Wa (.eZ uO rfl) rfl (Wr (.fe (v:= .slice MM Gz OJ) ni rfl j rfl) rfl (W.cl YS rfl rfl (KE i (hw1.le c) (hw2.le c) (by omega) (by omega)) ?_)))
 rintro _ U ⟨rfl,d⟩
 refine Wn 1 rfl (Nx (Sq (WC.draw [0,1,2,3,5,6,7,8,10,4,9,11,12,13,14] mixed (by kernel_rfl) fun F e=>?_)))
 have b:=(c.trans d).trans e
 refine Ga rfl (.eZ AL rfl) ?_
 have m:=(j.le (d.trans e))
 refine Gd rfl (.vO [.slice uo qB cn2,.slice uq qC cd2] gQ rfl (by decide) rfl m rfl) (Ga rfl (.eZ AL rfl) ?_)
 have n:=(l.le (d.trans e))
 refine Gd rfl (.vO [.slice uk qz cn1,.slice um qA cd1] gQ rfl (by decide) rfl n rfl) (Ga rfl (.eZ Mg rfl) (Gd rfl (.fe (v:= .int .i64 s1) gM rfl n rfl) (Ga rfl (.eZ Mg rfl) (Gd rfl (.fe (v:= .int .i64 s2) gM rfl m rfl) (Gn 1 rfl ?_)))))
 refine G.ef rfl rfl rfl rfl rfl (Ef.call WB rfl rfl (F9 F (hn2.le b) (hd2.le b) (by omega) (by omega) (hn1.le b) (hd1.le b) (by omega) (by omega)) ?_)
 rintro _ H ⟨rfl,o⟩
 refine⟨_,rfl,?_⟩
 refine⟨fun _=>o,?_⟩
 refine G.ef rfl rfl rfl rfl rfl (Ef.call Ii rfl rfl (ui s1 s2 H) ?_)
 rintro _ I ⟨rfl,s⟩
 refine⟨_,rfl,?_⟩
 refine⟨fun _=>s,?_⟩
 refine G.ef rfl rfl rfl rfl rfl (Ef.gq (len:=3) [_,_,_] underlying47 Gx rfl (by simp[Value.cells]) rfl (by decide) (by decide) ?_)
 intro t f J h u
 refine⟨fun _=>u,?_⟩
 have h:fA f t 3 (([(kQ (fE (⟨p2,q2⟩:Fr)) (fE (⟨p1,q1⟩:Fr))),(F4 s1 s2),(je Cw Cx)]).map iv).flatten.toArray:=h
 have K:eU f I.heap.size 3 iv 1 (some ⟨t,0,none⟩) 3 3 ([(kQ (fE (⟨p2,q2⟩:Fr)) (fE (⟨p1,q1⟩:Fr))),(F4 s1 s2),(je Cw Cx)]):=h.kL J fT rfl rfl (by decide)
 refine G.ef rfl rfl rfl rfl rfl (Ef.call Vo rfl rfl (Qx f K.vec (by decide)) ?_)
 rintro _ V ⟨rfl,x⟩
 refine⟨_,rfl,?_⟩
 refine⟨fun _=>x,?_⟩
 refine Gn 2 rfl (G.nil (E.eY (Rt (E.fu rfl rfl ?_))))
 exact⟨rfl,((((b.trans o).trans s).trans u).trans x)⟩
end Go.Proofs.YtkaedikifgpkeaaGreatDoor

namespace Go.tH
open Go.fO Go.oF Go.uI Go.Proofs.YtkaedikifgpkeaaGreatDoor
structure TP {α:Type}(c:α->α->Int):Prop where
  vG:∀x y,c y x= -(c x y)
  trans:∀x y z,c x y<=0->c y z<=0->c x z<=0
theorem TP.refl {α:Type}{c:α->α->Int}(h:TP c)(x:α):c x x=0:=by have:=h.vG x x;omega
theorem TP.lex {α:Type}{c d:α->α->Int}(h:TP c)(k:TP d):TP (fun x y=>if c x y≠0 then c x y else d x y):=by
  refine⟨fun x y=>?_,fun x y z b e=>?_⟩
  · have:=h.vG x y
    have:=k.vG x y
    split<;>split<;>omega
  · have f:=h.trans x y z
    have i:=h.trans y z x
    have j:=h.trans z x y
    have l:=h.vG x y
    have m:=h.vG y z
    have n:=h.vG x z
    have:=k.trans x y z
    split at b<;>split at e<;>split<;>omega
theorem TP.Ra {α β:Type}{c:β->β->Int}(h:TP c)(f:α->β):TP (fun x y=>c (f x) (f y)):=⟨fun _ _=>h.vG _ _,fun _ _ _=>h.trans _ _ _⟩
theorem TP.flip {α:Type}{c:α->α->Int}(h:TP c):TP (fun x y=>c y x):=⟨fun _ _=>h.vG _ _,fun x y z b d=>h.trans z y x d b⟩
theorem TP.kg:TP kg:=⟨fun x y=>by unfold fO.kg;(repeat' split);all_goals omega,fun x y z=>by unfold fO.kg;(repeat' split);all_goals omega⟩
theorem EF (a b:Fr):kQ b a= -(kQ a b):=by
  unfold kQ lH
  (repeat' split);all_goals omega
theorem Gf {a b:Fr}:kQ a b<=0↔G8 a b:=by
  have c:=G9 (a:=a) (b:=b)
  have d:=Lu (a:=b) (b:=a)
  constructor
  · intro h;exact Decidable.not_not.1 (fun hh=>by have:=c.2 (d.2 hh);omega)
  · intro h;exact Int.not_lt.1 (fun hh=>d.1 (c.1 hh) h)
theorem TP.kQ:TP (fun x y:Fr=>kQ (fE x) (fE y)):=
  ⟨fun x y=>EF _ _,fun x y z b c=>Gf.2 (Eb (pG y).1 (Gf.1 b) (Gf.1 c))⟩
theorem Cz:∀xs ys:List fO.Edge,je ys xs= -(je xs ys)
  |[],[]=>rfl
  |[],_::_=>rfl
  |_::_,[]=>rfl
  |x::xs,y::ys=>by
    have h1:=TP.kg.vG x.c y.c
    have b:=Cz xs ys
    unfold je
    split<;>split<;>omega
theorem zk:∀xs ys zs:List fO.Edge,je xs ys<=0->je ys zs<=0->je xs zs<=0
  |[],_,[],_,_=>Int.le_refl _
  |[],_,_::_,_,_=>(by decide:(-1:Int)<=0)
  |x::xs,[],_,h,_=>absurd h (by show¬(1:Int)<=0;decide)
  |x::xs,y::ys,[],_,h=>absurd h (by show¬(1:Int)<=0;decide)
  |x::xs,y::ys,z::zs,h,k=>by
    unfold je at h k ⊢
    have a1:=TP.kg.trans x.c y.c z.c
    have b:=TP.kg.trans y.c z.c x.c
    have d:=TP.kg.trans z.c x.c y.c
    have e:=TP.kg.vG x.c y.c
    have f:=TP.kg.vG y.c z.c
    have i:=TP.kg.vG x.c z.c
    have:=zk xs ys zs
    split at h<;>split at k<;>split<;>omega
theorem TP.je:TP je:=⟨Cz,zk⟩
def nT (u v:kY):Int:=Ml [kQ (fE v.fQ) (fE u.fQ),kg u.sent v.sent,je u.way v.way]
theorem TP.nT:TP nT:=by
  have h:=(TP.kQ.flip.Ra kY.fQ).lex ((TP.kg.Ra kY.sent).lex (TP.je.Ra kY.way))
  refine⟨fun x y=>?_,fun x y z d f=>?_⟩
  · have:=h.vG x y
    unfold tH.nT
    simp only[Ml]
    repeat' split
    all_goals (repeat' split at this)
    all_goals omega
  · have:=h.trans x y z
    unfold tH.nT at*
    simp only[Ml]at*
    have e:∀a b c:Int,(if a≠0 then a else if b≠0 then b else if c≠0 then c else 0)=(if a≠0 then a else if b≠0 then b else c):=by
      intro a b c;(repeat' split);all_goals omega
    rw[e]at*
    exact this d f
theorem CB {u v:kY}:u7 u v=true↔nT u v<0:=decide_eq_true_iff
def aN (m:MF)(xs:List fO.Edge)(s:List Int):Nat->Nat
  |0=>1
  |k+1=>aN m xs s k*(fE (gN m (xs.getD k eO) (s.getD k 0))).n
def aD (m:MF)(xs:List fO.Edge)(s:List Int):Nat->Nat
  |0=>1
  |k+1=>aD m xs s k*(fE (gN m (xs.getD k eO) (s.getD k 0))).d
theorem CE (m:MF)(xs:List fO.Edge)(s:List Int):∀k,0<aD m xs s k
  |0=>Nat.one_pos
  |k+1=>Nat.mul_pos (CE m xs s k) (pG _).1
theorem Ut {a b:Nat}{o:Fr}(hb:0<b)(ho:okF o):jW (gY a b) o=gY (a*o.n) (b*o.d):=by
  have c:=mul_eq (gY a b) o
  have e:=Bu (n:=a) (d:=b)
  have hx:=qG (n:=a) hb
  have hM:=Aj hx ho
  refine Ha hM (qG (Nat.mul_pos hb ho.1)) (Hd (n:=a*o.n) (d:=b*o.d) (Nat.mul_pos hb ho.1) ?_ Bu)
  generalize jW (gY a b) o=M at*
  generalize gY a b=x at*
  refine Nat.eq_of_mul_eq_mul_right hx.1 ?_
  calc M.n*(b*o.d)*x.d=M.n*(x.d*o.d)*b:=by simp only[Nat.mul_assoc,Nat.mul_comm,Nat.mul_left_comm]
    _=x.n*o.n*M.d*b:=by rw[c]
    _=x.n*b*(o.n*M.d):=by simp only[Nat.mul_assoc,Nat.mul_comm,Nat.mul_left_comm]
    _=a*x.d*(o.n*M.d):=by rw[e]
    _=a*o.n*M.d*x.d:=by simp only[Nat.mul_assoc,Nat.mul_comm,Nat.mul_left_comm]
theorem Gg (m:MF)(xs:List fO.Edge)(s:List Int):∀k,ji m xs s k=gY (aN m xs s k) (aD m xs s k)
  |0=>rfl
  |k+1=>by
    show jW (fE (ji m xs s k)) _=_
    rw[qM (MK m xs s k),Gg m xs s k,Ut (CE m xs s k) (pG _)]
    rfl
theorem Xk {a b c d:Nat}(hb:0<b)(hd:0<d):G8 (gY a b) (gY c d)↔a*d<=c*b:=by
  have i:=Bu (n:=a) (d:=b)
  have j:=Bu (n:=c) (d:=d)
  have k:=(qG (n:=a) hb).1
  have l:=(qG (n:=c) hd).1
  unfold G8
  generalize gY a b=x at*
  generalize gY c d=y at*
  have e:x.n*y.d*(b*d)=a*d*(x.d*y.d):=by
    calc x.n*y.d*(b*d)=x.n*b*(d*y.d):=by simp only[Nat.mul_assoc,Nat.mul_comm,Nat.mul_left_comm]
      _=a*x.d*(d*y.d):=by rw[i]
      _=a*d*(x.d*y.d):=by simp only[Nat.mul_assoc,Nat.mul_comm,Nat.mul_left_comm]
  have f:y.n*x.d*(b*d)=c*b*(x.d*y.d):=by
    calc y.n*x.d*(b*d)=y.n*d*(b*x.d):=by simp only[Nat.mul_assoc,Nat.mul_comm,Nat.mul_left_comm]
      _=c*y.d*(b*x.d):=by rw[j]
      _=c*b*(x.d*y.d):=by simp only[Nat.mul_assoc,Nat.mul_comm,Nat.mul_left_comm]
  constructor
  · intro h
    refine Nat.le_of_mul_le_mul_right (c:=x.d*y.d) ?_ (Nat.mul_pos k l)
    rw[<-e,<-f]
    exact Nat.mul_le_mul_right _ h
  · intro h
    refine Nat.le_of_mul_le_mul_right (c:=b*d) ?_ (Nat.mul_pos hb hd)
    rw[e,f]
    exact Nat.mul_le_mul_right _ h
theorem CF (s:List Int)(k i:Nat):(s.drop k).getD i 0=s.getD (k+i) 0:=by simp[List.getD,List.getElem?_drop]
theorem MN (m:MF)(xs:List fO.Edge)(s:List Int)(j:Nat):∀k,aN m xs s (j+k)=aN m xs s j*aN m (xs.drop j) (s.drop j) k
  |0=>by show _=_*1;rw[Nat.mul_one];rfl
  |k+1=>by
    show aN m xs s (j+k)*_=_*(aN m (xs.drop j) (s.drop j) k*_)
    rw[MN m xs s j k,lL,CF,Nat.mul_assoc]
    rfl
theorem MO (m:MF)(xs:List fO.Edge)(s:List Int)(j:Nat):∀k,aD m xs s (j+k)=aD m xs s j*aD m (xs.drop j) (s.drop j) k
  |0=>by show _=_*1;rw[Nat.mul_one];rfl
  |k+1=>by
    show aD m xs s (j+k)*_=_*(aD m (xs.drop j) (s.drop j) k*_)
    rw[MO m xs s j k,lL,CF,Nat.mul_assoc]
    rfl
theorem yL {n d:Nat}(h:n<=d):(gY n d).n<=(gY n d).d:=Nat.div_le_div_right h
theorem Oa {m:MF}(hm:ic m)(e:fO.Edge)(a:Int):(fE (gN m e a)).n<=(fE (gN m e a)).d:=by
  unfold fE
  split
  · unfold gN
    split
    · rename_i h
      simp only[lT,Bool.and_eq_true,decide_eq_true_eq]at h
      have hb:=wW hm h.1.1
      refine yL ?_
      unfold Bv DK
      omega
    · exact Nat.le_refl _
  · exact Nat.zero_le _
theorem KF {m:MF}(hm:ic m)(xs:List fO.Edge)(s:List Int):∀k,aN m xs s k<=aD m xs s k
  |0=>Nat.le_refl _
  |k+1=>Nat.mul_le_mul (KF hm xs s k) (Oa hm _ _)
theorem I1 {m:MF}{xs:List fO.Edge}{a x:Int}(h:(fM m xs a x).2.2=0):(fq xs a x).2.2=0/\fM m xs a x=(gY (aN m xs (fq xs a x).1 xs.length) (aD m xs (fq xs a x).1 xs.length),(fq xs a x).1.getD 0 0,0):=by
  by_cases hc:(fq xs a x).2.2=0
  · exact⟨hc,by unfold fM;rw[if_pos hc,Gg]⟩
  · unfold fM at h
    rw[if_neg hc]at h
    exact absurd h hc
theorem CG {m:MF}{xs:List fO.Edge}{a x:Int}(h:(fq xs a x).2.2=0):fM m xs a x=(gY (aN m xs (fq xs a x).1 xs.length) (aD m xs (fq xs a x).1 xs.length),(fq xs a x).1.getD 0 0,0):=by
  unfold fM;rw[if_pos h,Gg]
theorem rH {m:MF}{xs:List fO.Edge}{a x:Int}:(fM m xs a x).2.2=(fq xs a x).2.2:=by
  unfold fM
  split
  · rename_i h;exact h.symm
  · rfl
theorem qj {m:MF}{xs:List fO.Edge}{a x:Int}(h:(fM m xs a x).2.2=0):okF (fM m xs a x).1:=by
  rw[(I1 h).2];exact qG (CE _ _ _ _)
theorem KG {m:MF}(hm:ic m){xs:List fO.Edge}{a x:Int}(h:(fM m xs a x).2.2=0){j:Nat}(hj:j<xs.length):
    (fM m (xs.drop j) a x).2.2=0/\G8 (fM m xs a x).1 (fM m (xs.drop j) a x).1:=by
  obtain⟨hc,he⟩:=I1 h
  have hd:=JU hc hj
  have b:(fq (xs.drop j) a x).2.2=0:=by rw[hd]
  refine⟨by rw[rH,b],?_⟩
  rw[he,CG b,hd]
  simp only
  rw[Xk (CE _ _ _ _) (CE _ _ _ _),List.length_drop]
  have c:=MN m xs (fq xs a x).1 j (xs.length-j)
  have d:=MO m xs (fq xs a x).1 j (xs.length-j)
  rw[show j+(xs.length-j)=xs.length by omega]at c d
  rw[c,d]
  have hu:=KF hm xs (fq xs a x).1 j
  generalize aN m (xs.drop j) _ _=p
  generalize aD m (xs.drop j) _ _=q
  calc aN m xs (fq xs a x).1 j*p*q=aN m xs (fq xs a x).1 j*(p*q):=Nat.mul_assoc _ _ _
    _<=aD m xs (fq xs a x).1 j*(p*q):=Nat.mul_le_mul_right _ hu
    _=p*(aD m xs (fq xs a x).1 j*q):=by simp only[Nat.mul_assoc,Nat.mul_comm,Nat.mul_left_comm]
theorem Uu {a b:Fr}(hb:okF b)(h:G8 a b)(hn:a.n≠0):b.n≠0:=by
  intro c
  unfold G8 at h
  rw[c,Nat.zero_mul]at h
  rcases Nat.mul_eq_zero.1 (Nat.le_zero.1 h)with k|k
  · exact hn k
  · exact absurd k (Nat.pos_iff_ne_zero.1 hb.1)
structure mU (g:List fO.Edge)(m:MF)(fr to a x:Int)(w:List fO.Edge):Prop where
  ne:w≠[]
  sub:∀e∈w,e∈g
  fst:(w.getD 0 eO).f=fr
  VR:(w.getD (w.length-1) eO).t=to
  ok:(fM m w a x).2.2=0
  pos:(fM m w a x).1.n≠0
def fo (m:MF)(a x:Int)(w:List fO.Edge):kY:=IZ w (fM m w a x)
variable {g:List fO.Edge}{m:MF}{fr to a x:Int}
def BG (g:List fO.Edge)(m:MF)(fr to a x:Int)(b:kY):Prop:=b.way=[]\/(mU g m fr to a x b.way/\b=fo m a x b.way)
def Xw (b c:kY):Prop:=b.way≠[]/\nT b c<=0
theorem Xw.trans {b c d:kY}(h:Xw b c)(k:nT c d<=0):Xw b d:=⟨h.1,TP.nT.trans _ _ _ h.2 k⟩
structure Spec (g:List fO.Edge)(m:MF)(fr to a x:Int)(W:List fO.Edge->Prop)(b b':kY):Prop where
  good:BG g m fr to a x b'
  up:b.way≠[]->Xw b' b
  all:∀w,mU g m fr to a x w->W w->Xw b' (fo m a x w)
theorem Spec.same {W:List fO.Edge->Prop}{b:kY}(hb:BG g m fr to a x b)(h:∀w,mU g m fr to a x w->W w->Xw b (fo m a x w)):Spec g m fr to a x W b b:=⟨hb,fun h=>⟨h,Int.le_of_eq (TP.nT.refl b)⟩,h⟩
theorem Spec.fold {α:Type}{f:kY->α->kY}{W:α->List fO.Edge->Prop}:∀(l:List α),(∀e∈l,∀b,BG g m fr to a x b->Spec g m fr to a x (W e) b (f b e))->∀b,BG g m fr to a x b->Spec g m fr to a x (fun w=>∃e∈l,W e w) b (l.foldl f b)
  |[],_,b,hb=>Spec.same hb (fun w _ h=>by obtain⟨e,he,_⟩:=h;cases he)
  |e::l,h,b,hb=>by
    have h1:=h e (List.mem_cons_self ..) b hb
    have c:=Spec.fold l (fun e' he'=>h e' (List.mem_cons_of_mem _ he')) (f b e) h1.good
    refine⟨c.good,fun hn=>?_,fun w hw hW=>?_⟩
    · have k1:=h1.up hn
      exact(c.up k1.1).trans k1.2
    · obtain⟨e',he',hw'⟩:=hW
      rcases List.mem_cons.1 he' with rfl|he'
      · have k1:=h1.all w hw hw'
        exact(c.up k1.1).trans k1.2
      · exact c.all w hw ⟨e',he',hw'⟩
def At (g:List fO.Edge)(to:Int)(way:List fO.Edge)(at_:Int):Prop:=(∀e∈way,e∈g)/\(way=[]->at_=to)/\(way≠[]->(way.getD 0 eO).f=at_/\(way.getD (way.length-1) eO).t=to)
theorem CJ (p q:List fO.Edge)(i:Nat):(p++q).getD (p.length+i) eO=q.getD i eO:=by
  simp[List.getD,List.getElem?_append_right]
theorem CK {xs:List fO.Edge}(h:(fM m xs a x).2.2=0):fE (fM m xs a x).1=(fM m xs a x).1:=qM (qj h)
theorem Uv {u v:kY}(h:kQ (fE u.fQ) (fE v.fQ)<0):nT v u<0:=by
  unfold nT Ml
  rw[if_pos (by omega)]
  exact h
theorem EG (hm:ic m)(hft:fr≠to):∀(k:Nat) (way:List fO.Edge) (at_:Int) (b:kY),way.length+k=9->1<=k->At g to way at_->BG g m fr to a x b->
    Spec g m fr to a x (fun w=>∃p,w=p++way) b (jd g m fr to a x k way at_ b)
  |0,_,_,_,_,h,_,_=>absurd h (by decide)
  |k+1,way,at_,b,hk,_,hA,hb=>by
    rw[jd]
    have suf:∀w,mU g m fr to a x w->(∃p,w=p++way)->way≠[]->(fM m way a x).2.2=0/\G8 (fM m w a x).1 (fM m way a x).1/\(fM m way a x).1.n≠0:=by
      rintro w hw ⟨p,rfl⟩ hne
      have hl:p.length<(p++way).length:=by rw[List.length_append];have:=List.length_pos_iff.2 hne;omega
      have hd:=KG hm hw.ok hl
      rw[List.drop_left]at hd
      exact⟨hd.1,hd.2,Uu (qj hd.1) hd.2 hw.pos⟩
    split
    · rename_i hc
      refine Spec.same hb fun w hw hW=>?_
      obtain⟨s,u,v⟩:=suf w hw hW hc.1
      rcases hc.2 with h|h|h
      · exact absurd s h
      · exact absurd h v
      · refine⟨h.1,Int.le_of_lt (Uv ?_)⟩
        show kQ (fE (fM m w a x).1) (fE b.fQ)<0
        have d:=h.2
        rw[CK s]at d
        rw[CK hw.ok]
        rw[Pg,Lu]at d ⊢
        exact fun hh=>d (Eb (qj hw.ok).1 hh u)
    · rename_i hc
      split
      · rename_i hat
        have hne:way≠[]:=fun h=>hft (hat.symm.trans (hA.2.1 h))
        have hcd:mU g m fr to a x way:=by
          refine⟨hne,hA.1,(hA.2.2 hne).1.trans hat,(hA.2.2 hne).2,?_,?_⟩
          · exact Decidable.not_not.1 fun h=>hc ⟨hne,.inl h⟩
          · exact fun h=>hc ⟨hne,.inr (.inl h)⟩
        have only:∀w,mU g m fr to a x w->(∃p,w=p++way)->w=way:=by
          rintro w hw ⟨p,rfl⟩
          cases p with
          |nil=>rfl
          |cons e p=>
            exfalso
            have l:=(l7 (rH.symm.trans hw.ok)).1
            have hf:=hw.fst
            have d:((e::p++way).getD (p.length+1) eO).f=fr:=by
              have:=CJ (e::p) way 0
              rw[List.length_cons,Nat.add_zero]at this
              rw[this,(hA.2.2 hne).1,hat]
            have o:=(wR l (j:=0) (i:=p.length+1) (by omega) (by simp only[List.length_append,List.length_cons];have:=List.length_pos_iff.2 hne;omega)).1
            rw[hf,d]at o
            exact o rfl
        split
        · rename_i hbb
          refine⟨.inr ⟨hcd,rfl⟩,fun hn=>⟨hne,?_⟩,fun w hw hW=>?_⟩
          · rcases hbb with h|h
            · exact absurd h hn
            · exact Int.le_of_lt (CB.1 h)
          · rw[only w hw hW]
            exact⟨hne,Int.le_of_eq (TP.nT.refl _)⟩
        · rename_i hbb
          refine Spec.same hb fun w hw hW=>?_
          rw[only w hw hW]
          refine⟨fun h=>hbb (.inl h),?_⟩
          have c:¬nT (fo m a x way) b<0:=fun h=>hbb (.inr (CB.2 h))
          have d:=TP.nT.vG (fo m a x way) b
          omega
      · rename_i hat
        have key:∀w,mU g m fr to a x w->(∃p,w=p++way)->∃p e,w=p++e::way/\e∈ZZ g at_/\xM way to e=false/\way.length<8:=by
          rintro w hw ⟨p,rfl⟩
          rcases List.eq_nil_or_concat p with rfl|⟨p,e,rfl⟩
          · exfalso
            have c:=hw.fst
            rw[List.nil_append]at c
            exact hat ((hA.2.2 hw.ne).1.symm.trans c)
          · rw[List.concat_eq_append,List.append_assoc,List.singleton_append]at hw ⊢
            have l:=(l7 (rH.symm.trans hw.ok)).1
            have z:=(kZ l).2
            simp only[List.length_append,List.length_cons]at z
            have ge:(p++e::way).getD p.length eO=e:=by
              have:=CJ p (e::way) 0
              exact this
            have gn:∀i,(p++e::way).getD (p.length+1+i) eO=way.getD i eO:=by
              intro i
              have:=CJ p (e::way) (1+i)
              rw[<-Nat.add_assoc]at this
              rw[this,Nat.add_comm 1 i]
              rfl
            have he:e.t=at_:=by
              by_cases hne:way=[]
              · subst hne
                have:=hw.VR
                rw[show(p++[e]).length-1=p.length by simp]at this
                rw[ge]at this
                rw[this,hA.2.1 rfl]
              · have:=(nN l (i:=p.length+1) (by simp only[List.length_append,List.length_cons];have:=List.length_pos_iff.2 hne;omega)).2.1 (by omega)
                rw[show p.length+1-1=p.length by omega,ge,gn 0,(hA.2.2 hne).1]at this
                exact this
            refine⟨p,e,rfl,List.mem_filter.2 ⟨hw.sub e (by simp),decide_eq_true he⟩,?_,by omega⟩
            unfold xM
            rw[Bool.or_eq_false_iff]
            constructor
            · refine decide_eq_false fun hto=>?_
              have c:=(nN l (i:=(p++e::way).length-1) (by simp)).2.2 p.length (by simp)
              rw[ge,hw.VR]at c
              exact c hto
            · rw[List.any_eq_false]
              intro y hy
              obtain⟨i,hi,hyi⟩:=List.mem_iff_getElem.1 hy
              have c:=(wR l (j:=p.length) (i:=p.length+1+i) (by omega) (by simp only[List.length_append,List.length_cons];omega)).1
              rw[ge,gn i]at c
              have d:way.getD i eO=y:=by simp[List.getD,hi,hyi]
              rw[d]at c
              simpa using fun h=>c h.symm
        split
        · rename_i h8
          refine Spec.same hb fun w hw hW=>?_
          obtain⟨_,_,_,_,_,hlt⟩:=key w hw hW
          omega
        · rename_i h8
          have uu:=Spec.fold (g:=g) (m:=m) (fr:=fr) (to:=to) (a:=a) (x:=x) (f:=D6 (jd g m fr to a x k) way to) (W:=fun e w=>xM way to e=false/\∃p,w=p++e::way) (ZZ g at_) (fun e he b' hb'=>by
            unfold D6
            split
            · rename_i hsk
              exact Spec.same hb' fun w _ hW=>by rw[hsk]at hW;exact absurd hW.1 (by decide)
            · rename_i hsk
              obtain⟨A,C⟩:=List.mem_filter.1 he
              have het:e.t=at_:=of_decide_eq_true C
              have hA':At g to (e::way) e.f:=by
                refine⟨fun y hy=>?_,fun h=>by simp at h,fun _=>⟨rfl,?_⟩⟩
                · rcases List.mem_cons.1 hy with rfl|hy
                  · exact A
                  · exact hA.1 y hy
                · by_cases hne:way=[]
                  · subst hne
                    show e.t=to
                    rw[het,hA.2.1 rfl]
                  · have hl:=List.length_pos_iff.2 hne
                    rw[List.length_cons,Nat.add_sub_cancel,show way.length=(way.length-1)+1 by omega]
                    exact(hA.2.2 hne).2
              have hr:=EG hm hft k (e::way) e.f b' (by rw[List.length_cons];omega) (by omega) hA' hb'
              exact⟨hr.good,hr.up,fun w hw hW=>hr.all w hw hW.2⟩) b hb
          exact⟨uu.good,uu.up,fun w hw hW=>by
            obtain⟨p,e,c,d,o,_⟩:=key w hw hW
            exact uu.all w hw ⟨e,d,o,p,c⟩⟩
theorem zm (h:mR g fr to a x=false):ko g=true/\(0<=fr/\fr<=11)/\(0<=to/\to<=11)/\fr≠to/\(1<=a/\a<=1125899906842624)/\1<=x/\x<=1048576:=by
  unfold mR at h
  simp only[Bool.or_eq_false_iff,Bool.not_eq_false',decide_eq_false_iff_not]at h
  obtain⟨⟨⟨⟨⟨b,c⟩,d⟩,e⟩,f⟩,i⟩:=h
  exact⟨b,jD c,jD d,e,jD f,jD i⟩
theorem EH (hm:ic m)(hft:fr≠to):Spec g m fr to a x (fun _=>True) j6 (jd g m fr to a x 9 [] to j6):=by
  have h:=EG (g:=g) (a:=a) (x:=x) hm hft 9 [] to j6 rfl (by decide) ⟨fun e he=>(by cases he),fun _=>rfl,fun h=>absurd rfl h⟩ (.inl rfl)
  exact⟨h.good,h.up,fun w hw _=>h.all w hw ⟨w,(List.append_nil w).symm⟩⟩
theorem ql (hm:ic m)(h:(gz g m fr to a x).2.2=0):mR g fr to a x=false/\mU g m fr to a x (gz g m fr to a x).1/\(gz g m fr to a x).2.1=(fM m (gz g m fr to a x).1 a x).1/\
    ∀w,mU g m fr to a x w->nT (fo m a x (gz g m fr to a x).1) (fo m a x w)<=0:=by
  have hb:mR g fr to a x=false:=by
    cases hb:mR g fr to a x
    · rfl
    · unfold gz at h;rw[if_pos hb]at h;exact absurd h (by decide)
  have hs:=EH (g:=g) (a:=a) (x:=x) hm (zm hb).2.2.2.1
  unfold gz at h ⊢
  rw[if_neg (by rw[hb];decide)]at h ⊢
  split at h
  · exact absurd h (by decide)
  · rename_i hne
    rw[if_neg hne]
    rcases hs.good with k|⟨k1,k2⟩
    · exact absurd k hne
    · refine⟨hb,k1,?_,fun w hw=>?_⟩
      · show(jd g m fr to a x 9 [] to j6).fQ=_
        exact congrArg kY.fQ k2
      · have:=(hs.all w hw trivial).2
        rw[k2]at this
        exact this
theorem CL (hm:ic m)(hb:mR g fr to a x=false)(h:(gz g m fr to a x).2.2≠0):gz g m fr to a x=([],⟨0,0⟩,19)/\∀w,¬mU g m fr to a x w:=by
  have hs:=EH (g:=g) (a:=a) (x:=x) hm (zm hb).2.2.2.1
  unfold gz at h ⊢
  rw[if_neg (by rw[hb];decide)]at h ⊢
  split at h
  · rename_i hn
    rw[if_pos hn]
    exact⟨rfl,fun w hw=>(hs.all w hw trivial).1 hn⟩
  · exact absurd rfl h
theorem iT (hb:mR g fr to a x=true):gz g m fr to a x=([],⟨0,0⟩,1):=by unfold gz;rw[if_pos hb]
end Go.tH

namespace Go.tH
open Go.fO Go.oF Go.uI Go.Proofs.YtkaedikifgpkeaaGreatDoor
def EdP (p q:fO.Edge):Prop:=(p.c<q.c\/(p.c=q.c/\p.f<q.f))/\(p.c=q.c->p.f=q.t/\p.t=q.f/\p.r=q.r)
theorem ve {p q:fO.Edge}:tO p q<0↔p.c<q.c\/(p.c=q.c/\p.f<q.f):=by
  unfold tO kg
  repeat' split
  all_goals omega
theorem uw {l:List fO.Edge}(h:ko l=true):(∀i,i<l.length->edgeOk (l.getD i eO)=true)/\∀i j,i<j->j<l.length->EdP (l.getD i eO) (l.getD j eO):=by
  have hp:E9 l:=of_decide_eq_true h
  have ho:∀d i,i+d+1<l.length->(l.getD i eO).c<(l.getD (i+d+1) eO).c\/((l.getD i eO).c=(l.getD (i+d+1) eO).c/\(l.getD i eO).f<(l.getD (i+d+1) eO).f):=by
    intro d
    induction d with
    |zero=>intro i hi;exact ve.1 ((hp (i+1) hi).2.1 (by omega))
    |succ d ih=>
      intro i hi
      have m:=ih i (by omega)
      have e:=ve.1 ((hp (i+d+1+1) hi).2.1 (by omega))
      rw[show i+d+1+1-1=i+d+1 by omega]at e
      rw[show i+(d+1)+1=i+d+1+1 by omega]
      omega
  have ho':∀i j,i<j->j<l.length->(l.getD i eO).c<(l.getD j eO).c\/((l.getD i eO).c=(l.getD j eO).c/\(l.getD i eO).f<(l.getD j eO).f):=by
    intro i j hij hj
    have:=ho (j-i-1) i (by omega)
    rwa [show i+(j-i-1)+1=j by omega]at this
  refine⟨fun i hi=>(hp i hi).1,fun i j hij hj=>⟨ho' i j hij hj,fun hc=>?_⟩⟩
  have b:=(hp j hj).2.2
  by_cases hn:j=i+1
  · subst hn
    exact⟨(b ⟨by omega,hc⟩).2.1,(b ⟨by omega,hc⟩).2.2.1,(b ⟨by omega,hc⟩).2.2.2⟩
  · exfalso
    have n:=ho' i (j-1) (by omega) (by omega)
    have o:=ho' (j-1) j (by omega) (by omega)
    have s:(l.getD i eO).c<=(l.getD (j-2) eO).c:=by
      by_cases k:i=j-2
      · rw[k];exact Int.le_refl _
      · have:=ho' i (j-2) (by omega) (by omega);omega
    have t:=ho' (j-2) (j-1) (by omega) (by omega)
    exact(b ⟨by omega,by omega⟩).1 ⟨by omega,by omega⟩
theorem I4 {l:List fO.Edge}(h1:∀i,i<l.length->edgeOk (l.getD i eO)=true)(h2:∀i j,i<j->j<l.length->EdP (l.getD i eO) (l.getD j eO)):ko l=true:=by
  refine decide_eq_true (fun i hi=>⟨h1 i hi,fun b=>ve.2 (h2 (i-1) i (by omega) hi).1,fun⟨b,hc⟩=>⟨fun⟨k1,k2⟩=>?_,(h2 (i-1) i (by omega) hi).2 hc⟩⟩)
  have c:=h2 (i-2) (i-1) (by omega) (by omega)
  have d:=(h2 (i-1) i (by omega) hi).2 hc
  have e:=(h2 (i-2) i (by omega) hi).1
  have f:=c.2 (k2.trans hc.symm)
  clear h1 h2
  omega
def MP (g:List fO.Edge)(k:Nat):List fO.Edge:=g.take k++g.drop (k+1)
theorem Oc {g:List fO.Edge}{k:Nat}{e:fO.Edge}(h:e∈MP g k):e∈g:=by
  rcases List.mem_append.1 h with h|h
  · exact List.mem_of_mem_take h
  · exact List.mem_of_mem_drop h
theorem Od {g:List fO.Edge}{k:Nat}(hk:k<g.length){e:fO.Edge}(h:e∈g)(hn:e≠g.getD k eO):e∈MP g k:=by
  obtain⟨i,hi,rfl⟩:=List.mem_iff_getElem.1 h
  rcases Nat.lt_trichotomy i k with b|b|b
  · exact List.mem_append_left _ (List.mem_take_iff_getElem.2 ⟨i,by omega,rfl⟩)
  · subst b;exact absurd (by simp[List.getD,hi]) hn
  · refine List.mem_append_right _ (List.mem_drop_iff_getElem.2 ⟨i-(k+1),by omega,?_⟩)
    congr 1;omega
theorem KH {g:List fO.Edge}(h:ko g=true){p q:fO.Edge}(hp:p∈g)(hq:q∈g)(hc:p.c=q.c)(hf:p.f=q.f):p=q:=by
  obtain⟨_,b⟩:=uw h
  obtain⟨i,hi,rfl⟩:=List.mem_iff_getElem.1 hp
  obtain⟨j,hj,rfl⟩:=List.mem_iff_getElem.1 hq
  have d:g.getD i eO=g[i]:=by simp[List.getD,hi]
  have e:g.getD j eO=g[j]:=by simp[List.getD,hj]
  rcases Nat.lt_trichotomy i j with k|k|k
  · have:=(b i j k hj).1;rw[d,e]at this;omega
  · subst k;rfl
  · have:=(b j i k hi).1;rw[d,e]at this;omega
theorem EI {g:List fO.Edge}(h:ko g=true):∀u v:List fO.Edge,je u v=0->(∀e∈u,e∈g)->(∀e∈v,e∈g)->
    (∀i,i+1<u.length->(u.getD i eO).t=(u.getD (i+1) eO).f)->(∀i,i+1<v.length->(v.getD i eO).t=(v.getD (i+1) eO).f)->(u≠[]->v≠[]->(u.getD 0 eO).f=(v.getD 0 eO).f)->u=v
  |[],[],_,_,_,_,_,_=>rfl
  |[],_::_,h0,_,_,_,_,_=>absurd h0 (by show¬(-1:Int)=0;decide)
  |_::_,[],h0,_,_,_,_,_=>absurd h0 (by show¬(1:Int)=0;decide)
  |p::u,q::v,h0,hu,hv,cu,cv,hf=>by
    unfold je at h0
    split at h0
    · rename_i hc;exact absurd h0 hc
    · rename_i hc
      have hcc:p.c=q.c:=by
        have:=Decidable.not_not.1 hc
        unfold kg at this
        split at this<;>(try split at this)<;>omega
      have hpq:p=q:=KH h (hu p (List.mem_cons_self ..)) (hv q (List.mem_cons_self ..)) hcc (hf (by simp) (by simp))
      subst hpq
      rw[EI h u v h0 (fun e he=>hu e (List.mem_cons_of_mem _ he)) (fun e he=>hv e (List.mem_cons_of_mem _ he)) (fun i hi=>cu (i+1) (by simp;omega)) (fun i hi=>cv (i+1) (by simp;omega)) (fun b d=>by
        have k1:=cu 0 (by have:=List.length_pos_iff.2 b;simp;omega)
        have k2:=cv 0 (by have:=List.length_pos_iff.2 d;simp;omega)
        exact k1.symm.trans k2)]
theorem EJ {w:List fO.Edge}(h:nH w=true)(i:Nat)(hi:i+1<w.length):(w.getD i eO).t=(w.getD (i+1) eO).f:=(nN h hi).2.1 (by omega)
variable {g:List fO.Edge}{m:MF}{fr to a x:Int}
theorem mU.way {w:List fO.Edge}(h:mU g m fr to a x w):nH w=true:=(l7 (rH.symm.trans h.ok)).1
theorem mU.cost {w:List fO.Edge}(h:mU g m fr to a x w):(fq w a x).2.2=0:=rH.symm.trans h.ok
theorem Oe {u v:kY}(h:nT u v=0):kQ (fE v.fQ) (fE u.fQ)=0/\kg u.sent v.sent=0/\je u.way v.way=0:=by
  unfold nT at h
  simp only[Ml]at h
  split at h
  · contradiction
  · split at h
    · contradiction
    · split at h
      · contradiction
      · rename_i h1 h2 h3
        exact⟨Decidable.not_not.1 h1,Decidable.not_not.1 h2,Decidable.not_not.1 h3⟩
theorem Og (hg:ko g=true){u v:List fO.Edge}(hu:mU g m fr to a x u)(hv:mU g m fr to a x v)(h1:nT (fo m a x u) (fo m a x v)<=0)(h2:nT (fo m a x v) (fo m a x u)<=0):u=v:=by
  have ha:=TP.nT.vG (fo m a x u) (fo m a x v)
  exact EI hg u v (Oe (show nT (fo m a x u) (fo m a x v)=0 by omega)).2.2 hu.sub hv.sub (EJ hu.way) (EJ hv.way) (fun _ _=>hu.fst.trans hv.fst.symm)
theorem mU.less {k:Nat}(hk:k<g.length){w:List fO.Edge}(h:mU (MP g k) m fr to a x w):mU g m fr to a x w:=⟨h.ne,fun e he=>Oc (h.sub e he),h.fst,h.VR,h.ok,h.pos⟩
theorem mU.more {k:Nat}(hk:k<g.length){w:List fO.Edge}(h:mU g m fr to a x w)(hn:∀e∈w,e≠g.getD k eO):mU (MP g k) m fr to a x w:=⟨h.ne,fun e he=>Od hk (h.sub e he) (hn e he),h.fst,h.VR,h.ok,h.pos⟩
theorem KI (hm:ic m):(gz g m fr to a x).2.2=0\/gz g m fr to a x=([],⟨0,0⟩,1)\/gz g m fr to a x=([],⟨0,0⟩,19):=by
  by_cases h:(gz g m fr to a x).2.2=0
  · exact .inl h
  · cases hb:mR g fr to a x
    · exact .inr (.inr (CL hm hb h).1)
    · exact .inr (.inl (iT hb))
theorem mU.some {w:List fO.Edge}(hc:(fq w a x).2.2=0){i:Nat}(hi:i<w.length):jJ (w.getD i eO) ((fq w a x).1.getD i 0)=true:=by
  have h:=Bf hc
  have b:=h.ge (w.length-1-i) i (by omega)
  have c:=h.room i hi
  have hok:=lK (nN h.way hi).1
  have:=h.vX
  simp only[jJ,lS,tu,Bool.and_eq_true,decide_eq_true_eq]
  omega
theorem yM (m:MF)(k:Wy)(n:Nt):nV m k n k=some n:=if_pos rfl
theorem qm (m:MF){k k':Wy}(n:Nt)(h:k'≠k):nV m k n k'=m k':=if_neg h
theorem yN {d:Nat}(h:0<d):gY 0 d=⟨0,1⟩:=by
  unfold gY
  rw[Nat.gcd_zero_left,Nat.zero_div,Nat.div_self h]
theorem MQ {m:MF}{w:List fO.Edge}{s:List Int}{i:Nat}(h:(fE (gN m (w.getD i eO) (s.getD i 0))).n=0):∀k,i<k->aN m w s k=0
  |0,hk=>absurd hk (Nat.not_lt_zero _)
  |k+1,hk=>by
    unfold aN
    by_cases e:i=k
    · subst e;rw[h,Nat.mul_zero]
    · rw[MQ h k (by omega),Nat.zero_mul]
structure Kn where
  p:Int
  d:Int
  a:Int
def jI:Kn:=⟨0,0,0⟩
def kV (g:List fO.Edge)(m:MF)(q:Kn):MF:=
  if q.p<0\/(g.length:Int)<=q.p then m else if q.d%2=0 then wV m (g.getD q.p.toNat eO) q.a else lG m (g.getD q.p.toNat eO) q.a
def xO (g:List fO.Edge)(l:List Kn):MF:=l.foldl (kV g) (fun _=>none)
theorem KJ (hm:ic m)(q:Kn):ic (kV g m q):=by
  unfold kV
  split
  · exact hm
  · split
    · exact Bw hm _ _
    · exact vZ hm _ _
theorem pU:ic (fun _=>none):=fun _ _ h=>by cases h
theorem CO (g:List fO.Edge):∀(l:List Kn) (m:MF),ic m->ic (l.foldl (kV g) m)
  |[],_,h=>h
  |q::l,m,h=>CO g l _ (KJ h q)
end Go.tH

namespace Go.uI
open Go.fO Go.oF
def nK (e:fO.Edge):Wy:=⟨e.t,e.c⟩
def zy (e:fO.Edge)(a:Int)(n:Nt):Nt:=⟨max (n.lo-a) 0,max (n.hi-a) (max (n.lo-a) 0+1),e.r⟩
def zA (e:fO.Edge)(a:Int)(b:Nt):Nt:=⟨min (b.lo+a) e.r,min (b.hi+a) (e.r+1),e.r⟩
def qY (m:MF)(e:fO.Edge)(a:Int):MF:=if jJ e a=true then nV (nV m (iC e) (zy e a (ofM m (iC e) e.r))) (nK e) (zA e a (ofM m (nK e) e.r))else m
theorem Uw {m:MF}(hm:ic m){e:fO.Edge}{a:Int}(h:jJ e a=true):j3 (zy e a (ofM m (iC e) e.r)):=by
  obtain⟨b,f,i⟩:=l9 h
  obtain⟨_,_,_,_,c,d⟩:=lv b
  have:=oO hm (iC e) c d
  unfold j3 at*
  unfold zy
  simp only
  omega
theorem Ux {m:MF}(hm:ic m){e:fO.Edge}{a:Int}(h:jJ e a=true):j3 (zA e a (ofM m (nK e) e.r)):=by
  obtain⟨b,f,i⟩:=l9 h
  obtain⟨_,_,_,_,c,d⟩:=lv b
  have:=oO hm (nK e) c d
  unfold j3 at*
  unfold zA
  simp only
  omega
theorem EK {m:MF}(hm:ic m)(e:fO.Edge)(a:Int):ic (qY m e a):=by
  unfold qY
  split
  · exact uJ (uJ hm (Uw hm (by assumption))) (Ux hm (by assumption))
  · exact hm
end Go.uI
namespace Go.tH
open Go.fO Go.oF Go.uI Go.Proofs.YtkaedikifgpkeaaGreatDoor
def tq (m:MF)(xs:List fO.Edge)(s:List Int):Nat->MF
  |0=>m
  |k+1=>qY (lG (tq m xs s k) (xs.getD k eO) (s.getD k 0)) (xs.getD k eO) (s.getD k 0)
theorem sH {m:MF}(hm:ic m)(w:List fO.Edge)(s:List Int):∀k,ic (tq m w s k)
  |0=>hm
  |k+1=>EK (vZ (sH hm w s k) _ _) _ _
structure tK where
  vX:Int
  way:List fO.Edge
  sent:List Int
  till:List Int
def jr:tK:=⟨0,[],[],[]⟩
def kX (amount n:Int)(i:Nat):Int:=amount/n+(if(i:Int)<amount%n then 1 else 0)
def fw (amount n:Int):List Int:=if n<1\/8<n\/amount<n then[]else(List.range n.toNat).map (kX amount n)
structure AV where
  out:List tK
  fQ:Fr
  m:MF
def oK (g:List fO.Edge)(fr to x:Int)(o:Option AV)(share:Int):Option AV:=
  match o with
  |none=>none
  |some s=>if(gz g s.m fr to share x).2.2=0 then some ⟨s.out++[⟨share,(gz g s.m fr to share x).1,(fq (gz g s.m fr to share x).1 share x).1,(fq (gz g s.m fr to share x).1 share x).2.1⟩],
      jW s.fQ (gz g s.m fr to share x).2.1,tq s.m (gz g s.m fr to share x).1 (fq (gz g s.m fr to share x).1 share x).1 (gz g s.m fr to share x).1.length⟩else none
def jk (g:List fO.Edge)(m:MF)(fr to a x n:Int):List tK×Fr×Int:=
  if n<1\/8<n\/(gz g m fr to a x).2.2=1 then([],⟨0,0⟩,1)
  else match(fw a n).foldl (oK g fr to x) (if fw a n=[]then none else some ⟨[],⟨1,1⟩,m⟩)with
    |none=>([],⟨0,0⟩,19)
    |some s=>(s.out,s.fQ,0)
def nW (g:List fO.Edge)(m:MF)(fr to a x:Int)(b:List tK×Fr×Int)(k:Nat):List tK×Fr×Int:=
  if(jk g m fr to a x (k+1)).2.2=0/\(b.1=[]\/0<kQ (fE (jk g m fr to a x (k+1)).2.1) (fE b.2.1))then jk g m fr to a x (k+1)else b
def gK (g:List fO.Edge)(m:MF)(fr to a x most:Int):List tK×Fr×Int:=
  if most<1\/8<most\/(gz g m fr to a x).2.2=1 then([],⟨0,0⟩,1)
  else(List.range most.toNat).foldl (nW g m fr to a x) ([],⟨0,0⟩,19)
end Go.tH

