/- SplitPeeled: for every input the law answers true and leaves its arguments as they were. -/
import Derived.Test.YtocheaahlpiajaaGreatDoorSplitPeeledN
import Derived.RangeFuncNested
import Derived.RangeFuncBound
import Derived.RangeFuncCalls
import Derived.RangeFuncLeaves
import Derived.OrdersIn
set_option linter.unusedVariables false
set_option linter.unusedSimpArgs false
namespace Go.Sx
open Go Go.RowKit
section
variable {P:Program}{ops:Array Oper}{Q:Exit->Act->World->Prop}{n l m:Nat}
abbrev rF (l:Nat):Fence:=Fence.wide.inRound l
theorem rows_in {row:String}{args:Array Value}{w:World}{R:Value->World->Prop}(h:Rows P row args w R):RowsIn (rF l) m P row args w R:=fun c cs _=>by
  obtain⟨v,w',r,s⟩:=h c cs
  exact⟨v,w',r,stepsIn_wide.2 s⟩
theorem Oper.wp_in {o:Oper}{a:Act}{w:World}{K:Act->World->Prop}(hnd:∀c,o.op≠ .defer c)(h:o.wp P a w K Q):o.wpIn (rF l) m P a w K Q:=by
  refine⟨fun _ _=>trivial,?_⟩
  rw[Fence.inRound_round,Oper.semAt_some l _ _ hnd]
  unfold Oper.wp at h
  generalize (execOp a.eval o).run P w=r at*
  cases r with
  |ok x w'=>
    cases x<;>simp only[Oper.upon,Oper.uponIn]at h ⊢ <;>
      first
        |exact h
        |exact⟨fun h=>(by cases h),CallsIn.inRound l (callsIn_wide.2 h)⟩
        |exact⟨fun h=>(by cases h),rows_in h⟩
  |halt x w'=>cases x<;>simp only[Oper.upon,Oper.uponIn]at h ⊢ <;>exact h
def noDf (o:Oper):Bool:=match o.op with | .defer _=>false|_=>true
theorem noDf_spec {o:Oper}(h:noDf o=true):∀c,o.op≠ .defer c:=fun c hc=>by unfold noDf at h;rw[hc]at h;cases h
theorem wpList_in (hlo:¬LetsOut Q):∀(rest:List Oper) (a:Act) (w:World),rest.all noDf=true->wpList P ops Q rest a w->wpListIn (rF l) m P ops Q rest a w
  |[],_,_,_,h=>h
  |o::rest,a,w,hnd,h=>by
    simp only[List.all_cons,Bool.and_eq_true]at hnd
    unfold wpList at h
    unfold wpListIn
    split
    · rename_i hw
      rw[if_pos hw]at h
      rcases h with h|⟨_,h⟩
      · exact Oper.wp_in (noDf_spec hnd.1) (Oper.wp_mono (fun a' w' h'=>wpList_in hlo rest a' w' hnd.2 h') h)
      · exact absurd h hlo
    · rename_i hw
      rw[if_neg hw]at h
      exact⟨fun _ _=>trivial,wpList_in hlo rest _ _ hnd.2 h⟩
theorem wpOp_in (hlo:¬LetsOut Q)(hnd:ops.toList.all noDf=true){i:Nat}{K:Act->World->Prop}{a:Act}{w:World}(h:wpOp P ops Q i K a w):wpOpIn (rF l) m P ops Q i K a w:=by
  unfold wpOp at h
  unfold wpOpIn
  split
  · rename_i ho;simpa[ho]using h
  · rename_i o ho
    simp only[ho]at h
    have hno:noDf o=true:=by
      rw[List.all_eq_true]at hnd
      exact hnd o (by rw[Array.mem_toList_iff];exact Array.mem_of_getElem? ho)
    split
    · rename_i hw
      rw[if_pos hw]at h
      rcases h with h|⟨_,h⟩
      · exact Oper.wp_in (noDf_spec hno) h
      · exact absurd h hlo
    · rename_i hw
      rw[if_neg hw]at h
      exact⟨fun _ _=>trivial,h⟩
theorem wpAny_in (hlo:¬LetsOut Q)(hnd:ops.toList.all noDf=true):∀(fuel:Nat) (listed:Array Bool) (a:Act) (w:World),wpAny P .any ops Q fuel listed a w->wpAnyIn (rF l) m P .any ops Q fuel listed a w
  |0,_,_,_,h=>h
  |fuel+1,_,_,_,h=>⟨h.1,fun i hi=>wpOpIn_mono (fun a' w' h'=>wpAny_in hlo hnd fuel _ a' w' h') (wpOp_in hlo hnd (h.2 i hi))⟩
def RC (P:Program)(Q:Exit->Act->World->Prop)(n l m:Nat)(c:Code)(env:Env)(w:World):Prop:=∀a,Rep a n env->c.wpIn (rF l) m P Q a w
theorem RC.seq {env:Env}{w:World}{x y:Code}(h:RC P (Exit.then (y.wpIn (rF l) m P Q) Q) n l m x env w):RC P Q n l m (.seq x y) env w:=fun a ha=>wpIn_seq (h a ha)
theorem RC.thenN {env:Env}{w:World}{y:Code}{Q Q':Exit->Act->World->Prop}(h:RC P Q n l m y env w):E (Exit.then (y.wpIn (rF l) m P Q) Q') n .normal env w:=h
theorem RC.region {env:Env}{w:World}{id:Nat}{L:List Oper}(hnd:L.all noDf=true)(hlo:¬LetsOut Q)(h:W P L.toArray Q n L env w):RC P Q n l m (.region id L.toArray false) env w:=fun a ha=>wpIn_region_lit (wpList_in hlo L a w hnd (h a ha))
theorem RC.draw {env:Env}{w:World}{id:Nat}(plan:List Nat)(hm:P.follows .mixedOrders=true)(hp:planOK ops plan=true)(hnd:ops.toList.all noDf=true)
    (h:∀w',Le w w'->G P ops Q n plan env w'):RC P Q n l m (.region id ops true) env w:=fun a ha=>by
  simp only[planOK,Bool.and_eq_true,beq_iff_eq]at hp
  obtain⟨⟨hl,hs⟩,hp⟩:=hp
  have:=plan_main hs plan _ a _ (Cl.none _) hp (h _ (Le.drew w) a ha)
  rw[hl]at this
  refine wpIn_mono (wpIn_region_any hm (wpAny_in (fun⟨_,_,hf⟩=>by cases hf.1) hnd _ _ _ _ (wpAny_of_C _ _ _ _ this))) ?_
  rintro e a w ⟨rfl,hq⟩
  exact hq
theorem RC.block {env:Env}{w:World}{id:Nat}{c:Code}(h:RC P (Exit.inBlock id Q) n l m c env w):RC P Q n l m (.block id c) env w:=fun a ha=>wpIn_block (h a ha)
theorem RC.skip {env:Env}{w:World}(h:E Q n .normal env w):RC P Q n l m .skip env w:=fun a ha=>wpIn_skip (h a ha)
theorem RC.condB {env:Env}{w:World}{c:Operand}{x y:Code}{b:Bool}(hc:ev env c=some (.bool b))(ht:b=true->RC P Q n l m x env w)(hf:b=false->RC P Q n l m y env w):
    RC P Q n l m (.cond c x y) env w:=fun a ha=>wpIn_cond_split (ha.eval hc) (fun h=>ht h a ha) (fun h=>hf h a ha)
theorem RC.cond {env:Env}{w:World}{c:Operand}{x y:Code}{p:Prop}[Decidable p](hc:ev env c=some (.bool (decide p)))(ht:p->RC P Q n l m x env w)(hf:¬p->RC P Q n l m y env w):
    RC P Q n l m (.cond c x y) env w:= .condB hc (fun h=>ht (of_decide_eq_true h)) (fun h=>hf (of_decide_eq_false h))
theorem enterM {f:FuncId}{fn:Func}{c:Code}{args:List Value}{w:World}{R:Ending->World->Prop}(hf:P.funcs[f]? =some fn)(hb:fn.body=some c)(hl:Nat.ble args.length fn.ntmps=true)
    (h:WC P (bodyPostM Fence.wide 3 P fn R) fn.ntmps c (envOfArgs 0 args) w):Calls P f args.toArray w R:=by
  have hl':args.length<=fn.ntmps:=Nat.le_of_ble_eq_true hl
  refine(callsIn_wide (n:=3)).1 (callsIn_of_wp_marks hf hb trivial (wpIn_wide.2 (h _ ⟨rfl,?_,fun i v hv=>?_⟩)))
  · simp;omega
  · obtain⟨_,b⟩:=look_envOfArgs args 0 i v hv
    simp only[Nat.sub_zero]at b
    rw[Array.getElem?_append_left (by simpa using(List.getElem?_eq_some_iff.1 b).1)]
    simpa using b
theorem E.retM2 {fn:Func}{R:Ending->World->Prop}{env:Env}{w:World}{t u:Nat}{v x:Value}(hr:fn.results=#[.tmp t,.tmp u])(hv:look env t=some v)(hx:look env u=some x)(h:R (.returned (.tuple #[v,x])) w):
    E (bodyPostM Fence.wide 3 P fn R) n .ret env w:=fun a ha=>by
  show LeavesInM Fence.wide 3 P fn a.tmps R a.defers .returning w
  rw[ha.1]
  exact⟨_,by rw[results_tmp2 hr];simp[ha.2.2 t v hv,ha.2.2 u x hx],h⟩
def DE (Q:Exit->Act->World->Prop)(n:Nat)(ds:List Deferred)(ex:Exit)(env:Env)(w:World):Prop:=∀a,Rep a n env->Q ex {a with defers:=ds} w
def mk (D:Nat):List Deferred:=[{target:= .collected D,args:=#[]}]
theorem retM_mark {fn:Func}{R:Ending->World->Prop}{env:Env}{w:World}{t u D:Nat}{v x:Value}(hr:fn.results=#[.tmp t,.tmp u])(hv:look env t=some v)(hx:look env u=some x)(hD:w.heap[D]? =some (.deferred (some [])))
    (h:R (.returned (.tuple #[v,x])) (w.putObj D (.deferred none))):DE (bodyPostM Fence.wide 3 P fn R) n (mk D) .ret env w:=fun _ ha=>
  ⟨by simp,.inl ⟨D,_,rfl,run_takeDeferred hD,_,by rw[results_tmp2 hr];simp[ha.2.2 t v hv,ha.2.2 u x hx],h⟩⟩
theorem put_defers (a:Act)(ds:List Deferred)(d:Option Tmp)(v:Value):({a with defers:=ds}:Act).put d v={a.put d v with defers:=ds}:=by cases d<;>rfl
theorem wp_defers {o:Oper}{a:Act}{w:World}{K:Value->World->Prop}{ds:List Deferred}(h:o.wp P a w (fun a' w'=>∃v,a'=a.put o.dst v/\K v w') noQ):
    o.wp P {a with defers:=ds} w (fun a' w'=>∃v,a'={a.put o.dst v with defers:=ds}/\K v w') noQ:=by
  unfold Oper.wp at*
  have e:(execOp ({a with defers:=ds}:Act).eval o).run P w=(execOp a.eval o).run P w:=rfl
  rw[e]
  have pd:∀(b:Act) (d:Option Tmp) (v:Value),(b.put d v).defers=b.defers:=fun b d v=>by cases d<;>rfl
  have inj:∀v v',a.put o.dst v=a.put o.dst v'->({a.put o.dst v with defers:=ds}:Act)={a.put o.dst v' with defers:=ds}:=fun v v' h=>by rw[h]
  generalize (execOp a.eval o).run P w=r at*
  cases r with
  |ok x w'=>
    cases x<;>simp only[Oper.upon]at h ⊢ <;>try exact h
    case value v=>obtain⟨v',i,j⟩:=h;exact⟨v',by rw[put_defers];exact inj _ _ i,j⟩
    case skip=>obtain⟨v',i,j⟩:=h;exact⟨v',by rw[put_defers];exact inj _ _ i,j⟩
    case defer d=>
      obtain⟨v,i,_⟩:=h
      have j:=congrArg (fun b:Act=>b.defers.length) i
      simp only[pd,List.length_cons]at j
      omega
    case enter f args=>
      refine Calls.mono h fun e w'' he=>?_
      cases e with
      |returned v=>obtain⟨v',i,j⟩:=he;exact⟨v',by rw[put_defers];exact inj _ _ i,j⟩
      |panicked c=>exact he.elim
      |outgrown=>obtain⟨_,_,hf⟩:=he;exact hf.elim
    case row row args=>
      refine Rows.mono h fun v w'' he=>?_
      obtain⟨v',i,j⟩:=he
      exact⟨v',by rw[put_defers];exact inj _ _ i,j⟩
  |halt x w'=>cases x<;>simp only[Oper.upon]at h ⊢ <;>exact h.elim
theorem DE.blkN {ds:List Deferred}{env:Env}{w:World}{id:Nat}(h:DE Q n ds .normal env w):DE (Exit.inBlock id Q) n ds .normal env w:=h
def GD (P:Program)(ops:Array Oper)(Q:Exit->Act->World->Prop)(n:Nat)(ds:List Deferred)(plan:List Nat)(env:Env)(w:World):Prop:=∀a,Rep a n env->wpG P ops Q plan {a with defers:=ds} w
theorem GD.nil {ds:List Deferred}{env:Env}{w:World}(h:DE Q n ds .normal env w):GD P ops Q n ds [] env w:=h
theorem GD.any {ds:List Deferred}{env:Env}{w:World}{i:Nat}{o:Oper}{plan:List Nat}{v:Value}{d:Nat}(ho:ops[i]? =some o)(hk:kd o.op=0)(hr:Any P env n o v)(hg:o.guard=none)(hd:o.dst=some d)
    (hn:Nat.blt d n=true)(h:GD P ops Q n ds plan ((d,v)::env) w):GD P ops Q n ds (i::plan) env w:=fun a ha=>
  ⟨o,ho,by
    rw[if_neg (by rw[hk];decide)]
    refine⟨v,.inl ⟨by unfold Region.wanted;rw[hg],fun w' _=>hr a ha w'⟩,?_⟩
    rw[put_defers,hd]
    exact h _ (ha.put hn v)⟩
theorem GD.rd {ds:List Deferred}{env:Env}{w:World}{i:Nat}{o:Oper}{plan:List Nat}{v:Value}{d:Nat}(ho:ops[i]? =some o)(hk:kd o.op=1)(hr:Rd P w env n o v)(hg:o.guard=none)(hd:o.dst=some d)
    (hn:Nat.blt d n=true)(h:GD P ops Q n ds plan ((d,v)::env) w):GD P ops Q n ds (i::plan) env w:=fun a ha=>
  ⟨o,ho,by
    rw[if_neg (by rw[hk];decide)]
    refine⟨v,.inl ⟨by unfold Region.wanted;rw[hg],fun w' hw=>hr a ha w' (hw hk)⟩,?_⟩
    rw[put_defers,hd]
    exact h _ (ha.put hn v)⟩
theorem GD.ef {ds:List Deferred}{env:Env}{w:World}{i:Nat}{o:Oper}{plan:List Nat}{d:Nat}(ho:ops[i]? =some o)(hk:kd o.op=2)(hg:o.guard=none)(hd:o.dst=some d)(hn:Nat.blt d n=true)
    (h:Ef P env n o w fun v w'=>((nS ops i||plan.any (nS ops))=true->Le w w')/\GD P ops Q n ds plan ((d,v)::env) w'):GD P ops Q n ds (i::plan) env w:=fun a ha=>
  ⟨o,ho,by
    rw[if_pos hk]
    unfold wpOp
    simp only[ho]
    rw[if_pos (by unfold Region.wanted;rw[hg])]
    left
    exact Oper.wp_mono (fun a' w' ⟨v,b,c,e⟩=>⟨c,by subst b;rw[hd];exact e _ (ha.put hn v)⟩) (wp_defers (h a ha))⟩
def DC (P:Program)(Q:Exit->Act->World->Prop)(n:Nat)(ds:List Deferred)(c:Code)(env:Env)(w:World):Prop:=∀a,Rep a n env->c.wp P Q {a with defers:=ds} w
theorem DC.draw {ds:List Deferred}{env:Env}{w:World}{id:Nat}(plan:List Nat)(hm:P.follows .mixedOrders=true)(hp:planOK ops plan=true)
    (h:∀w',Le w w'->GD P ops Q n ds plan env w'):DC P Q n ds (.region id ops true) env w:=fun a ha=>wp_draw plan hm hp (h _ (Le.drew w) a ha)
theorem DC.seq {ds:List Deferred}{env:Env}{w:World}{x y:Code}(h:DC P (Exit.then (y.wp P Q) Q) n ds x env w):DC P Q n ds (.seq x y) env w:=fun a ha=>wp_seq (h a ha)
theorem DE.thenN {ds:List Deferred}{env:Env}{w:World}{y:Code}{Q Q':Exit->Act->World->Prop}(h:DC P Q n ds y env w):DE (Exit.then (y.wp P Q) Q') n ds .normal env w:=h
theorem DC.ret {ds:List Deferred}{env:Env}{w:World}(h:DE Q n ds .ret env w):DC P Q n ds .ret env w:=fun a ha=>wp_ret (h a ha)
theorem KeepsFrom.of_le {B:Nat}{w w':World}(h:Le w w'):KeepsFrom B w w':=⟨h.size,fun k o _ hk _=>by
  have hlt:=(Array.getElem?_eq_some_iff.1 hk).1
  exact(h.ch none).block k hlt (by simp)|>.trans hk⟩
theorem KeepsFrom.of_ch {B g:Nat}{t:TypeId}{cs:Array Value}{w w':World}(h:Ch w w' (some g))(hB:Blk w g t cs):KeepsFrom B w w':=⟨h.size,fun k o _ hk ho=>by
  have hlt:=(Array.getElem?_eq_some_iff.1 hk).1
  refine(h.block k hlt ?_).trans hk
  intro he
  injection he with he
  subst he
  have:w.heap[k]? =_:=hB
  rw[this]at hk
  injection hk with hk
  subst hk
  cases ho⟩
theorem row_ne {w:World}{row:Option Nat}(hr:∀r,row=some r->∃o:Obj,w.heap[r]? =some o/\o.isCells=false){g:Nat}{t:TypeId}{cs:Array Value}(hB:Blk w g t cs):row≠some g:=fun he=>by
  obtain⟨o,ho,hc⟩:=hr g he
  have:w.heap[g]? =_:=hB
  rw[this]at ho
  injection ho with ho
  subst ho
  cases hc
theorem Blk.grown {w w':World}{row:Option Nat}{g:Nat}{t:TypeId}{cs:Array Value}(h:Blk w g t cs)(hg:w.grownBy w' row)(hr:∀r,row=some r->∃o:Obj,w.heap[r]? =some o/\o.isCells=false):Blk w' g t cs:=h.ch hg (row_ne hr h)
theorem Own.grown {w w':World}{row:Option Nat}{base e s:Nat}{A:Option Addr}{k c:Nat}{xs:List Value}(h:Own w base e s A k c xs)(hk:0<k)(hg:w.grownBy w' row)(hr:∀r,row=some r->∃o:Obj,w.heap[r]? =some o/\o.isCells=false):Own w' base e s A k c xs:=
  h.ch hg fun g hgr he=>by
    obtain⟨g',rfl,_,_,hrow⟩:=h.lit hk
    obtain⟨cur,hB,_⟩:=h.block hk
    rw[hrow]at he
    injection he with he
    subst he
    exact row_ne hr hB hgr
def WI (P:Program)(ops:Array Oper)(Q:Exit->Act->World->Prop)(n:Nat)(rest:List Oper)(env:Env)(w:World):Prop:=∀a,Rep a n env->wpListIn Fence.wide 2 P ops Q rest a w
theorem WC.regionI {env:Env}{w:World}{id:Nat}{L:List Oper}(h:WI P L.toArray Q n L env w):WC P Q n (.region id L.toArray false) env w:=fun a ha=>wpIn_wide.1 (wpIn_region_lit (h a ha))
theorem WI.nil {env:Env}{w:World}(h:E Q n .normal env w):WI P ops Q n [] env w:=fun a ha=>h a ha
theorem WI.rd {env:Env}{w:World}{o:Oper}{rest:List Oper}{v:Value}{d:Nat}(hr:Rd P w env n o v)(hg:o.guard=none)(hd:o.dst=some d)(hn:Nat.blt d n=true)(_hnd:noDf o=true)
    (h:WI P ops Q n rest ((d,v)::env) w):WI P ops Q n (o::rest) env w:=fun a ha=>
  wpListIn_plain hg fun K hK=>by
    refine⟨fun _ _=>trivial,?_⟩
    show o.uponIn Fence.wide 2 P a K Q ((o.semAt none a.eval).run P w)
    rw[Oper.semAt_none,hr a ha w (Le.refl w),Oper.uponIn_value,hd]
    exact hK _ _ (h _ (ha.put hn v))
theorem WI.any {env:Env}{w:World}{o:Oper}{rest:List Oper}{v:Value}{d:Nat}(hr:Any P env n o v)(hg:o.guard=none)(hd:o.dst=some d)(hn:Nat.blt d n=true)(hnd:noDf o=true)
    (h:WI P ops Q n rest ((d,v)::env) w):WI P ops Q n (o::rest) env w:=WI.rd (hr.rd w) hg hd hn hnd h
theorem WI.yield {env:Env}{w:World}{rest:List Oper}{d l:Nat}{f:Operand}{args:Array Operand}{ats:Array TypeId}{T:TypeId}{p:String}{af:Array Edge}{vs:List Value}{R:Ending->World->Prop}
    (hf:ev env f=some (.func (.yield l) #[] #[]))(ha:evs env args.toList=some vs)(hn:Nat.blt d n=true)(hy:YieldAt Fence.wide 1 P l vs.toArray w R)
    (h:∀e w',R e w'->∃v,e= .returned v/\WI P ops Q n rest ((d,v)::env) w'):WI P ops Q n (⟨some d,.call ⟨.value f,args,ats⟩,T,p,af,none⟩::rest) env w:=fun a hr=>
  wpListIn_plain rfl fun K hK=>by
    refine⟨fun _ _=>trivial,?_⟩
    obtain⟨fn,tmps,assign,body,hrun,hR⟩:=hy
    have hargs:args.map a.eval=vs.toArray:=by rw[<-hr.evals ha];apply Array.ext';simp
    have e:((⟨some d,.call ⟨.value f,args,ats⟩,T,p,af,none⟩:Oper).semAt none a.eval).run P w= .ok (.round l fn tmps assign body) w:=by
      rw[Oper.semAt_none]
      simp[execOp,resolve,Deferred.ofValue,hr.eval hf,invoke,hargs,hrun]
    show Oper.uponIn Fence.wide 2 P _ a K Q _
    rw[show(Fence.wide).round=none from rfl,e,Oper.uponIn_round]
    refine⟨fun h=>(by cases h),hR.mono fun e w' he=>?_⟩
    obtain⟨v,rfl,hw⟩:=h e w' he
    exact hK _ _ (hw _ (hr.put hn v))
theorem WC.range {α:Type}{env:Env}{w:World}{g p1 p2:Nat}{assign body:Code}{gf:Nat}{lb:Array Value}(hg:look env g=some (.func (.func gf) #[] lb))(eg:IsGo P gf)(h1:Nat.blt p1 n=true)(h2:Nat.blt p2 n=true)
    {e1 e2:α->Value}{Kp:World->World->Prop}{N:Nat}{S:List α->Prop}(hseq:SeqStopsK Fence.wide 2 P gf lb (fun x=>#[e1 x,e2 x]) Kp S (fun _=>True) N w)
    (hKt:∀{A B C:World},Kp A B->Kp B C->Kp A C)(hKb:∀(W:World) (l:Nat) (o o':Obj),w.heap.size<=l->W.heap[l]? =some o->o.isCells=false->o.isWalk=false->Kp W (W.putObj l o'))
    (I:List α->World->Prop)(hI:OwnFrom w.heap.size I)(h0:I [] w)(envB:α->Nat->Env)(Bx:α->Nat->World->Prop)(hBx:∀x b,OwnFrom w.heap.size (fun(_:Unit) W=>Bx x b W))
    (hassign:∀(l:Nat) (pre:List α) (x:α) (W:World),I pre W->RC P (Exit.then (fun a' W'=>∃b,Rep a' n (envB x b)/\Bx x b W'/\KeepsFrom w.heap.size W W'/\Kp W W'/\I pre W') (fun _ _ _=>False)) n l 1 assign ((p2,e2 x)::(p1,e1 x)::env) W)
    (hbody:∀(l:Nat) (pre:List α) (x:α) (b:Nat) (W:World),I pre W->Bx x b W->pre.length<N->RC P (ownPostG w.heap.size Kp I (fun _ _ _=>False) (pre++[x]) W) n l 1 body (envB x b) W)
    (hdone:∀(D:Nat) (xs:List α) (W:World),w.heap.size<=D->S xs->I xs W->W.heap[D]? =some (.deferred (some []))->DE Q n (mk D) .normal env W):
    WC P Q n (.rangeFunc (.tmp g) #[p1,p2] assign body) env w:=fun a ha=>by
  refine(wpIn_wide (n:=3)).1 (wpIn_rangeFunc_ownH rfl (by decide) (ha.eval (x:= .tmp g) hg) trivial eg.run hseq hKt hKb (Below.refl _ _) (fun _=>rfl) I (fun _ _ _=>False) hI (fun _ _ _ _ _ hs _ _=>hs) h0
    (fun x a' W=>∃b,Rep a' n (envB x b)/\Bx x b W) ?_ ?_ ?_ ?_ ?_)
  · rintro x a' ⟨⟩ W W' row ⟨b,hr,hb⟩ hg' hrow
    exact⟨b,hr,hBx x b () W W' row hb hg' hrow⟩
  · intro l pre x W K hi hK
    have hR:Rep {tmps:=((#[p1,p2]:Array Tmp).zip #[e1 x,e2 x]).foldl (fun t (p,v)=>t.setIfInBounds p v) a.tmps,defers:=[]} n ((p2,e2 x)::(p1,e1 x)::env):=by
      have:=((show Rep {a with defers:=[]} n env from⟨rfl,ha.2.1,ha.2.2⟩).put h1 (e1 x)).put h2 (e2 x)
      have hz:((#[p1,p2]:Array Tmp).zip #[e1 x,e2 x])=#[(p1,e1 x),(p2,e2 x)]:=by apply Array.ext';simp
      rw[hz]
      simpa[Act.put]using this
    refine wpIn_mono (hassign l pre x W hi _ hR) fun e a' W' h=>?_
    cases e with
    |normal=>obtain⟨b,hr,hb,hk,hp,hi'⟩:=h;exact hK a' W' hk hp hi' ⟨b,hr,hb⟩
    |exit id=>exact h.elim
    |goto l=>exact h.elim
    |ret=>exact h.elim
    |panic c=>exact h.elim
    |outgrown=>exact h.elim
  · rintro l pre x a' W _ _ hi ⟨b,hr,hb⟩ hlt
    exact hbody l pre x b W hi hb hlt a' hr
  · intro D xs W hD hS hi hdef
    have:=hdone D xs W hD hS hi hdef a ha
    rw[ha.1]
    exact this
  · intro D c pre W _ _ h _
    exact h.elim
end
end Go.Sx

namespace Go.Sx
open Go Go.RowKit
section
variable {P:Program}{ops:Array Oper}{Q:Exit->Act->World->Prop}{n l m:Nat}
def DW (P:Program)(ops:Array Oper)(Q:Exit->Act->World->Prop)(n:Nat)(ds:List Deferred)(rest:List Oper)(env:Env)(w:World):Prop:=∀a,Rep a n env->wpList P ops Q rest {a with defers:=ds} w
variable {ds:List Deferred}
theorem DW.nil {env:Env}{w:World}(h:DE Q n ds .normal env w):DW P ops Q n ds [] env w:=fun a ha=>h a ha
theorem DW.rd {env:Env}{w:World}{o:Oper}{rest:List Oper}{v:Value}{d:Nat}(hr:Rd P w env n o v)(hg:o.guard=none)(hd:o.dst=some d)(hn:Nat.blt d n=true)
    (h:DW P ops Q n ds rest ((d,v)::env) w):DW P ops Q n ds (o::rest) env w:=fun a ha=>
  wpList_plain hg fun K hK=>by
    unfold Oper.wp
    rw[show(execOp ({a with defers:=ds}:Act).eval o).run P w=_ from hr a ha w (Le.refl w),Oper.upon_value,put_defers,hd]
    exact hK _ _ (h _ (ha.put hn v))
theorem DW.any {env:Env}{w:World}{o:Oper}{rest:List Oper}{v:Value}{d:Nat}(hr:Any P env n o v)(hg:o.guard=none)(hd:o.dst=some d)(hn:Nat.blt d n=true)
    (h:DW P ops Q n ds rest ((d,v)::env) w):DW P ops Q n ds (o::rest) env w:=DW.rd (hr.rd w) hg hd hn h
theorem DW.ef {env:Env}{w:World}{o:Oper}{rest:List Oper}{d:Nat}(hg:o.guard=none)(hd:o.dst=some d)(hn:Nat.blt d n=true)
    (h:Ef P env n o w fun v w'=>DW P ops Q n ds rest ((d,v)::env) w'):DW P ops Q n ds (o::rest) env w:=fun a ha=>
  wpList_plain hg fun K hK=>Oper.wp_noQ (Oper.wp_mono (fun a' w' ⟨v,b,c⟩=>hK _ _ (by subst b;rw[hd];exact c _ (ha.put hn v))) (wp_defers (h a ha)))
theorem DW.ef0 {env:Env}{w:World}{o:Oper}{rest:List Oper}(hg:o.guard=none)(hd:o.dst=none)
    (h:Ef P env n o w fun _ w'=>DW P ops Q n ds rest env w'):DW P ops Q n ds (o::rest) env w:=fun a ha=>
  wpList_plain hg fun K hK=>Oper.wp_noQ (Oper.wp_mono (fun a' w' ⟨v,b,c⟩=>hK _ _ (by subst b;rw[hd];exact c _ ha)) (wp_defers (h a ha)))
theorem DW.rdg {env:Env}{w:World}{o:Oper}{rest:List Oper}{v:Value}{d j dj:Nat}{b want:Bool}(hr:Rd P w env n o v)(hg:o.guard=some (j,want))(hj:(ops[j]?).bind (·.dst)=some dj)
    (hv:look env dj=some (.bool b))(hb:b=want)(hd:o.dst=some d)(hn:Nat.blt d n=true)
    (h:DW P ops Q n ds rest ((d,v)::env) w):DW P ops Q n ds (o::rest) env w:=fun a ha=>by
  refine wpList_step fun K hK=>?_
  rw[show Region.wanted o (yielded ops ({a with defers:=ds}:Act).tmps)=_ from wanted_of ha hg hj hv,hb]
  simp only[beq_self_eq_true,if_true]
  unfold Oper.wp
  rw[show(execOp ({a with defers:=ds}:Act).eval o).run P w=_ from hr a ha w (Le.refl w),Oper.upon_value,put_defers,hd]
  exact hK _ _ (h _ (ha.put hn v))
theorem DW.skip {env:Env}{w:World}{o:Oper}{rest:List Oper}{d j dj:Nat}{b want:Bool}(hg:o.guard=some (j,want))(hj:(ops[j]?).bind (·.dst)=some dj)
    (hv:look env dj=some (.bool b))(hb:b= !want)(hd:o.dst=some d)(hn:Nat.blt d n=true)
    (h:DW P ops Q n ds rest ((d,undef)::env) w):DW P ops Q n ds (o::rest) env w:=fun a ha=>by
  refine wpList_step fun K hK=>?_
  rw[show Region.wanted o (yielded ops ({a with defers:=ds}:Act).tmps)=_ from wanted_of ha hg hj hv,hb,hd]
  have:((!want)==want)=false:=by cases want<;>rfl
  simp only[this,Bool.false_eq_true,if_false,put_defers]
  exact hK _ _ (h _ (ha.put hn undef))
theorem GD.ef0 {env:Env}{w:World}{i:Nat}{o:Oper}{plan:List Nat}(ho:ops[i]? =some o)(hk:kd o.op=2)(hg:o.guard=none)(hd:o.dst=none)
    (h:Ef P env n o w fun _ w'=>((nS ops i||plan.any (nS ops))=true->Le w w')/\GD P ops Q n ds plan env w'):GD P ops Q n ds (i::plan) env w:=fun a ha=>
  ⟨o,ho,by
    rw[if_pos hk]
    unfold wpOp
    simp only[ho]
    rw[if_pos (by unfold Region.wanted;rw[hg])]
    left
    exact Oper.wp_mono (fun a' w' ⟨v,b,c,d⟩=>⟨c,by subst b;rw[hd];exact d _ ha⟩) (wp_defers (h a ha))⟩
theorem DC.region {env:Env}{w:World}{id:Nat}{L:List Oper}(h:DW P L.toArray Q n ds L env w):DC P Q n ds (.region id L.toArray false) env w:=fun a ha=>wp_region_lit (h a ha)
theorem DC.skip {env:Env}{w:World}(h:DE Q n ds .normal env w):DC P Q n ds .skip env w:=fun a ha=>wp_skip (h a ha)
theorem DC.condY {env:Env}{w:World}{c:Operand}{x y:Code}{b:Bool}(hc:ev env c=some (.bool b))(hb:b=true)(ht:DC P Q n ds x env w):DC P Q n ds (.cond c x y) env w:=fun a ha=>wp_cond_true (by rw[<-hb];exact ha.eval hc) (ht a ha)
theorem DC.condN {env:Env}{w:World}{c:Operand}{x y:Code}{b:Bool}(hc:ev env c=some (.bool b))(hb:b=false)(ht:DC P Q n ds y env w):DC P Q n ds (.cond c x y) env w:=fun a ha=>wp_cond_false (by rw[<-hb];exact ha.eval hc) (ht a ha)
theorem DC.condT {env:Env}{w:World}{c:Operand}{x y:Code}(hc:ev env c=some (.bool true))(ht:DC P Q n ds x env w):DC P Q n ds (.cond c x y) env w:=fun a ha=>wp_cond_true (ha.eval hc) (ht a ha)
theorem DC.condF {env:Env}{w:World}{c:Operand}{x y:Code}(hc:ev env c=some (.bool false))(ht:DC P Q n ds y env w):DC P Q n ds (.cond c x y) env w:=fun a ha=>wp_cond_false (ha.eval hc) (ht a ha)
theorem DE.thenR {env:Env}{w:World}{K:Act->World->Prop}(h:DE Q n ds .ret env w):DE (Exit.then K Q) n ds .ret env w:=h
theorem DE.blkR {env:Env}{w:World}{id:Nat}(h:DE Q n ds .ret env w):DE (Exit.inBlock id Q) n ds .ret env w:=h
theorem RC.exit {env:Env}{w:World}{id:Nat}(h:E Q n (.exit id) env w):RC P Q n l m (.exit id) env w:=fun a ha=>wpIn_exit (h a ha)
theorem RC.ret {env:Env}{w:World}(h:E Q n .ret env w):RC P Q n l m .ret env w:=fun a ha=>wpIn_ret (h a ha)
theorem RC.condT {env:Env}{w:World}{c:Operand}{x y:Code}(hc:ev env c=some (.bool true))(ht:RC P Q n l m x env w):RC P Q n l m (.cond c x y) env w:= .condB hc (fun _=>ht) (fun h=>by cases h)
theorem RC.condF {env:Env}{w:World}{c:Operand}{x y:Code}(hc:ev env c=some (.bool false))(ht:RC P Q n l m y env w):RC P Q n l m (.cond c x y) env w:= .condB hc (fun h=>by cases h) (fun _=>ht)
theorem RC.condY {env:Env}{w:World}{c:Operand}{x y:Code}{b:Bool}(hc:ev env c=some (.bool b))(hb:b=true)(ht:RC P Q n l m x env w):RC P Q n l m (.cond c x y) env w:= .condT (by rw[hc,hb]) ht
theorem RC.condN {env:Env}{w:World}{c:Operand}{x y:Code}{b:Bool}(hc:ev env c=some (.bool b))(hb:b=false)(ht:RC P Q n l m y env w):RC P Q n l m (.cond c x y) env w:= .condF (by rw[hc,hb]) ht
theorem OVec.grown {α:Type}{w w':World}{row:Option Nat}{base e s:Nat}{f:α->List Value}{A:Option Addr}{k c:Nat}{xs:List α}(h:OVec w base e f s A k c xs)(hg:w.grownBy w' row)(hr:∀r,row=some r->∃o:Obj,w.heap[r]? =some o/\o.isCells=false):OVec w' base e f s A k c xs:=by
  refine⟨h.1,?_⟩
  rcases h.2.2 with⟨rfl,rfl⟩|⟨g,cur,rfl,hb,hh,hnc,hcm,hcs,htake⟩
  · exact⟨h.2.1,.inl ⟨rfl,rfl⟩⟩
  · exact⟨h.2.1,.inr ⟨g,cur,rfl,hb,(Blk.grown (w:=w) (w':=w') (cs:=cur) (t:=e) hh hg hr),hnc,hcm,hcs,htake⟩⟩
theorem KeepsFrom.of_own {α:Type}{B:Nat}{w w':World}{base e s:Nat}{f:α->List Value}{A:Option Addr}{k c:Nat}{xs:List α}(h:Ch w w' (rowOf A c))(hO:OVec w base e f s A k c xs):KeepsFrom B w w':=by
  rcases hO.2.2 with⟨rfl,rfl⟩|⟨g,cur,rfl,hb,hh,hnc,hcm,hcs,htake⟩
  · rw[rowOf_zero]at h;exact KeepsFrom.of_le h.le_none
  · by_cases hc:c=0
    · subst hc;rw[rowOf_zero]at h;exact KeepsFrom.of_le h.le_none
    · rw[show rowOf (some ⟨g,0,none⟩) c=some g from rowOf_some g 0 c (by omega)]at h
      exact KeepsFrom.of_ch (t:=e) (cs:=cur) h hh
def Dob (w:World)(D:Nat):Prop:=w.heap[D]? =some (.deferred (some []))
theorem Dob.le {w w':World}{D:Nat}(h:Dob w D)(hl:Le w w'):Dob w' D:=hl.block h
theorem Dob.ch {w w':World}{D:Nat}{r:Option Nat}(h:Dob w D)(hc:Ch w w' r)(hne:r≠some D):Dob w' D:=
  (hc.block D (Array.getElem?_eq_some_iff.1 h).1 (Ne.symm hne)).trans h
theorem Dob.lt {w:World}{D:Nat}(h:Dob w D):D<w.heap.size:=(Array.getElem?_eq_some_iff.1 h).1
theorem Blk.ne_dob {w:World}{g t D:Nat}{cs:Array Value}(hB:Blk w g t cs)(hD:Dob w D):some g≠some D:=fun he=>by
  injection he with he
  subst he
  have c:w.heap[g]? =_:=hB
  have b:w.heap[g]? =_:=hD
  rw[c]at b
  cases b
theorem OVec.ne_dob {α:Type}{w:World}{base e s D:Nat}{f:α->List Value}{A:Option Addr}{k c:Nat}{xs:List α}(hO:OVec w base e f s A k c xs)(hD:Dob w D):rowOf A c≠some D:=fun he=>by
  rcases hO.2.2 with⟨rfl,rfl⟩|⟨g,cur,rfl,hb,hh,hnc,hcm,hcs,htake⟩
  · rw[rowOf_zero]at he;cases he
  · have d:=rowOf_lit he
    subst d
    have b:w.heap[D]? =_:=hD
    rw[hh]at b
    cases b
theorem Dob.put {w:World}{D:Nat}(h:Dob w D):w.grownBy (w.putObj D (.deferred none)) (some D)/\∀r,some D=some r->∃o:Obj,w.heap[r]? =some o/\o.isCells=false:=
  ⟨grownBy_putObj' w D _,fun r e=>by cases e;exact⟨_,h,rfl⟩⟩
theorem E.retM1 {fn:Func}{R:Ending->World->Prop}{env:Env}{w:World}{r1:ResultVar}{v1:Value}(hr:fn.results=#[r1])(h1:ResIs P w env r1 v1)(h:R (.returned v1) w):E (bodyPostM Fence.wide 3 P fn R) n .ret env w:=fun a ha=>by
  show LeavesInM Fence.wide 3 P fn a.tmps R a.defers .returning w
  rw[ha.1]
  exact⟨v1,by rw[results_one,hr];simp[h1.run ha],h⟩
theorem E.retMG2 {fn:Func}{R:Ending->World->Prop}{env:Env}{w:World}{r1 r2:ResultVar}{v1 v2:Value}(hr:fn.results=#[r1,r2])(h1:ResIs P w env r1 v1)(h2:ResIs P w env r2 v2)(h:R (.returned (.tuple #[v1,v2])) w):E (bodyPostM Fence.wide 3 P fn R) n .ret env w:=fun a ha=>by
  show LeavesInM Fence.wide 3 P fn a.tmps R a.defers .returning w
  rw[ha.1]
  exact⟨.tuple #[v1,v2],by rw[results_one,hr];simp[h1.run ha,h2.run ha],h⟩
theorem E.retM3 {fn:Func}{R:Ending->World->Prop}{env:Env}{w:World}{r1 r2 r3:ResultVar}{v1 v2 v3:Value}(hr:fn.results=#[r1,r2,r3])(h1:ResIs P w env r1 v1)(h2:ResIs P w env r2 v2)(h3:ResIs P w env r3 v3)(h:R (.returned (.tuple #[v1,v2,v3])) w):E (bodyPostM Fence.wide 3 P fn R) n .ret env w:=fun a ha=>by
  show LeavesInM Fence.wide 3 P fn a.tmps R a.defers .returning w
  rw[ha.1]
  exact⟨.tuple #[v1,v2,v3],by rw[results_one,hr];simp[h1.run ha,h2.run ha,h3.run ha],h⟩
theorem DE.retM1 {fn:Func}{R:Ending->World->Prop}{env:Env}{w:World}{D:Nat}{r1:ResultVar}{v1:Value}(hr:fn.results=#[r1])(hD:Dob w D)(h1:ResIs P (w.putObj D (.deferred none)) env r1 v1)(h:R (.returned v1) (w.putObj D (.deferred none))):DE (bodyPostM Fence.wide 3 P fn R) n (mk D) .ret env w:=fun _ ha=>
  ⟨by simp,.inl ⟨D,_,rfl,run_takeDeferred hD,⟨v1,by rw[results_one,hr];simp[h1.run ha],h⟩⟩⟩
theorem DE.retMG2 {fn:Func}{R:Ending->World->Prop}{env:Env}{w:World}{D:Nat}{r1 r2:ResultVar}{v1 v2:Value}(hr:fn.results=#[r1,r2])(hD:Dob w D)(h1:ResIs P (w.putObj D (.deferred none)) env r1 v1)(h2:ResIs P (w.putObj D (.deferred none)) env r2 v2)(h:R (.returned (.tuple #[v1,v2])) (w.putObj D (.deferred none))):DE (bodyPostM Fence.wide 3 P fn R) n (mk D) .ret env w:=fun _ ha=>
  ⟨by simp,.inl ⟨D,_,rfl,run_takeDeferred hD,⟨.tuple #[v1,v2],by rw[results_one,hr];simp[h1.run ha,h2.run ha],h⟩⟩⟩
theorem DE.retM3 {fn:Func}{R:Ending->World->Prop}{env:Env}{w:World}{D:Nat}{r1 r2 r3:ResultVar}{v1 v2 v3:Value}(hr:fn.results=#[r1,r2,r3])(hD:Dob w D)(h1:ResIs P (w.putObj D (.deferred none)) env r1 v1)(h2:ResIs P (w.putObj D (.deferred none)) env r2 v2)(h3:ResIs P (w.putObj D (.deferred none)) env r3 v3)
    (h:R (.returned (.tuple #[v1,v2,v3])) (w.putObj D (.deferred none))):DE (bodyPostM Fence.wide 3 P fn R) n (mk D) .ret env w:=fun _ ha=>
  ⟨by simp,.inl ⟨D,_,rfl,run_takeDeferred hD,⟨.tuple #[v1,v2,v3],by rw[results_one,hr];simp[h1.run ha,h2.run ha,h3.run ha],h⟩⟩⟩
theorem WC.rangeX {α:Type}{env:Env}{w:World}{g p1 p2:Nat}{assign body:Code}{gf:Nat}{lb:Array Value}(hg:look env g=some (.func (.func gf) #[] lb))(eg:IsGo P gf)(h1:Nat.blt p1 n=true)(h2:Nat.blt p2 n=true)
    {e1 e2:α->Value}{Kp:World->World->Prop}{N:Nat}{S Sp:List α->Prop}(hseq:SeqStopsK Fence.wide 2 P gf lb (fun x=>#[e1 x,e2 x]) Kp S Sp N w)
    (hKr:∀A:World,Kp A A)(hKt:∀{A B C:World},Kp A B->Kp B C->Kp A C)(hKb:∀(W:World) (l:Nat) (o o':Obj),w.heap.size<=l->W.heap[l]? =some o->o.isCells=false->o.isWalk=false->Kp W (W.putObj l o'))
    (I Jx:List α->World->Prop)(hI:OwnFrom w.heap.size I)(hJx:OwnFrom w.heap.size Jx)(h0:I [] w)(envB:α->Env)
    (hassign:∀(l:Nat) (x:α) (W:World),RC P (Exit.then (fun a' W'=>Rep a' n (envB x)/\W'=W) (fun _ _ _=>False)) n l 1 assign ((p2,e2 x)::(p1,e1 x)::env) W)
    (hbody:∀(l:Nat) (pre:List α) (x:α) (W:World),I pre W->pre.length<N->RC P (ownPostG w.heap.size Kp I (fun c pre W=>c= .ret/\Jx pre W) (pre++[x]) W) n l 1 body (envB x) W)
    (hdone:∀(D:Nat) (xs:List α) (W:World),w.heap.size<=D->S xs->I xs W->Dob W D->DE Q n (mk D) .normal env W)
    (hstop:∀(D:Nat) (xs:List α) (W:World),w.heap.size<=D->Sp xs->Jx xs W->Dob W D->DE Q n (mk D) .ret env W):
    WC P Q n (.rangeFunc (.tmp g) #[p1,p2] assign body) env w:=fun a ha=>by
  refine(wpIn_wide (n:=3)).1 (wpIn_rangeFunc_ownH rfl (by decide) (ha.eval (x:= .tmp g) hg) trivial eg.run hseq hKt hKb (Below.refl _ _) (fun _=>rfl) I (fun c pre W=>c= .ret/\Jx pre W) hI (fun c s W W' row hs hg' hr=>⟨hs.1,hJx s W W' row hs.2 hg' hr⟩) h0
    (fun x a' W=>Rep a' n (envB x)) ?_ ?_ ?_ ?_ ?_)
  · rintro x a' ⟨⟩ W W' row hr hg' hrow
    exact hr
  · intro l pre x W K hi hK
    have hR:Rep {tmps:=((#[p1,p2]:Array Tmp).zip #[e1 x,e2 x]).foldl (fun t (p,v)=>t.setIfInBounds p v) a.tmps,defers:=[]} n ((p2,e2 x)::(p1,e1 x)::env):=by
      have:=((show Rep {a with defers:=[]} n env from⟨rfl,ha.2.1,ha.2.2⟩).put h1 (e1 x)).put h2 (e2 x)
      have hz:((#[p1,p2]:Array Tmp).zip #[e1 x,e2 x])=#[(p1,e1 x),(p2,e2 x)]:=by apply Array.ext';simp
      rw[hz]
      simpa[Act.put]using this
    refine wpIn_mono (hassign l x W _ hR) fun e a' W' h=>?_
    cases e with
    |normal=>
      obtain⟨hr,rfl⟩:=h
      exact hK a' _ (KeepsFrom.refl _ _) (hKr _) hi hr
    |exit id=>exact h.elim
    |goto l=>exact h.elim
    |ret=>exact h.elim
    |panic c=>exact h.elim
    |outgrown=>exact h.elim
  · rintro l pre x a' W _ _ hi hr hlt
    exact hbody l pre x W hi hlt a' hr
  · intro D xs W hD hS hi hdef
    have:=hdone D xs W hD hS hi hdef a ha
    rw[ha.1]
    exact this
  · rintro D c pre W hD hS ⟨rfl,hj⟩ hdef
    have:=hstop D pre W hD hS hj hdef a ha
    rw[ha.1]
    exact wpIn_ret this
end
end Go.Sx

namespace Go.Proofs.YtocheaahlpiajaaGreatDoor
open Tryz
open Go Go.Sx Go.Nsp
set_option maxRecDepth 20000
def finD (n j:Nat)(h:j<=n):List (Fin n):=(List.range j).attach.map fun i=>⟨n-1-i.1,by have:=List.mem_range.1 i.2;omega⟩
theorem finD_length (n j:Nat)(h:j<=n):(finD n j h).length=j:=by simp[finD]
theorem finD_at {n j:Nat}(h:j<=n){i:Nat}(hi:i<j):(finD n j h)[i]'(by rw[finD_length];exact hi)=⟨n-1-i,by omega⟩:=by simp[finD]
theorem finD_succ (n j:Nat)(h:j+1<=n):finD n (j+1) h=finD n j (by omega)++[⟨n-1-j,by omega⟩]:=by
  apply List.ext_getElem (by rw[List.length_append,finD_length,finD_length];rfl)
  intro i b c
  rw[finD_length]at b
  rw[finD_at h (by omega)]
  by_cases hij:i<j
  · rw[List.getElem_append_left (by rw[finD_length];exact hij),finD_at _ hij]
  · have:i=j:=by omega
    subst this
    rw[List.getElem_append_right (by rw[finD_length];exact Nat.le_refl _)]
    simp[finD_length]
theorem mem_finD {n j:Nat}{h:j<=n}{x:Fin n}:x∈finD n j h↔n-j<=x.1:=by
  constructor
  · intro hx
    obtain⟨i,hi,rfl⟩:=List.getElem_of_mem hx
    rw[finD_length]at hi
    rw[finD_at h hi]
    simp only
    omega
  · intro hx
    have b:=x.2
    refine List.mem_iff_getElem.2 ⟨n-1-x.1,by rw[finD_length];omega,?_⟩
    rw[finD_at h (by omega)]
    apply Fin.ext
    simp only
    omega
def KpV (gb t:Nat)(A:Option Addr)(n c:Nat)(xs:List Nat)(W W':World):Prop:=(Blk W gb t #[.slice A n c]->Blk W' gb t #[.slice A n c])/\(Vec W dv 1 A n xs->Vec W' dv 1 A n xs)
theorem KpV.refl (gb t:Nat)(A:Option Addr)(n c:Nat)(xs:List Nat)(W:World):KpV gb t A n c xs W W:=⟨id,id⟩
theorem KpV.trans {gb t:Nat}{A:Option Addr}{n c:Nat}{xs:List Nat}{X Y Z:World}(h:KpV gb t A n c xs X Y)(k:KpV gb t A n c xs Y Z):KpV gb t A n c xs X Z:=⟨fun q=>k.1 (h.1 q),fun q=>k.2 (h.2 q)⟩
theorem Vec.grown {α:Type}{w w':World}{row:Option Nat}{s n:Nat}{f:α->List Value}{A:Option Addr}{xs:List α}(h:Vec w f s A n xs)(hg:w.grownBy w' row)(hr:∀r,row=some r->∃o:Obj,w.heap[r]? =some o/\o.isCells=false):Vec w' f s A n xs:=by
  refine⟨h.1,h.2.1,fun j u hu=>?_⟩
  obtain⟨ad,c,b⟩:=h.2.2 j u hu
  refine⟨ad,c,?_⟩
  have hb:=block_lt_of_cell b
  unfold World.cell? at b ⊢
  rw[hg.block _ hb (fun he=>?_)]
  · exact b
  · obtain⟨o,ho,hc⟩:=hr _ he.symm
    rw[ho]at b
    cases o<;>simp_all [Obj.isCells]
theorem KpV.put {gb t:Nat}{A:Option Addr}{n c:Nat}{xs:List Nat}{W:World}{q:Nat}{o o':Obj}(_h:True)(h1:W.heap[q]? =some o)(h2:o.isCells=false):KpV gb t A n c xs W (W.putObj q o'):=by
  have hr:∀r,some q=some r->∃o:Obj,W.heap[r]? =some o/\o.isCells=false:=fun r e=>by cases e;exact⟨o,h1,h2⟩
  exact⟨fun h=>h.grown (grownBy_putObj' W q o') hr,fun h=>Vec.grown h (grownBy_putObj' W q o') hr⟩
theorem backD_ok {A:Option Addr}{n c:Nat}(w:World):Calls prog 213 #[.slice A n c] w fun e w'=>∃g,e= .returned (.func (.func 279) #[] #[.pointer (some ⟨g,0,none⟩)])/\w.heap.size<=g/\Blk w' g 59 #[.slice A n c]/\Le w w':=by
 refine enter func213 rfl rfl ?_
 have b:=Le.refl w
 refine Sr (W.ef rfl rfl rfl (Ef.box rfl fun d k f h i=>?_))
 have j:=b.trans i
 refine Wn 1 rfl (Nx (Sr (Wa (.makeFunc rfl) rfl (Wn 1 rfl (Nx (Rt (E.ret1 rfl rfl ?_)))))))
 exact⟨d,rfl,f,h,j⟩
theorem backD_in {n gb c lp:Nat}{A:Option Addr}{xs:List Nat}(hn:n<=1000000000)(J Jx:List (Fin n)->World->Prop)
  (hY:∀pre x W1,J pre W1->pre.length<n->YieldAt Fence.wide 1 prog lp #[.int .i64 ((x.val:Nat):Int),.int .u32 (((xs.getD x.val 0:Nat)):Int)] W1 fun e W'=>(e= .returned (.bool true)/\J (pre++[x]) W'/\KpV gb 59 A n c xs W1 W')\/(e= .returned (.bool false)/\Jx (pre++[x]) W'))
  (w:World)(hB:Blk w gb 59 #[.slice A n c])(hS:Vec w dv 1 A n xs)(h0:J [] w):Calls prog 279 #[.func (.yield lp) #[] #[],.pointer (some ⟨gb,0,none⟩)] w fun e W'=>(∃v,e= .returned v)/\((∃l,l=finD n n (Nat.le_refl n)/\J l W')\/(∃pre,(∃k,∃hk:k<=n,pre=finD n k hk)/\Jx pre W')):=by
 refine enter func279 rfl rfl (Sr (Wr (.loadB na59 rfl (hB) (rfl)) rfl (Wr (.len underlying59 rfl) rfl (Wa (.sub rfl rfl (by omega)) rfl (Wn 1 rfl (Nx (WC.block ?_)))))))
 refine WC.loop (ι:=Nat) (fun k=>[(0,.func (.yield lp) #[] #[]),(1,.pointer (some ⟨gb,0,none⟩)),(3,.int .i64 ((n:Int)-1-(k:Int)))]) (fun k wl=>∃hk:k<=n,J (finD n k hk) wl/\KpV gb 59 A n c xs w wl) (fun k=>n-k) 0 ?_ ?_ ?_
 ·exact .cons rfl (.cons rfl (.cons' rfl (int_eq (by omega)) (.nil _)))
 ·exact⟨Nat.zero_le _,h0,KpV.refl _ _ _ _ _ _ _⟩
 rintro k wl ⟨hk,hJ,hkp⟩
 have hB:=hkp.1 hB
 have hS:=hkp.2 hS
 refine Sq (Sr (Wn 2 rfl (Nx (WC.cond rfl (fun d=>?_) (fun d=>?_)))))
 ·have b:k+1<=n:=by omega
  have hi:(n:Int)-1-(k:Int)=((n-1-k:Nat):Int):=by omega
  have hl:=hS.1
  refine Sn (Sq (WC.block (Sq (WC.regionI (WI.any (.move rfl) rfl rfl rfl rfl (WI.any (.move rfl) rfl rfl rfl rfl (WI.rd (.loadB na59 rfl (hB) (rfl)) rfl rfl rfl rfl (WI.any (.move rfl) rfl rfl rfl rfl ?_))))))))
  refine WI.any (.idxS (n-1-k) underlying59 sz273 rfl rfl (hS.isSome dv_row (by omega)) (hi) (by omega)) rfl rfl rfl rfl (WI.rd (.vone (v:= .int .u32 (((xs.getD (n-1-k) 0:Nat)):Int)) na273 rfl hS dv_row (getS xs 0 (by omega)) rfl) rfl rfl rfl rfl (WI.yield rfl rfl rfl (by rw[hi];exact hY (finD n k hk) ⟨n-1-k,by omega⟩ _ hJ (by rw[finD_length];omega)) ?_))
  rintro _ f (⟨rfl,hJ',hk'⟩|⟨rfl,hJx'⟩)
  ·refine⟨_,rfl,?_⟩
   refine WI.any (.not rfl) rfl rfl rfl rfl (WI.nil (E.thenN (WC.condF rfl (WC.skip (E.blkN (E.thenN (WC.region (Wn 1 rfl (Wa (.sub rfl rfl (by omega)) rfl (Wn 1 rfl (W.nil (E.again (k+1) (.cons rfl (.cons rfl (.cons' rfl (int_eq (by omega)) (.nil _)))) ?_ ?_))))))))))))
   ·exact⟨b,by rw[finD_succ];exact hJ',hkp.trans hk'⟩
   first|omega|(simp only[];omega)
  refine⟨_,rfl,?_⟩
  refine WI.any (.not rfl) rfl rfl rfl rfl (WI.nil (E.thenN (WC.condT rfl (Rt (E.blkR (E.thenR (E.thenR (E.blkR (E.ret0 rfl ?_)))))))))
  exact⟨⟨_,rfl⟩,.inr ⟨_,⟨k+1,b,(finD_succ n k b).symm⟩,hJx'⟩⟩
 have hkn:n=k:=by omega
 subst hkn
 refine WC.exit (E.thenX (E.thenX (E.blkH (E.end_ (E.ret0 rfl ?_)))))
 exact⟨⟨_,rfl⟩,.inl ⟨_,rfl,hJ⟩⟩
theorem backD_seq {n gb c:Nat}{A:Option Addr}{xs:List Nat}(hn:n<=1000000000)(w:World)(hB:Blk w gb 59 #[.slice A n c])(hS:Vec w dv 1 A n xs):
    SeqStopsK (α:=Fin n) Fence.wide 2 prog 279 #[.pointer (some ⟨gb,0,none⟩)] (fun x=>#[.int .i64 ((x.val:Nat):Int),.int .u32 (((xs.getD x.val 0:Nat)):Int)]) (KpV gb 59 A n c xs) (fun l=>l=finD n n (Nat.le_refl n)) (fun pre=>∃k,∃hk:k<=n,pre=finD n k hk) n w:=
  fun lp J Jx W hW _ _ hY b=>callsIn_wide.2 (backD_in hn J Jx hY W (hB.le hW) (hS.le hW) b)
end Go.Proofs.YtocheaahlpiajaaGreatDoor

namespace Go.Proofs.YtocheaahlpiajaaGreatDoor
open Tryz
open Go Go.Sx Go.Nsp
set_option maxRecDepth 20000
def cmpZ (a b:Int):Int:=if a<b then-1 else if b<a then 1 else 0
theorem cmpN_less {a b:Nat}(h:a<b):cmpN a b= -1:=by unfold cmpN;rw[if_pos h]
theorem cmpN_more {a b:Nat}(h:b<a):cmpN a b=1:=by unfold cmpN;rw[if_neg (by omega),if_pos h]
theorem cmpN_same (a:Nat):cmpN a a=0:=by unfold cmpN;rw[if_neg (by omega),if_neg (by omega)]
theorem cmp_len {a b:Nat}(h:(digs a).length≠(digs b).length):cmpZ ((digs a).length:Int) ((digs b).length:Int)=cmpN a b:=by
  unfold cmpZ
  rcases Nat.lt_or_gt_of_ne h with c|c
  · rw[if_pos (by omega),cmpN_less (digs_len_le c)]
  · rw[if_neg (by omega),if_pos (by omega),cmpN_more (digs_len_le c)]
theorem drop_same {l m:List Nat}{i:Nat}(hl:l.length=m.length)(h:∀j,i<=j->j<l.length->l.getD j 0=m.getD j 0):l.drop i=m.drop i:=by
  apply List.ext_getElem (by simp[hl])
  intro k b c
  simp only[List.length_drop]at b c
  have:=h (i+k) (by omega) (by omega)
  simp only[List.getElem_drop]
  simpa[List.getD,show i+k<l.length by omega,show i+k<m.length by omega]using this
theorem cmp_digit {a b:Nat}(hl:(digs a).length=(digs b).length){i:Nat}(hi:i<(digs a).length)(h:∀j,i<j->j<(digs a).length->(digs a).getD j 0=(digs b).getD j 0)(hne:(digs a).getD i 0≠(digs b).getD i 0):cmpN ((digs a).getD i 0) ((digs b).getD i 0)=cmpN a b:=by
  have hd:=drop_same (i:=i+1) hl (fun j c d=>h j (by omega) d)
  rcases Nat.lt_or_gt_of_ne hne with c|c
  · have:=val_less (digs_lt a) hl hi hd c
    rw[val_digs,val_digs]at this
    rw[cmpN_less c,cmpN_less this]
  · have:=val_less (digs_lt b) hl.symm (by omega) hd.symm c
    rw[val_digs,val_digs]at this
    rw[cmpN_more c,cmpN_more this]
theorem cmp_all {a b:Nat}(hl:(digs a).length=(digs b).length)(h:∀j,j<(digs a).length->(digs a).getD j 0=(digs b).getD j 0):cmpN a b=0:=by
  have e:digs a=digs b:=drop_same (i:=0) hl (fun j _ c=>h j c)
  have:a=b:=by rw[<-val_digs a,<-val_digs b,e]
  rw[this,cmpN_same]
theorem u32_of (a:Nat)(h:a<4294967296):Value.int .u32 ((a:Nat):Int)=u32v (BitVec.ofNat 32 a):=by
  unfold u32v
  rw[BitVec.toNat_ofNat,Nat.mod_eq_of_lt (by omega)]
theorem isNaN32_ok (a:Nat)(w:World):Calls prog 280 #[.int .u32 (((a:Nat):Int))] w fun r w'=>r= .returned (.bool false)/\Le w w':=by
 refine enter func280 rfl rfl (WC.sr (W.run 1 rfl (W.nx (WC.sr (W.run 4 rfl (W.nx (WC.ret (E.retG1 rfl rfl ?_))))))))
 exact⟨by simp,(Le.refl w)⟩

theorem compare32_ok (a b:Nat)(w:World):Calls prog 214 #[.int .u32 (((a:Nat):Int)),.int .u32 (((b:Nat):Int))] w fun r w'=>r= .returned (.int .i64 (cmpN a b))/\Le w w':=by
 refine enter func214 rfl rfl (Sr (Wn 1 rfl (Nx (Sr (Wn 1 rfl (W.cl go280 rfl rfl (isNaN32_ok a w) ?_))))))
 rintro _ f ⟨rfl,h⟩
 refine Wn 1 rfl (Nx (Sr (Wn 1 rfl (W.cl go280 rfl rfl (isNaN32_ok b f) ?_))))
 rintro _ j ⟨rfl,i⟩
 have c:=((Le.refl w).trans h).trans i
 refine Wn 1 rfl (Nx (Sq (Sr (Wn 1 rfl (Nx (WC.condF rfl (Sn (Sq (Sr (Wn 1 rfl (Nx (WC.condF rfl (Sn (Sq (Sr (Wn 3 rfl (Nx ?_)))))))))))))))))
 by_cases d:((a:Nat):Int)<((b:Nat):Int)
 ·refine Cy rfl (dT d) (Sr (Wn 1 rfl (Nx (Rt (E.thenR (E.retG1 rfl rfl ?_))))))
  exact⟨by unfold cmpN;first|(rw[if_pos (by omega)])|(rw[if_neg (by omega),if_pos (by omega)])|(rw[if_neg (by omega),if_neg (by omega)]),c⟩
 refine Cn rfl (dF d) (Sn (Sq (Sr (Wn 3 rfl (Nx ?_)))))
 by_cases e:((b:Nat):Int)<((a:Nat):Int)
 ·refine Cy rfl (dT e) (Sr (Wn 1 rfl (Nx (Rt (E.thenR (E.retG1 rfl rfl ?_))))))
  exact⟨by unfold cmpN;first|(rw[if_pos (by omega)])|(rw[if_neg (by omega),if_pos (by omega)])|(rw[if_neg (by omega),if_neg (by omega)]),c⟩
 refine Cn rfl (dF e) (Sn (Sr (Wn 1 rfl (Nx (Rt (E.retG1 rfl rfl ?_))))))
 exact⟨by unfold cmpN;first|(rw[if_pos (by omega)])|(rw[if_neg (by omega),if_pos (by omega)])|(rw[if_neg (by omega),if_neg (by omega)]),c⟩

theorem isNaNi_ok (a:Int)(w:World):Calls prog 278 #[.int .i64 (a)] w fun r w'=>r= .returned (.bool false)/\Le w w':=by
 refine enter func278 rfl rfl (WC.sr (W.run 1 rfl (W.nx (WC.sr (W.run 4 rfl (W.nx (WC.ret (E.retG1 rfl rfl ?_))))))))
 exact⟨by simp,(Le.refl w)⟩

theorem comparei_ok (a b:Int)(w:World):Calls prog 212 #[.int .i64 (a),.int .i64 (b)] w fun r w'=>r= .returned (.int .i64 (cmpZ a b))/\Le w w':=by
 refine enter func212 rfl rfl (Sr (Wn 1 rfl (Nx (Sr (Wn 1 rfl (W.cl go278 rfl rfl (isNaNi_ok a w) ?_))))))
 rintro _ f ⟨rfl,h⟩
 refine Wn 1 rfl (Nx (Sr (Wn 1 rfl (W.cl go278 rfl rfl (isNaNi_ok b f) ?_))))
 rintro _ j ⟨rfl,i⟩
 have c:=((Le.refl w).trans h).trans i
 refine Wn 1 rfl (Nx (Sq (Sr (Wn 1 rfl (Nx (WC.condF rfl (Sn (Sq (Sr (Wn 1 rfl (Nx (WC.condF rfl (Sn (Sq (Sr (Wn 3 rfl (Nx ?_)))))))))))))))))
 by_cases d:a<b
 ·refine Cy rfl (dT d) (Sr (Wn 1 rfl (Nx (Rt (E.thenR (E.retG1 rfl rfl ?_))))))
  exact⟨by unfold cmpZ;first|(rw[if_pos (by omega)])|(rw[if_neg (by omega),if_pos (by omega)])|(rw[if_neg (by omega),if_neg (by omega)]),c⟩
 refine Cn rfl (dF d) (Sn (Sq (Sr (Wn 3 rfl (Nx ?_)))))
 by_cases e:b<a
 ·refine Cy rfl (dT e) (Sr (Wn 1 rfl (Nx (Rt (E.thenR (E.retG1 rfl rfl ?_))))))
  exact⟨by unfold cmpZ;first|(rw[if_pos (by omega)])|(rw[if_neg (by omega),if_pos (by omega)])|(rw[if_neg (by omega),if_neg (by omega)]),c⟩
 refine Cn rfl (dF e) (Sn (Sr (Wn 1 rfl (Nx (Rt (E.retG1 rfl rfl ?_))))))
 exact⟨by unfold cmpZ;first|(rw[if_pos (by omega)])|(rw[if_neg (by omega),if_pos (by omega)])|(rw[if_neg (by omega),if_neg (by omega)]),c⟩

theorem sub32_bv (x y b:BitVec 32)(w:World):Calls prog 314 #[u32v x,u32v y,u32v b] w fun r w'=>r= .returned (.tuple #[u32v (x-y-b),u32v (((~~~x&&&y)|||(~~~(x^^^y)&&&(x-y-b)))>>>31)])/\Le w w':=by
 refine enter func314 rfl rfl (Sr (Wn 2 rfl (Nx (Sr (Wn 2 rfl (Wa (.sub32 rfl rfl) rfl (Wn 1 rfl (Wa (.sub32 rfl rfl) rfl (Wn 1 rfl (Nx (Sr (Wn 1 rfl ?_))))))))))))
 refine Wa (.com32 rfl) rfl (Wn 1 rfl (Wa (.and32 rfl rfl) rfl (Wn 2 rfl (Wa (.xor32 rfl rfl) rfl (Wa (.com32 rfl) rfl ?_)))))
 refine Wn 1 rfl (Wa (.and32 rfl rfl) rfl (Wa (.or32 rfl rfl) rfl (Wa (.shr32 31 rfl rfl rfl (by decide)) rfl (Wn 1 rfl (Nx (Rt (E.retG2 rfl rfl rfl ?_)))))))
 exact⟨rfl,(Le.refl w)⟩

theorem sub32_ok (a c d:Nat)(ha:a<4294967296)(hc:c<4294967296)(hd:d<=1)(w:World):Calls prog 314 #[.int .u32 ((a:Nat):Int),.int .u32 ((c:Nat):Int),.int .u32 ((d:Nat):Int)] w fun r w'=>r= .returned (.tuple #[.int .u32 (((a+(B-c)+(B-d))%B:Nat):Int),.int .u32 (((if a<c+d then 1 else 0:Nat)):Int)])/\Le w w':=by
  have h:=sub32_bv (BitVec.ofNat 32 a) (BitVec.ofNat 32 c) (BitVec.ofNat 32 d) w
  rw[<-u32_of a ha,<-u32_of c hc,<-u32_of d (by omega)]at h
  have i:(BitVec.ofNat 32 a).toNat=a:=by rw[BitVec.toNat_ofNat,Nat.mod_eq_of_lt (by omega)]
  have j:(BitVec.ofNat 32 c).toNat=c:=by rw[BitVec.toNat_ofNat,Nat.mod_eq_of_lt (by omega)]
  have b:(BitVec.ofNat 32 d).toNat=d:=by rw[BitVec.toNat_ofNat,Nat.mod_eq_of_lt (by omega)]
  have e:=sub32_diff (BitVec.ofNat 32 a) (BitVec.ofNat 32 c) (BitVec.ofNat 32 d)
  have f:=sub32_borrow (BitVec.ofNat 32 a) (BitVec.ofNat 32 c) (BitVec.ofNat 32 d) (by rw[b];exact hd)
  rw[i,j,b]at e f
  unfold u32v at h
  rw[e,f]at h
  exact h

theorem ncmp_ok {A A2:Option Addr}{n c m c2 a b:Nat}(w:World)(hV:Vec w dv 1 A n (digs a))(hW:Vec w dv 1 A2 m (digs b))(hn:n<=1000000)(hm:m<=1000000):Calls prog 109 #[.slice A n c,.slice A2 m c2] w fun r w'=>r= .returned (.int .i64 (cmpN a b))/\Le w w':=by
 have hl:=hV.1
 have aj:=hW.1
 have hB:B=4294967296:=rfl
 refine enterM func109 rfl rfl ?_
 have Y:=Le.refl w
 refine Sr (W.ef rfl rfl rfl (Ef.box rfl fun H ak al (L:Blk ak H 59 #[.slice A2 m c2]) am=>?_))
 have I:=Y.trans am
 refine W.ef rfl rfl rfl (Ef.alloc z3 fun f an O (Z:Blk an f 3 #[.int .i64 (0)]) aa=>(Nx (Sq (WC.draw [0,2,1,3,4,5] mixed (by kernel_rfl) fun w1 J=>?_))))
 have L3:=(I.trans aa).trans J
 refine Gn 1 rfl ?_
 have f4:=(L.le (aa.trans J))
 refine Gd rfl (.loadB (v:= .slice A2 m c2) na59 rfl f4 rfl) (G.ef rfl rfl rfl rfl rfl (Ef.call go211 rfl rfl (ntaken_ok w1 (hV.le L3) (by omega)) ?_))
 rintro _ ao ⟨rfl,u⟩
 refine⟨_,rfl,?_⟩
 refine⟨fun _=>u,?_⟩
 have L5:=L3.trans u
 refine G.ef rfl rfl rfl rfl rfl (Ef.call go211 rfl rfl (ntaken_ok ao (hW.le L5) (by omega)) ?_)
 rintro _ aB ⟨rfl,z⟩
 refine⟨_,rfl,?_⟩
 refine⟨fun _=>z,?_⟩
 refine Gn 1 rfl (G.ef0 rfl rfl rfl rfl (Ef.store sz59 rfl rfl (f4.le (u.trans z)) (by first|decide|(simp;done)) (rfl) ?_))
 intro P C Q
 refine noT (by kernel_rfl) ?_
 have C:Blk P H 59 #[.slice A2 m c2]:=C
 have L8:=(L5.trans z).tb Q Y al
 refine G.nil (E.thenN (Sq (Sr (Wn 1 rfl (Wr (.len underlying59 rfl) rfl (Wr (.loadB (v:= .slice A2 m c2) na59 rfl C rfl) rfl (Wr (.len underlying59 rfl) rfl (Wn 1 rfl (Nx ?_)))))))))
 by_cases c0:((n:Nat):Int)≠((m:Nat):Int)
 ·refine Cy rfl (dT c0) (Sr (Wn 1 rfl (Wr (.len underlying59 rfl) rfl (Wr (.loadB (v:= .slice A2 m c2) na59 rfl C rfl) rfl (Wr (.len underlying59 rfl) rfl (W.cl go212 rfl rfl (comparei_ok ((n:Nat):Int) ((m:Nat):Int) P) ?_))))))
  rintro _ aC ⟨rfl,ab⟩
  have ap:=(((Z.le (J.trans (u.trans z))).cn Q (by have:=L.lt;omega)).le ab)
  refine W.ef0 rfl rfl (Ef.store sz3 rfl rfl ap (by first|decide|(simp;done)) (rfl) ?_)
  intro aq R ar
  have R:Blk aq f 3 #[.int .i64 ((cmpZ ((n:Nat):Int) ((m:Nat):Int)))]:=R
  refine Nx (Rt (E.thenR (E.retM1 rfl (resN rfl R na3 rfl) ?_)))
  exact⟨congrArg (fun v=>Ending.returned (Value.int .i64 v)) (by rw[<-hl,<-aj];exact cmp_len (by omega)),((L8.trans ab).tb ar I O)⟩
 refine Cn rfl (dF c0) ?_
 have hnm:n=m:=by omega
 refine Sn (Sq (Sr (Wn 1 rfl (W.cl go213 rfl rfl (backD_ok P) ?_))))
 rintro _ S ⟨au,rfl,aE,ac,T⟩
 have s:=L8.trans T
 refine Nx (WC.block ?_)
 have av:=(C.le T)
 have aw:=(((Z.le (J.trans (u.trans z))).cn Q (by have:=L.lt;omega)).le T)
 have hbq:=backD_seq (c:=c) (xs:=(digs a)) (by omega) S ac (hV.le s)
 refine WC.rangeX (α:=Fin n) (N:=n) rfl go279 rfl rfl hbq (fun A=>KpV.refl _ _ _ _ _ _ A) (fun h k=>h.trans k) (fun Wd q o o' hq h1 h2 _=>KpV.put trivial h1 h2) (fun(pre:List (Fin n)) Wd=>(∀y∈pre,(digs a).getD y.val 0=(digs b).getD y.val 0)/\Le w Wd/\S.heap.size<=Wd.heap.size/\Blk Wd au 59 #[.slice A n c]/\Blk Wd H 59 #[.slice A2 m c2]/\Blk Wd f 3 #[.int .i64 (0)]) (fun(pre:List (Fin n)) Wd=>∃i x,(pre=i++[x])/\(∀y∈i,(digs a).getD y.val 0=(digs b).getD y.val 0)/\(((digs a).getD x.val 0)≠((digs b).getD x.val 0))/\Le w Wd/\S.heap.size<=Wd.heap.size/\Blk Wd f 3 #[.int .i64 ((cmpN ((digs a).getD x.val 0) ((digs b).getD x.val 0)))]) (fun pre Wd W' row ⟨hpr,LI,zI,d,t,l⟩ hg hr=>⟨hpr,LI.then_ hg (fun q e=>Nat.le_trans s.size (hr q e).1),Nat.le_trans zI hg.size,d.grown hg (fun r e=>(hr r e).2),t.grown hg (fun r e=>(hr r e).2),l.grown hg (fun r e=>(hr r e).2)⟩) (fun pre Wd W' row ⟨i,x,hpe,hpr,hne,LI,zI,d⟩ hg hr=>⟨i,x,hpe,hpr,hne,LI.then_ hg (fun q e=>Nat.le_trans s.size (hr q e).1),Nat.le_trans zI hg.size,d.grown hg (fun r e=>(hr r e).2)⟩) ⟨fun y hy=>by simp at hy,s,Nat.le_refl _,ac,av,aw⟩ (fun x=>[(3,.pointer (some ⟨H,0,none⟩)),(4,.pointer (some ⟨f,0,none⟩)),(5,.int .i64 ((x.val:Nat):Int)),(6,.int .u32 ((((digs a).getD x.val 0:Nat)):Int))]) ?_ ?_ ?_ ?_
 ·intro lp x Wd
  refine RC.seq (RC.region rfl (fun⟨_,_,h⟩=>h) (Wn 1 rfl (W.nil (RC.thenN (RC.region rfl (fun⟨_,_,h⟩=>h) (Wn 1 rfl (W.nil ?_)))))))
  exact fun a' ha'=>⟨ha'.sub (.of rfl),rfl⟩
 ·rintro lp pre x Wd ⟨hpr,LI,zI,d,t,l⟩ hpre
  have hx:=x.2
  refine RC.block (RC.seq (RC.region rfl (fun⟨_,_,h⟩=>h) (Wn 1 rfl (Wr (.loadB (v:= .slice A2 m c2) na59 rfl t rfl) rfl (Wn 1 rfl ?_)))))
  refine Wa (.idxS (x.val) underlying59 sz273 rfl rfl (hW.isSome dv_row (by omega)) (rfl) (by omega)) rfl (Wr (.vone (v:= .int .u32 (((((digs b).getD x.val 0):Nat):Int))) na273 rfl (hW.le LI) dv_row (getS (digs b) 0 (by first|omega|(simp only[List.length_cons,List.length_nil];omega))) rfl) rfl ?_)
  refine Wn 1 rfl (W.nil (RC.thenN ?_))
  by_cases c1:((((digs a).getD x.val 0):Nat):Int)≠((((digs b).getD x.val 0):Nat):Int)
  ·refine RC.condY rfl (dT c1) (RC.seq (RC.region rfl (fun⟨_,_,h⟩=>h) (Wn 1 rfl (Wr (.loadB (v:= .slice A2 m c2) na59 rfl t rfl) rfl (Wn 1 rfl ?_)))))
   refine Wa (.idxS (x.val) underlying59 sz273 rfl rfl (hW.isSome dv_row (by omega)) (rfl) (by omega)) rfl (Wr (.vone (v:= .int .u32 (((((digs b).getD x.val 0):Nat):Int))) na273 rfl (hW.le LI) dv_row (getS (digs b) 0 (by first|omega|(simp only[List.length_cons,List.length_nil];omega))) rfl) rfl ?_)
   refine W.cl go214 rfl rfl (compare32_ok ((digs a).getD x.val 0) ((digs b).getD x.val 0) Wd) ?_
   rintro _ aF ⟨rfl,K⟩
   have ad:=(l.le K)
   refine W.ef0 rfl rfl (Ef.store sz3 rfl rfl ad (by first|decide|(simp;done)) (rfl) ?_)
   intro ax U V
   have U:Blk ax f 3 #[.int .i64 ((cmpN ((digs a).getD x.val 0) ((digs b).getD x.val 0)))]:=U
   refine W.nil (RC.thenN (RC.ret (E.blkR ?_)))
   exact fun a' _=>⟨((KeepsFrom.of_le K).trans (KeepsFrom.of_ch V ad)),rfl,⟨pre,x,rfl,hpr,by omega,((LI.trans K).tb V I O),by have:=zI;have:=K.size;have:=V.size;omega,U⟩⟩
  refine RC.condN rfl (dF c1) (RC.skip (E.blkN ?_))
  exact fun a' _=>⟨(KeepsFrom.refl _ _),⟨fun _=>d,fun _=>(hV.le LI)⟩,⟨fun y hy=>by rcases List.mem_append.1 hy with h|h;exact hpr y h;rw[List.mem_singleton.1 h];omega,LI,by have:=zI;omega,d,t,l⟩⟩
 ·rintro D pre Wd hD hS ⟨hpr,LI,zI,d,t,l⟩ hdef
  subst hS
  have hall:∀j,j<(digs a).length->(digs a).getD j 0=(digs b).getD j 0:=fun j hj=>hpr ⟨j,by omega⟩ (mem_finD.2 (by simp))
  refine DE.blkN (DE.thenN (DC.seq (DC.region (DW.ef0 rfl rfl (Ef.store sz3 rfl rfl l (by first|decide|(simp;done)) (rfl) ?_)))))
  intro ay X ae
  have X:Blk ay f 3 #[.int .i64 (0)]:=X
  refine DW.nil (DE.thenN (DC.ret ?_))
  have af:=(hdef.ch ae (l.ne_dob hdef))
  obtain⟨hgD,hrD⟩:=Dob.put af
  have az:=(LI.tb ae I O).then_ hgD (fun q e=>by cases e;exact Nat.le_trans s.size hD)
  refine DE.retM1 rfl af (resN rfl (X.grown hgD hrD) na3 rfl) ?_
  exact⟨congrArg (fun v=>Ending.returned (Value.int .i64 v)) (cmp_all (by omega) hall).symm,az⟩
 rintro D xs Wd hD hS ⟨i,x,hpe,hpr,hne,LI,zI,d⟩ hdef
 obtain⟨k,hk,hS⟩:=hS
 have hxx:=x.2
 have hlk:i.length+1=k:=by have F:=congrArg List.length (hpe.symm.trans hS);rw[finD_length]at F;simpa using F
 have ah:k-1+1<=n:=by omega
 have hfs:=finD_succ n (k-1) ah
 have ai:i=finD n (k-1) (by omega)/\x=⟨n-1-(k-1),by omega⟩:=by have F:=hpe.symm.trans hS;rw[show finD n k hk=finD n (k-1+1) ah by congr 1;omega,hfs]at F;have h8:=List.append_inj' F rfl;exact⟨h8.1,by simpa using h8.2⟩
 have hxv:x.val=n-k:=by rw[ai.2];simp only;omega
 refine DE.blkR (DE.thenR ?_)
 obtain⟨hgD,hrD⟩:=Dob.put hdef
 have aA:=LI.then_ hgD (fun q e=>by cases e;exact Nat.le_trans s.size hD)
 refine DE.retM1 rfl hdef (resN rfl (d.grown hgD hrD) na3 rfl) ?_
 exact⟨congrArg (fun v=>Ending.returned (Value.int .i64 v)) (cmp_digit (by omega) (by omega) (fun j h1 h2=>hpr ⟨j,by omega⟩ (by rw[ai.1];exact mem_finD.2 (by simp only;omega))) hne),aA⟩

theorem nup_ok {A:Option Addr}{n c a:Nat}(d:Nat)(w:World)(hV:Vec w dv 1 A n (digs a))(hd:d<4294967296)(hn:n<=100000):Calls prog 274 #[.slice A n c,.int .u32 (((d:Nat):Int))] w fun r w'=>∃A c,r= .returned (.slice A (digs (d+B*a)).length c)/\OVec w' w.heap.size 273 dv 1 A (digs (d+B*a)).length c (digs (d+B*a))/\Le w w':=by
 have hl:=hV.1
 have hB:B=4294967296:=rfl
 refine enter func274 rfl rfl ?_
 have e:=Le.refl w
 refine Sr (Wn 1 rfl (Nx (Sr (Wn 1 rfl (Wr (.len underlying59 rfl) rfl (Wa (.add rfl rfl (by omega)) rfl (W.ef rfl rfl rfl (Ef.vmake 0 (n+1) underlying59 el273 dv_row rfl rfl (by omega) rfl (by omega) (by omega) (by unfold maxLen;omega) ?_))))))))
 intro D F H b l
 have f:=e.trans l
 refine Wn 1 rfl (Nx (Sr (Wn 1 rfl ?_)))
 have I:=b.cap
 have m:=b.vec.cutL (n+1) 1 (by omega) (by omega) dv_row
 have J:=m.1
 refine Wa (.cutL (1) underlying59 sz273 rfl rfl (rfl) (by omega) (by omega)) rfl (Wn 1 rfl (W.ef rfl rfl rfl (Ef.vcopy (j:=1) (k:=n) underlying59 sz273 underlying59 rfl b dv_row rfl (hV.le f) (by omega) (by omega) fun K s t=>?_)))
 have i:=s.cast (m':=(n+1)) (ys:=(0::digs a)) (rfl) (by rw[List.replicate_succ];simp;omega)
 refine Nx (Sr (Wn 2 rfl (Wa (.idxS (0) underlying59 sz273 rfl rfl (b.vec.isSome dv_row (by omega)) (rfl) (by omega)) rfl (W.ef0 rfl rfl (Ef.vset (j:=0) (o:=0) d sz273 rfl (by omega) rfl i dv_row (getS (0::digs a) 0 (by simp)) (by decide) rfl rfl ?_)))))
 intro u v x
 have y:=v.cast (m':=(n+1)) (ys:=(d::digs a)) (rfl) (rfl)
 refine Nx (Sr (Wn 1 rfl (W.cl go210 rfl rfl ((by have h:=low_ok u y (fun q hq=>by rcases List.mem_cons.1 hq with rfl|h;omega;exact digs_lt a q h) (by omega);rw[(by simp only[val,val_digs]:val (d::digs a)=d+B*a)]at h;exact h)) ?_)))
 rintro _ L ⟨rfl,z,C⟩
 refine Wn 1 rfl (Nx (Rt (E.retG1 rfl rfl ?_)))
 exact⟨_,_,rfl,(z.mono e.size),(((f.then_ t (fun q hq=>Nat.le_trans e.size (b.row hq).1)).then_ x (fun q hq=>Nat.le_trans e.size (i.row hq).1)).trans C)⟩

theorem nclone_ok {A:Option Addr}{n c a:Nat}(w:World)(hV:Vec w dv 1 A n (digs a))(hn:n<=1000000):Calls prog 215 #[.slice A n c] w fun r w'=>∃A c,r= .returned (.slice A (digs a).length c)/\OVec w' w.heap.size 273 dv 1 A (digs a).length c (digs a)/\Le w w':=by
 have hl:=hV.1
 refine enter func215 rfl rfl ?_
 have b:=Le.refl w
 refine Sr (Wn 1 rfl (Nx (Sq (Sr (Wn 1 rfl (Wa (.isNil underlying59 rfl) rfl (Nx ?_)))))))
 by_cases d:A.isNone=true
 ·refine Cy rfl (d) (Sr (Wn 1 rfl (Nx (Rt (E.thenR (E.retG1 rfl rfl ?_))))))
  have hzn:n=0:=Classical.byContradiction (fun t=>by have e:=hV.isSome dv_row (by omega);have j:=(by simpa using(by assumption:A.isNone=true):A=none);rw[j]at e;cases e);have hzd:digs a=[]:=List.length_eq_zero_iff.1 (by omega);exact⟨none,0,by rw[hzd];rfl,by rw[hzd];exact OVec.nil _ _ _ _ _ _,b⟩
 refine Cn rfl ((Bool.eq_false_iff.2 d)) (Sn (Sr (W.ef rfl rfl rfl (Ef.buildSlice0 underlying59 el273 fun k l u v f=>?_))))
 have h:=b.trans f
 have i:OVec l w.heap.size 273 dv 1 (some ⟨k,0,none⟩) 0 0 []:=OVec.nil _ _ _ _ _ _
 refine Wn 1 rfl (W.ef rfl rfl rfl (Ef.vcat underlying59 el273 underlying59 dv_row rfl i rfl (hV.le h) (by omega) (by unfold maxLen;omega) (by have:=f.size;omega) ?_))
 intro x y z m o C
 have s:=h.then_ o (fun q hq=>Nat.le_trans b.size (i.row hq).1)
 refine Wn 1 rfl (Nx (Rt (E.retG1 rfl rfl ?_)))
 have hz:(0+n)=(digs a).length:=(by omega);have hq:=(m.mono b.size);exact⟨_,_,by rw[hz],hq.cast hz (by simp),s⟩

theorem nsub_ok {A A2:Option Addr}{n c m c2 a b:Nat}(w:World)(hV:Vec w dv 1 A n (digs a))(hW:Vec w dv 1 A2 m (digs b))(hle:b<=a)(hn:n<=1000000)(hm:m<=1000000):Calls prog 277 #[.slice A n c,.slice A2 m c2] w fun r w'=>∃A c,r= .returned (.tuple #[.slice A (digs (a-b)).length c,.bool true])/\OVec w' w.heap.size 273 dv 1 A (digs (a-b)).length c (digs (a-b))/\Le w w':=by
 have hl:=hV.1
 have af:=hW.1
 have hB:B=4294967296:=rfl
 have hmn:m<=n:=Nat.le_of_not_lt fun h=>by have:=digs_len_le (a:=a) (b:=b) (by omega);omega
 refine enter func277 rfl rfl ?_
 have H:=Le.refl w
 refine Sr (Wn 2 rfl (Nx (Sr (Wn 1 rfl (W.cl go211 rfl rfl (ntaken_ok w (hV.le H) (by omega)) ?_)))))
 rintro _ T ⟨rfl,I⟩
 have J:=H.trans I
 refine Wn 1 rfl (W.cl go211 rfl rfl (ntaken_ok T (hW.le J) (by omega)) ?_)
 rintro _ U ⟨rfl,K⟩
 have u:=J.trans K
 refine Wn 2 rfl (Nx (Sq (Sr (Wn 2 rfl (W.cl go109 rfl rfl (ncmp_ok U (hV.le u) (hW.le u) (by omega) (by omega)) ?_)))))
 rintro _ k ⟨rfl,L⟩
 have x:=u.trans L
 refine Wa (.dec (.lss rfl rfl) (dF (by unfold cmpN;rw[if_neg (by omega)];split<;>omega))) rfl ?_
 refine Nx (WC.condF rfl (Sn (Sr (Wn 1 rfl (Wr (.len underlying59 rfl) rfl (W.ef rfl rfl rfl (Ef.vmake 0 n underlying59 el273 dv_row rfl rfl (rfl) rfl (rfl) (by omega) (by unfold maxLen;omega) ?_)))))))
 intro l V ah N z
 have X:=x.trans z
 refine Wn 1 rfl (Nx (Sr (Wn 1 rfl (Nx (Sq (Sr (Wn 1 rfl (Wr (.len underlying59 rfl) rfl (Wn 1 rfl (Nx (WC.block ?_)))))))))))
 refine WC.loop (ι:=Nat×Nat×(List Nat)) (fun⟨i,br,out⟩=>[(0,.slice A n c),(1,.slice A2 m c2),(6,.slice (some ⟨l,0,none⟩) n n),(7,.int .u32 (((br:Nat):Int))),(22,.int .i64 (((n:Nat):Int))),(23,.int .i64 (((i:Nat):Int)))]) (fun⟨i,br,out⟩ e=>(i<=n)/\(br<=1)/\(out.length=n)/\(∀d∈out,d<B)/\(∀j,i<=j->out.getD j 0=0)/\(val out+val ((digs b).take i)=val ((digs a).take i)+B^i*br)/\Le w e/\V.heap.size<=e.heap.size/\OVec e k.heap.size 273 dv 1 (some ⟨l,0,none⟩) n n out) (fun⟨i,br,out⟩=>n-i) (0,0,(List.replicate n 0)) ?_ ?_ ?_
 ·exact .of rfl
 ·exact⟨Nat.zero_le _,by decide,List.length_replicate,rep_lt _,(fun j hj=>rep_get _ _),by rw[val_replicate];simp[val],X,Nat.le_refl _,N⟩
 rintro⟨i,br,out⟩ e ⟨hi,hbr,hol,hob,hoz,hov,s,Y,C⟩
 have Z:k.heap.size<=e.heap.size:=by have:=z.size;omega
 refine Sr (Wn 1 rfl (Nx (Sq ?_)))
 by_cases O:((i:Nat):Int)<((n:Nat):Int)
 ·refine Cy rfl (dT O) ?_
  have hx:=dig_lt a i
  have hy:=dig_lt b i
  refine Sn (Sq (WC.block (Sr (Wn 2 rfl (Nx (Sr (Wn 1 rfl (Nx (WC.cut (ι:=Nat) (fun y=>[(0,.slice A n c),(1,.slice A2 m c2),(6,.slice (some ⟨l,0,none⟩) n n),(7,.int .u32 (((br:Nat):Int))),(8,.int .i64 (((i:Nat):Int))),(9,.int .u32 (((y:Nat):Int))),(22,.int .i64 (((n:Nat):Int))),(23,.int .i64 (((i:Nat):Int)))]) (fun y f=>(y=((digs b).getD i 0))/\Le w f/\e.heap.size<=f.heap.size/\OVec f k.heap.size 273 dv 1 (some ⟨l,0,none⟩) n n out) ?_ ?_)))))))))
  ·refine Sr (Wn 2 rfl (Wr (.len underlying59 rfl) rfl (Wn 1 rfl (Nx ?_))))
   by_cases c2:((i:Nat):Int)<((m:Nat):Int)
   ·refine Cy rfl (dT c2) (WC.region (Wn 2 rfl (Wa (.idxS (i) underlying59 sz273 rfl rfl (hW.isSome dv_row (by omega)) (rfl) (by omega)) rfl (Wr (.vone (v:= .int .u32 (((((digs b).getD i 0):Nat):Int))) na273 rfl (hW.le s) dv_row (getS (digs b) 0 (by first|omega|(simp only[List.length_cons,List.length_nil];omega))) rfl) rfl ?_))))
    refine Wn 1 rfl (W.nil (E.meet ((digs b).getD i 0) (.of rfl) ?_))
    exact⟨rfl,s,Nat.le_refl _,C⟩
   refine Cn rfl (dF c2) (WC.skip (E.meet 0 (.of rfl) ?_))
   exact⟨(getD_none (by omega)).symm,s,Nat.le_refl _,C⟩
  rintro y f ⟨hyv,P,Q,aa⟩
  have ai:k.heap.size<=f.heap.size:=by have:=Z;have:=Q;omega
  have hstep:=sub_step (out:=out) (a:=[]) (b:=[]) (y:=y) (i:=i) (by omega) (hoz i (Nat.le_refl _)) hov hx (by omega) hbr
  rw[hyv,<-val_take_succ (show i<(digs a).length by omega),show val ((digs b).take i)+B^i*((digs b).getD i 0)=val ((digs b).take (i+1))from by rcases Nat.lt_or_ge i (digs b).length with t|t;exact(val_take_succ t).symm;rw[getD_none t,Nat.mul_zero,Nat.add_zero,List.take_of_length_le t,List.take_of_length_le (by omega)]]at hstep
  rw[<-hyv]at hstep
  refine WC.region (Wn 4 rfl (Wa (.idxS (i) underlying59 sz273 rfl rfl (hV.isSome dv_row (by omega)) (rfl) (by omega)) rfl (Wr (.vone (v:= .int .u32 (((((digs a).getD i 0):Nat):Int))) na273 rfl (hV.le P) dv_row (getS (digs a) 0 (by first|omega|(simp only[List.length_cons,List.length_nil];omega))) rfl) rfl ?_)))
  refine Wn 2 rfl (W.cl go314 rfl rfl (sub32_ok ((digs a).getD i 0) y br (by omega) (by omega) (by omega) f) ?_)
  rintro _ aj ⟨rfl,D⟩
  refine Wn 3 rfl (Wa (.idxS (i) underlying59 sz273 rfl rfl (N.vec.isSome dv_row (by omega)) (rfl) (by omega)) rfl ?_)
  have R:=(aa.le D)
  refine W.ef0 rfl rfl (Ef.vset (j:=i) (o:=0) ((((digs a).getD i 0)+(B-y)+(B-br))%B) sz273 rfl (by omega) rfl R dv_row (getS out 0 (by omega)) (by decide) rfl rfl fun ak ab S=>(Wn 1 rfl (W.nil (E.blkN (E.thenN (WC.region (Wa (.add rfl rfl (by omega)) rfl (Wn 1 rfl (W.nil (E.again (i+1,(if((digs a).getD i 0)<y+br then 1 else 0),(out.set i ((((digs a).getD i 0)+(B-y)+(B-br))%B))) (.of rfl) ?_ ?_))))))))))
  ·exact⟨by omega,by split<;>decide,by simp[hol],set_lt hob (Nat.mod_lt _ (by decide)),(fun j hj=>by rw[List.getD_eq_getElem?_getD,List.getElem?_set_ne (by omega),<-List.getD_eq_getElem?_getD];exact hoz j (by omega)),hstep,((P.trans D).then_ S (fun q hq=>Nat.le_trans x.size (R.row hq).1)),by have:=Y;have:=D.size;have:=S.size;have:=Q;have:=I.size;have:=K.size;have:=L.size;have:=z.size;omega,ab⟩
  first|omega|(simp only[];omega)
 refine Cn rfl (dF O) ?_
 have F:=hov
 rw[show i=n by omega,List.take_of_length_le (by omega),List.take_of_length_le (by omega),val_digs,val_digs]at F
 have hvl:=val_lt hob
 have ac:br=0:=by rw[hol]at hvl;rcases(show br=0\/br=1 by omega)with h|h;exact h;rw[h,Nat.mul_one]at F;omega
 refine WC.exit (E.thenX (E.thenX (E.blkH (E.thenN (Sr (Wn 1 rfl (W.cl go210 rfl rfl ((by have h:=low_ok e C hob (by omega);rw[(by rw[ac]at F;omega:val out=a-b)]at h;exact h)) ?_)))))))
 rintro _ al ⟨rfl,ad,ae⟩
 refine Wn 2 rfl (Nx (Rt (E.retG2 rfl rfl rfl ?_)))
 exact⟨_,_,rfl,(ad.mono x.size),(s.trans ae)⟩
end Go.Proofs.YtocheaahlpiajaaGreatDoor

namespace Go.Proofs.YtocheaahlpiajaaGreatDoor
open Tryz
open Go Go.Sx Go.Nsp
set_option maxRecDepth 20000
def dmS (l:List Nat)(b:Nat){n:Nat}(st:Nat×List Nat)(x:Fin n):Nat×List Nat:=
  ((l.getD x.val 0+B*st.1)%b,if l.getD x.val 0+B*st.1<b then st.2 else st.2.set x.val ((l.getD x.val 0+B*st.1)/b))
def dmF (l:List Nat)(b n:Nat)(pre:List (Fin n)):Nat×List Nat:=pre.foldl (dmS l b) (0,List.replicate n 0)
def dmR (l:List Nat)(b n:Nat)(pre:List (Fin n)):Nat:=(dmF l b n pre).1
def dmQ (l:List Nat)(b n:Nat)(pre:List (Fin n)):List Nat:=(dmF l b n pre).2
theorem dmF_snoc (l:List Nat)(b n:Nat)(pre:List (Fin n))(x:Fin n):dmF l b n (pre++[x])=dmS l b (dmF l b n pre) x:=by unfold dmF;rw[List.foldl_append];rfl
theorem dmR_nil (l:List Nat)(b n:Nat):dmR l b n []=0:=rfl
theorem dmR_next (l:List Nat)(b n:Nat)(pre:List (Fin n))(x:Fin n):dmR l b n (pre++[x])=(l.getD x.val 0+B*dmR l b n pre)%b:=by unfold dmR;rw[dmF_snoc];rfl
theorem dmQ_less {l:List Nat}{b n:Nat}{pre:List (Fin n)}{x:Fin n}(h:l.getD x.val 0+B*dmR l b n pre<b):dmQ l b n (pre++[x])=dmQ l b n pre:=by
  unfold dmQ
  rw[dmF_snoc]
  exact if_pos h
theorem dmQ_more {l:List Nat}{b n:Nat}{pre:List (Fin n)}{x:Fin n}(h:¬l.getD x.val 0+B*dmR l b n pre<b):dmQ l b n (pre++[x])=(dmQ l b n pre).set x.val ((l.getD x.val 0+B*dmR l b n pre)/b):=by
  unfold dmQ
  rw[dmF_snoc]
  exact if_neg h
theorem dmQ_len (l:List Nat)(b n:Nat)(pre:List (Fin n)):(dmQ l b n pre).length=n:=by
  have key:∀(p:List (Fin n)) (st:Nat×List Nat),st.2.length=n->(p.foldl (dmS l b) st).2.length=n:=by
    intro p
    induction p with
    |nil=>exact fun st h=>h
    |cons x p ih=>
      intro st h
      refine ih _ ?_
      unfold dmS
      simp only
      split
      · exact h
      · rw[List.length_set];exact h
  exact key pre _ List.length_replicate
theorem dmR_lt {l:List Nat}{b n:Nat}(hb:0<b)(pre:List (Fin n)):dmR l b n pre<b:=by
  rcases List.eq_nil_or_concat pre with rfl|⟨p,x,rfl⟩
  · exact hb
  · rw[List.concat_eq_append,dmR_next];exact Nat.mod_lt _ hb
theorem dm_room {d r b:Nat}(hd:d<B)(hr:r<b):(d+B*r)/b<B:=by
  rw[Nat.div_lt_iff_lt_mul (by omega)]
  have:=Nat.mul_le_mul_left B (show r+1<=b from hr)
  rw[Nat.mul_add]at this
  omega
structure DmI (l:List Nat)(b n k:Nat)(r:Nat)(q:List Nat):Prop where
  len:q.length=n
  lt:∀d∈q,d<B
  zero:∀j,j<n-k->q.getD j 0=0
  eq:val (l.drop (n-k))=b*val (q.drop (n-k))+r
  rem:r<b
theorem dm_all {l:List Nat}{b n:Nat}(hb:0<b)(hl:l.length=n)(hlt:∀d∈l,d<B):∀(k:Nat) (h:k<=n),DmI l b n k (dmR l b n (finD n k h)) (dmQ l b n (finD n k h))
  |0,h=>⟨List.length_replicate,rep_lt _,fun j _=>rep_get _ _,by
      have e1:l.drop (n-0)=[]:=List.drop_eq_nil_of_le (by omega)
      have e2:(dmQ l b n (finD n 0 h)).drop (n-0)=[]:=List.drop_eq_nil_of_le (by unfold dmQ dmF finD;simp)
      rw[e1,e2];rfl,hb⟩
  |k+1,h=>by
    obtain⟨i1,i2,i3,i4,i5⟩:=dm_all hb hl hlt k (by omega)
    have hx:n-1-k<n:=by omega
    rw[finD_succ n k h]
    generalize hp:finD n k (by omega)=pre at*
    generalize hr:dmR l b n pre=r at*
    have hd:l.getD (n-1-k) 0<B:=getD_lt hlt _
    have hroom:=dm_room hd i5
    have hnext:=dmR_next l b n pre ⟨n-1-k,hx⟩
    rw[hr]at hnext
    simp only at hnext
    have hk:n-(k+1)=n-1-k:=by omega
    have hdl:=val_drop (l:=l) (k:=n-1-k) (by omega)
    rw[show n-1-k+1=n-k by omega]at hdl
    have key:∀q':List Nat,q'.length=n->q'.getD (n-1-k) 0=(l.getD (n-1-k) 0+B*r)/b->(∀j,n-1-k<j->q'.getD j 0=(dmQ l b n pre).getD j 0)->val (l.drop (n-(k+1)))=b*val (q'.drop (n-(k+1)))+(l.getD (n-1-k) 0+B*r)%b:=by
      intro q' f c e
      have hdq:=val_drop (l:=q') (k:=n-1-k) (by omega)
      rw[show n-1-k+1=n-k by omega]at hdq
      have hsame:q'.drop (n-k)=(dmQ l b n pre).drop (n-k):=drop_same (by omega) (fun j i _=>e j (by omega))
      rw[hk,hdl,hdq,c,hsame,i4]
      have hdm:=Nat.div_add_mod (l.getD (n-1-k) 0+B*r) b
      rw[Nat.mul_add,Nat.mul_add,Nat.mul_left_comm b B]
      omega
    rw[hnext]
    by_cases hless:l.getD (n-1-k) 0+B*r<b
    · rw[dmQ_less (x:=⟨n-1-k,hx⟩) (by rw[hr];exact hless)]
      refine⟨i1,i2,fun j hj=>i3 j (by omega),?_,Nat.mod_lt _ hb⟩
      exact key _ i1 (by rw[i3 _ (by omega),Nat.div_eq_of_lt hless]) (fun j _=>rfl)
    · have hm:=dmQ_more (x:=⟨n-1-k,hx⟩) (by rw[hr];exact hless:¬l.getD (⟨n-1-k,hx⟩:Fin n).val 0+B*dmR l b n pre<b)
      rw[hr]at hm
      simp only at hm
      rw[hm]
      refine⟨by simp[i1],set_lt i2 hroom,fun j hj=>?_,?_,Nat.mod_lt _ hb⟩
      · rw[List.getD_eq_getElem?_getD,List.getElem?_set_ne (by omega),<-List.getD_eq_getElem?_getD]
        exact i3 j (by omega)
      · refine key _ (by simp[i1]) ?_ (fun j hj=>?_)
        · rw[List.getD_eq_getElem?_getD,List.getElem?_set_self (by omega)]
          rfl
        · rw[List.getD_eq_getElem?_getD,List.getElem?_set_ne (by omega),<-List.getD_eq_getElem?_getD]
theorem dm_end {a b n:Nat}(hb:0<b)(hl:(digs a).length=n):dmR (digs a) b n (finD n n (Nat.le_refl n))=a%b/\val (dmQ (digs a) b n (finD n n (Nat.le_refl n)))=a/b/\(dmQ (digs a) b n (finD n n (Nat.le_refl n))).length=n/\∀d∈dmQ (digs a) b n (finD n n (Nat.le_refl n)),d<B:=by
  obtain⟨i1,i2,i3,i4,i5⟩:=dm_all hb hl (digs_lt a) n (Nat.le_refl n)
  rw[Nat.sub_self,List.drop_zero,List.drop_zero,val_digs]at i4
  obtain⟨c,e⟩:=div_mod i4 i5
  exact⟨e.symm,c.symm,i1,i2⟩
def intV {n:Nat}(a:Nat)(pre:List (Fin n)):Nat:=if pre=[]then 0 else a
theorem intV_snoc {n:Nat}(a:Nat)(pre:List (Fin n))(x:Fin n):intV a (pre++[x])=a:=by unfold intV;rw[if_neg (by simp)]
theorem intV_dig {a n i:Nat}(ha:a<4294967296)(hl:(digs a).length=n)(hi:i<n):(digs a).getD i 0=a:=by
  by_cases h:a=0
  · rw[h,digs_zero]at hl;simp at hl;omega
  · have e:digs a=[a]:=by rw[digs_pos h,Nat.mod_eq_of_lt (show a<B from ha),Nat.div_eq_of_lt (show a<B from ha),digs_zero]
    rw[e]at hl ⊢
    simp at hl
    have:i=0:=by omega
    subst this
    rfl
theorem intV_all {a n:Nat}(hl:(digs a).length=n):intV a (finD n n (Nat.le_refl n))=a:=by
  unfold intV
  split
  · rename_i h
    have:=congrArg List.length h
    rw[finD_length]at this
    simp at this
    subst this
    have b:digs a=[]:=List.length_eq_zero_iff.1 hl
    rw[<-val_digs a,b]
    rfl
  · rfl
theorem greatest_div {V b D:Nat}(hb:0<b)(h1:b*D<=V)(hV:V/b<B)(h2:D+1=B\/¬b*(D+1)<=V):D=V/b:=by
  have c:D<=V/b:=(Nat.le_div_iff_mul_le hb).2 (by rw[Nat.mul_comm];exact h1)
  rcases h2 with h2|h2
  · omega
  · have d:V/b<D+1:=(Nat.div_lt_iff_lt_mul hb).2 (by rw[Nat.mul_comm];omega)
    omega
theorem digs_one {d:Nat}(h0:0<d)(h:d<B):[d]=digs d:=by
  rw[digs_pos (by omega),Nat.mod_eq_of_lt h,Nat.div_eq_of_lt h,digs_zero]
theorem cmpN_le {a b:Nat}:cmpN a b<=0↔a<=b:=by unfold cmpN;split<;>(try split)<;>omega
theorem cmpN_lt {a b:Nat}:cmpN a b<0↔a<b:=by unfold cmpN;split<;>(try split)<;>omega
theorem digs_len_mono {a b:Nat}(h:a<=b):(digs a).length<=(digs b).length:=Nat.le_of_not_lt fun c=>by have:=digs_len_le c;omega
theorem digs_len_up {d r:Nat}(hd:d<B):(digs (d+B*r)).length<=(digs r).length+1:=by
  by_cases h:r=0/\d=0
  · rw[h.1,h.2];simp[digs_zero]
  · rw[<-digs_up hd h];exact Nat.le_refl _
theorem digs_len_pow:∀(k:Nat) {a:Nat},a<B^k->(digs a).length<=k
  |0,a,h=>by
    have:a=0:=by simpa using h
    rw[this,digs_zero]
    exact Nat.le_refl _
  |k+1,a,h=>by
    by_cases b:a=0
    · rw[b,digs_zero];exact Nat.zero_le _
    · rw[digs_pos b,List.length_cons]
      have:=digs_len_pow k (a:=a/B) ((Nat.div_lt_iff_lt_mul B_pos).2 (by rw[<-Nat.pow_succ];exact h))
      omega
theorem digs_mul_len (a b:Nat):(digs (a*b)).length<=(digs a).length+(digs b).length:=by
  have c:=val_lt (digs_lt a)
  have d:=val_lt (digs_lt b)
  rw[val_digs]at c d
  refine digs_len_pow _ ?_
  rw[Nat.pow_add]
  exact Nat.mul_lt_mul'' c d
theorem digs_len_one {d:Nat}(h:d<B):(digs d).length<=1:=by
  have:=digs_len_up (r:=0) h
  rw[Nat.mul_zero,Nat.add_zero,digs_zero]at this
  exact this
theorem dm1_ok {g1 g2 m c2 k c3 b V:Nat}{A2 A3:Option Addr}(d:Nat)(w:World)(hb1:Blk w g1 59 #[.slice A2 m c2])(hb2:Blk w g2 59 #[.slice A3 k c3])(hW:Vec w dv 1 A2 m (digs b))(hR:Vec w dv 1 A3 k (digs V))(hd0:0<d)(hd:d<4294967296)(hm:m<=100000)(hk:k<=200000):Calls prog 276 #[.int .u32 (((d:Nat):Int)),.pointer (some ⟨g1,0,none⟩),.pointer (some ⟨g2,0,none⟩)] w fun r w'=>r= .returned (.bool (decide (b*d<=V)))/\Le w w':=by
 have C:=hW.1
 have D:=hR.1
 have hB:B=4294967296:=rfl
 have F:=digs_len_one (d:=d) (by omega)
 have hml:=digs_mul_len b d
 refine enter func276 rfl rfl (WC.sr (W.run 1 rfl (W.nx (WC.seq (WC.draw [0,1,4,2,3,5,6,7] mixed (by kernel_rfl) fun s t=>?_)))))
 have c:=(Le.refl w).trans t
 refine Gd rfl (.loadB (v:= .slice A2 m c2) na59 rfl (hb1.le c) rfl) (G.run 1 rfl (Gd rfl (.loadB (v:= .slice A3 k c3) na59 rfl (hb2.le c) rfl) (G.ef rfl rfl rfl rfl rfl (Ef.buildSliceV (len:=1) [_] underlying59 el273 rfl (by simp[Value.cells]) rfl (by decide) (by decide) ?_))))
 intro h e u f i
 refine⟨fun _=>i,?_⟩
 have j:=c.trans i
 have f:Blk e h 273 (([d]).map dv).flatten.toArray:=f
 have x:OVec e s.heap.size 273 dv 1 (some ⟨h,0,none⟩) 1 1 ([d]):=f.ovec u dv_row rfl rfl (by decide)
 have y:=x.cast (m':=1) (ys:=(digs d)) (rfl) (digs_one hd0 (by omega))
 refine G.ef rfl rfl rfl rfl rfl (Ef.call go182 rfl rfl (nmul_ok e (hW.le j) y.vec (by omega) (by omega)) ?_)
 rintro _ z ⟨H,I,rfl,A,l⟩
 refine⟨_,rfl,?_⟩
 refine⟨fun _=>l,?_⟩
 have n:=j.trans l
 refine G.ef rfl rfl rfl rfl rfl (Ef.call go109 rfl rfl (ncmp_ok z A.vec (hR.le n) (by omega) (by omega)) ?_)
 rintro _ J ⟨rfl,o⟩
 refine⟨_,rfl,?_⟩
 refine⟨fun _=>o,?_⟩
 refine G.run 2 rfl (G.nil (E.thenN (WC.ret (E.retG1 rfl rfl ?_))))
 exact⟨rB (decide_eq_decide.2 cmpN_le),(n.trans o)⟩

theorem ndivmod_ok {A A2:Option Addr}{n c m c2 a b:Nat}(w:World)(hV:Vec w dv 1 A n (digs a))(hW:Vec w dv 1 A2 m (digs b))(hb0:0<b)(hn:n<=100000)(hm:m<=90000):Calls prog 209 #[.slice A n c,.slice A2 m c2] w fun r w'=>∃Aq cq Ar cr,r= .returned (.tuple #[.slice Aq (digs (a/b)).length cq,.slice Ar (digs (a%b)).length cr,.bool true])/\OVec w' w.heap.size 273 dv 1 Aq (digs (a/b)).length cq (digs (a/b))/\OVec w' w.heap.size 273 dv 1 Ar (digs (a%b)).length cr (digs (a%b))/\Le w w':=by
 have hl:=hV.1
 have a1:=hW.1
 have hB:B=4294967296:=rfl
 have bI:0<m:=by rw[<-a1,digs_pos (by omega)];simp
 refine enterM func209 rfl rfl ?_
 have L0:=Le.refl w
 refine Sr (W.ef rfl rfl rfl (Ef.box rfl fun ac a2 a3 (a4:Blk a2 ac 59 #[.slice A2 m c2]) a5=>(Wn 3 rfl (Nx (Sq (WC.draw [0,2,1,3,4,5] mixed (by kernel_rfl) fun w1 d1=>?_))))))
 have L2:=(L0.trans a5).trans d1
 refine Gn 1 rfl ?_
 have F:=(a4.le d1)
 refine Gd rfl (.loadB (v:= .slice A2 m c2) na59 rfl F rfl) (G.ef rfl rfl rfl rfl rfl (Ef.call go211 rfl rfl (ntaken_ok w1 (hV.le L2) (by omega)) ?_))
 rintro _ a6 ⟨rfl,an⟩
 refine⟨_,rfl,?_⟩
 refine⟨fun _=>an,?_⟩
 have L4:=L2.trans an
 refine G.ef rfl rfl rfl rfl rfl (Ef.call go211 rfl rfl (ntaken_ok a6 (hW.le L4) (by omega)) ?_)
 rintro _ bJ ⟨rfl,ao⟩
 refine⟨_,rfl,?_⟩
 refine⟨fun _=>ao,?_⟩
 refine Gn 1 rfl (G.ef0 rfl rfl rfl rfl (Ef.store sz59 rfl rfl (F.le (an.trans ao)) (by first|decide|(simp;done)) (rfl) ?_))
 intro ad O a7
 refine noT (by kernel_rfl) ?_
 have O:Blk ad ac 59 #[.slice A2 m c2]:=O
 have L7:=(L4.trans ao).tb a7 L0 a3
 refine G.nil (E.thenN (Sq (Sr (Wr (.loadB (v:= .slice A2 m c2) na59 rfl O rfl) rfl (Wr (.len underlying59 rfl) rfl (Wa (.dec (.eql rfl rfl) (dF (by omega))) rfl (Nx (WC.condF rfl (Sn (Sr (Wn 1 rfl (Wr (.len underlying59 rfl) rfl ?_))))))))))))
 refine W.ef rfl rfl rfl (Ef.vmake 0 n underlying59 el273 dv_row rfl rfl (rfl) rfl (rfl) (by omega) (by unfold maxLen;omega) ?_)
 intro V bK bL H Q
 have L8:=L7.trans Q
 refine W.ef rfl rfl rfl (Ef.alloc z59 fun ae a8 a9 (ba:Blk a8 ae 59 #[.slice none 0 0]) t=>(W.ef0 rfl rfl (Ef.store sz59 rfl rfl ba (by first|decide|(simp;done)) (rfl) ?_)))
 intro bb X u
 have X:Blk bb ae 59 #[.slice (some ⟨V,0,none⟩) n n]:=X
 have ap:=(L8.trans t).tb u L8 a9
 refine Nx (Sr (W.ef rfl rfl rfl (Ef.alloc z59 fun aa aB aC (af:Blk aB aa 59 #[.slice none 0 0]) R=>(Nx (Sq (Sr (Wn 1 rfl (W.cl go213 rfl rfl (backD_ok aB) ?_))))))))
 rintro _ S ⟨bc,rfl,bM,aE,T⟩
 have ah:=(ap.trans R).trans T
 refine Nx (WC.block ?_)
 have bd:=(((H.le t).cb u (H.rn (by omega))).le (R.trans T))
 have be:=(af.le T)
 have bf:=(((O.le (Q.trans t)).cn u (by have:=O.lt;have:=Q.size;omega)).le (R.trans T))
 have bg:=(X.le (R.trans T))
 have hbq:=backD_seq (c:=c) (xs:=(digs a)) (by omega) S aE (hV.le ah)
 refine WC.rangeX (α:=Fin n) (N:=n) rfl go279 rfl rfl hbq (fun A=>KpV.refl _ _ _ _ _ _ A) (fun h k=>h.trans k) (fun Wd q o o' hq h1 h2 _=>KpV.put trivial h1 h2) (fun(pre:List (Fin n)) Wd=>∃Ar cr,Le w Wd/\S.heap.size<=Wd.heap.size/\Blk Wd bc 59 #[.slice A n c]/\Blk Wd ac 59 #[.slice A2 m c2]/\Blk Wd ae 59 #[.slice (some ⟨V,0,none⟩) n n]/\OVec Wd ad.heap.size 273 dv 1 (some ⟨V,0,none⟩) n n (dmQ (digs a) b n pre)/\Blk Wd aa 59 #[.slice Ar ((digs (dmR (digs a) b n pre)).length) cr]/\OVec Wd S.heap.size 273 dv 1 Ar ((digs (dmR (digs a) b n pre)).length) cr (digs (dmR (digs a) b n pre))) (fun _ _=>False) (fun pre Wd W' row ⟨Ar,cr,LI,zI,f0,f1,Y,F,U,f5⟩ hg hr=>⟨Ar,cr,LI.then_ hg (fun q e=>Nat.le_trans ah.size (hr q e).1),Nat.le_trans zI hg.size,f0.grown hg (fun r e=>(hr r e).2),f1.grown hg (fun r e=>(hr r e).2),Y.grown hg (fun r e=>(hr r e).2),F.grown hg (fun r e=>(hr r e).2),U.grown hg (fun r e=>(hr r e).2),f5.grown hg (fun r e=>(hr r e).2)⟩) (fun _ _ _ _ hf _ _=>hf) ⟨none,0,ah,Nat.le_refl _,aE,bf,bg,bd,(Blk.cast be (by rw[dmR_nil,digs_zero];rfl)),(OVec.cast (OVec.nil S S.heap.size 273 dv 1 none) (by rw[dmR_nil,digs_zero];rfl) (by rw[dmR_nil,digs_zero]))⟩ (fun x=>[(3,.pointer (some ⟨ac,0,none⟩)),(7,.pointer (some ⟨ae,0,none⟩)),(8,.pointer (some ⟨aa,0,none⟩)),(9,.int .i64 ((x.val:Nat):Int)),(10,.int .u32 ((((digs a).getD x.val 0:Nat)):Int))]) ?_ ?_ ?_ ?_
 ·intro lp x Wd
  refine RC.seq (RC.region rfl (fun⟨_,_,h⟩=>h) (Wn 1 rfl (W.nil (RC.thenN (RC.region rfl (fun⟨_,_,h⟩=>h) (Wn 1 rfl (W.nil ?_)))))))
  exact fun a' ha'=>⟨ha'.sub (.of rfl),rfl⟩
 ·rintro lp pre x Wd ⟨Ar,cr,LI,zI,f0,f1,Y,F,U,f5⟩ hpre
  have bN:ad.heap.size<=Wd.heap.size:=by have:=Q.size;have:=t.size;have:=u.size;have:=R.size;have:=T.size;omega
  have bO:S.heap.size<=Wd.heap.size:=by omega
  have hx:=x.2
  have hql:=dmQ_len (digs a) b n pre
  have hrl:=dmR_lt (l:=digs a) hb0 pre
  have hdx:=dig_lt a x.val
  have hroom:=dm_room hdx hrl
  have hrm:=digs_len_mono (Nat.le_of_lt hrl)
  have hul:=digs_len_up (d:=((digs a).getD x.val 0)) (r:=(dmR (digs a) b n pre)) hdx
  refine RC.block (RC.seq (RC.region rfl (fun⟨_,_,h⟩=>h) (Wr (.loadB (v:= .slice Ar ((digs (dmR (digs a) b n pre)).length) cr) na59 rfl U rfl) rfl (Wn 1 rfl (W.cl go274 rfl rfl (nup_ok ((digs a).getD x.val 0) Wd f5.vec (hdx) (by omega)) ?_)))))
  rintro _ bP ⟨ai,aj,rfl,aF,i⟩
  have aq:=(U.le i)
  refine W.ef0 rfl rfl (Ef.store sz59 rfl rfl aq (by first|decide|(simp;done)) (rfl) ?_)
  intro aG ab s
  have ab:Blk aG aa 59 #[.slice ai ((digs (((digs a).getD x.val 0)+B*(dmR (digs a) b n pre))).length) aj]:=ab
  have aH:=(LI.trans i).tb s ap aC
  refine W.nil (RC.thenN (RC.seq (RC.seq (RC.region rfl (fun⟨_,_,h⟩=>h) (Wr (.loadB (v:= .slice ai ((digs (((digs a).getD x.val 0)+B*(dmR (digs a) b n pre))).length) aj) na59 rfl ab rfl) rfl ?_)))))
  have ar:=((f1.le i).cn s (by have:=O.lt;have:=Q.size;have:=t.size;have:=u.size;omega))
  refine Wr (.loadB (v:= .slice A2 m c2) na59 rfl ar rfl) rfl ?_
  have au:=(aF.cb s (aF.rl (by have:=U.lt;omega)))
  refine W.cl go109 rfl rfl (ncmp_ok aG au.vec (hW.le aH) (by omega) (by omega)) ?_
  rintro _ bQ ⟨rfl,f⟩
  have av:=aH.trans f
  refine Wn 1 rfl (W.nil (RC.thenN ?_))
  by_cases c1:(cmpN (((digs a).getD x.val 0)+B*(dmR (digs a) b n pre)) b)<0
  ·refine RC.condY rfl (dT c1) ?_
   have hlt:(((digs a).getD x.val 0)+B*(dmR (digs a) b n pre))<b:=cmpN_lt.1 c1
   refine RC.exit (E.thenX (E.blkH ?_))
   have aI:=(((f0.le i).cn s (by have:=af.lt;omega)).le f)
   have bh:=(((Y.le i).cn s (by have:=X.lt;omega)).le f)
   have bi:=(((F.le i).cb s (H.rn (by have:=t.size;have:=u.size;omega))).le f)
   exact fun a' _=>⟨((KeepsFrom.of_le i).trans ((KeepsFrom.of_ch s aq).trans (KeepsFrom.of_le f))),⟨fun _=>aI,fun _=>(hV.le av)⟩,⟨ai,aj,av,by have:=zI;have:=i.size;have:=s.size;have:=f.size;omega,aI,(ar.le f),bh,(bi.cast rfl (dmQ_less hlt).symm),((ab.le f).cast (by rw[dmR_next,Nat.mod_eq_of_lt hlt])),(((au.le f).mono (by omega)).cast (by rw[dmR_next,Nat.mod_eq_of_lt hlt]) (by rw[dmR_next,Nat.mod_eq_of_lt hlt]))⟩⟩
  refine RC.condN rfl (dF c1) ?_
  have hlt:¬(((digs a).getD x.val 0)+B*(dmR (digs a) b n pre))<b:=fun h=>c1 (cmpN_lt.2 h)
  have hqp:0<(((digs a).getD x.val 0)+B*(dmR (digs a) b n pre))/b:=Nat.div_pos (by omega) hb0
  have bR:=digs_len_one hroom
  have hmd:=Nat.mul_div_le (((digs a).getD x.val 0)+B*(dmR (digs a) b n pre)) b
  have hml:=digs_len_mono hmd
  refine RC.skip (RC.thenN (RC.seq (RC.draw [0,1,2,3,4,5] mixed (by kernel_rfl) rfl fun bj I=>?_)))
  have aJ:=av.trans I
  have aK:=(((Y.le i).cn s (by have:=X.lt;omega)).le (f.trans I))
  refine Gd rfl (.loadB (v:= .slice (some ⟨V,0,none⟩) n n) na59 rfl aK rfl) (Gn 1 rfl (Ga rfl (.makeFunc rfl) ?_))
  have aL:=(ar.le (f.trans I))
  have aM:=(ab.le (f.trans I))
  have aw:=(au.le (f.trans I))
  refine G.ef rfl rfl rfl rfl rfl (Ef.call go275 rfl rfl (greatest_ok (fun d=>decide (b*d<=(((digs a).getD x.val 0)+B*(dmR (digs a) b n pre)))) go276 bj (fun d w1 h0 h1 hl=>dm1_ok d w1 (aL.le hl) (aM.le hl) (hW.le (aJ.trans hl)) (aw.vec.le hl) h0 h1 (by omega) (by omega)) (by simp)) ?_)
  rintro _ bS ⟨bk,rfl,⟨bT,bl,bm⟩,C⟩
  refine⟨_,rfl,?_⟩
  refine⟨fun _=>C,?_⟩
  have bn:bk=(((digs a).getD x.val 0)+B*(dmR (digs a) b n pre))/b:=greatest_div hb0 (of_decide_eq_true bl) hroom (bm.imp (fun h=>h.trans hB.symm) of_decide_eq_false)
  subst bn
  refine Ga rfl (.idxS (x.val) underlying59 sz273 rfl rfl (H.vec.isSome dv_row (by omega)) (rfl) (by omega)) ?_
  have ak:=(((F.le i).cb s (H.rn (by have:=t.size;have:=u.size;omega))).le (f.trans (I.trans C)))
  refine G.ef0 rfl rfl rfl rfl (Ef.vset (j:=x.val) (o:=0) ((((digs a).getD x.val 0)+B*(dmR (digs a) b n pre))/b) sz273 rfl (by omega) rfl ak dv_row (getS (dmQ (digs a) b n pre) 0 (by omega)) (by decide) rfl rfl fun bU bo K=>(noT (by kernel_rfl) (G.nil (RC.thenN (RC.draw [0,1,2,3,4,5,6,7,8,9,10,11,12] mixed (by kernel_rfl) rfl ?_)))))
  intro bp J
  have ax:=(((aM.le C).ch K (H.rn (by have:=t.size;have:=u.size;omega))).le J)
  refine Gd rfl (.loadB (v:= .slice ai ((digs (((digs a).getD x.val 0)+B*(dmR (digs a) b n pre))).length) aj) na59 rfl ax rfl) ?_
  have aO:=(((aL.le C).ch K (ak.rl (by have:=O.lt;omega))).le J)
  refine Gd rfl (.loadB (v:= .slice A2 m c2) na59 rfl aO rfl) ?_
  have aP:=(((aK.le C).ch K (H.rn (by omega))).le J)
  refine Gd rfl (.loadB (v:= .slice (some ⟨V,0,none⟩) n n) na59 rfl aP rfl) (Gn 1 rfl (Ga rfl (.idxS (x.val) underlying59 sz273 rfl rfl (H.vec.isSome dv_row (by omega)) (rfl) (by omega)) ?_))
  have aQ:=(bo.le J)
  refine Gd rfl (.vone (v:= .int .u32 (((((((digs a).getD x.val 0)+B*(dmR (digs a) b n pre))/b):Nat):Int))) na273 rfl aQ.vec dv_row (List.getElem?_set_self (by omega)) rfl) ?_
  refine G.ef rfl rfl rfl rfl rfl (Ef.buildSliceV (len:=1) [_] underlying59 el273 rfl (by simp[Value.cells]) rfl (by decide) (by decide) ?_)
  intro aR ay bq az y
  refine⟨fun _=>y,?_⟩
  have aS:=(((aJ.trans C).then_ K (fun q hq=>Nat.le_trans L7.size (ak.row hq).1)).trans J).trans y
  have az:Blk ay aR 273 (([((((digs a).getD x.val 0)+B*(dmR (digs a) b n pre))/b)]).map dv).flatten.toArray:=az
  have bs:OVec ay bp.heap.size 273 dv 1 (some ⟨aR,0,none⟩) 1 1 ([((((digs a).getD x.val 0)+B*(dmR (digs a) b n pre))/b)]):=az.ovec bq dv_row rfl rfl (by decide)
  have bt:=bs.cast (m':=1) (ys:=(digs ((((digs a).getD x.val 0)+B*(dmR (digs a) b n pre))/b))) (rfl) (digs_one hqp hroom)
  refine G.ef rfl rfl rfl rfl rfl (Ef.call go182 rfl rfl (nmul_ok ay (hW.le aS) bt.vec (by omega) (by omega)) ?_)
  rintro _ bu ⟨bV,bW,rfl,bv,z⟩
  refine⟨_,rfl,?_⟩
  refine⟨fun _=>z,?_⟩
  refine G.ef rfl rfl rfl rfl rfl (Ef.call go277 rfl rfl (nsub_ok bu (((aw.le C).ch K ((fun q h1 h2=>by have:=(F.row h1).2;have:=(aw.row h2).1;omega))).le (J.trans (y.trans z))).vec bv.vec (hmd) (by omega) (by omega)) ?_)
  rintro _ bX ⟨aT,aU,rfl,aV,L⟩
  refine⟨_,rfl,?_⟩
  refine⟨fun _=>L,?_⟩
  refine Gn 3 rfl ?_
  have aW:=(ax.le (y.trans (z.trans L)))
  refine G.ef0 rfl rfl rfl rfl (Ef.store sz59 rfl rfl aW (by first|decide|(simp;done)) (rfl) ?_)
  intro bw aA P
  refine noT (by kernel_rfl) ?_
  have aA:Blk bw aa 59 #[.slice aT ((digs ((((digs a).getD x.val 0)+B*(dmR (digs a) b n pre))-(b*((((digs a).getD x.val 0)+B*(dmR (digs a) b n pre))/b)))).length) aU]:=aA
  have aX:=((aS.trans z).trans L).tb P ap aC
  refine G.nil (E.blkN ?_)
  have aY:=((((((f0.le i).cn s (by have:=af.lt;omega)).le (f.trans (I.trans C))).ch K (H.rn (by have:=t.size;have:=u.size;have:=R.size;omega))).le (J.trans (y.trans (z.trans L)))).cn P (by have:=af.lt;omega))
  have bx:=((aO.le (y.trans (z.trans L))).cn P (by have:=O.lt;have:=Q.size;have:=t.size;have:=u.size;omega))
  have bz:=((aP.le (y.trans (z.trans L))).cn P (by have:=X.lt;omega))
  have bA:=((aQ.le (y.trans (z.trans L))).cb P (H.rn (by have:=t.size;have:=u.size;omega)))
  have bB:=(aV.cb P (aV.rl (by have:=ax.lt;have:=y.size;have:=z.size;omega)))
  exact fun a' _=>⟨((KeepsFrom.of_le i).trans ((KeepsFrom.of_ch s aq).trans ((KeepsFrom.of_le f).trans ((KeepsFrom.of_le I).trans ((KeepsFrom.of_le C).trans ((KeepsFrom.of_own K ak).trans ((KeepsFrom.of_le J).trans ((KeepsFrom.of_le y).trans ((KeepsFrom.of_le z).trans ((KeepsFrom.of_le L).trans (KeepsFrom.of_ch P aW))))))))))),⟨fun _=>aY,fun _=>(hV.le aX)⟩,⟨aT,aU,aX,by have:=zI;have:=i.size;have:=s.size;have:=f.size;have:=I.size;have:=C.size;have:=K.size;have:=J.size;have:=y.size;have:=z.size;have:=L.size;have:=P.size;omega,aY,bx,bz,(bA.cast rfl (dmQ_more hlt).symm),(aA.cast (by rw[dmR_next,Nat.mod_eq_sub_mul_div])),((bB.mono (by have:=i.size;have:=s.size;have:=f.size;have:=I.size;have:=C.size;have:=K.size;have:=J.size;have:=y.size;have:=z.size;omega)).cast (by rw[dmR_next,Nat.mod_eq_sub_mul_div]) (by rw[dmR_next,Nat.mod_eq_sub_mul_div]))⟩⟩
 ·rintro D pre Wd hD hS ⟨Ar,cr,LI,zI,f0,f1,Y,F,U,f5⟩ hdef
  subst hS
  have bY:ad.heap.size<=Wd.heap.size:=by have:=Q.size;have:=t.size;have:=u.size;have:=R.size;have:=T.size;omega
  have bZ:S.heap.size<=Wd.heap.size:=by omega
  have hdm:=dm_end hb0 hl
  obtain⟨hdr,hdq,hdl,hdb⟩:=hdm
  have hrm:=digs_len_mono (Nat.le_of_lt (Nat.mod_lt a hb0))
  rw[<-hdr]at hrm
  refine DE.blkN (DE.thenN (DC.seq (DC.draw [0,2,1,3,4,5,6] mixed (by kernel_rfl) fun bC Z=>(GD.rd rfl rfl (.loadB (v:= .slice (some ⟨V,0,none⟩) n n) na59 rfl (Y.le Z) rfl) rfl rfl rfl (GD.rd rfl rfl (.loadB (v:= .slice Ar ((digs (dmR (digs a) b n (finD n n (Nat.le_refl _)))).length) cr) na59 rfl (U.le Z) rfl) rfl rfl rfl ?_)))))
  refine GD.ef rfl rfl rfl rfl rfl (Ef.call go210 rfl rfl ((by have h:=low_ok bC (F.le Z) hdb (by omega);rw[hdq]at h;exact h)) ?_)
  rintro _ bD ⟨rfl,bE,al⟩
  refine⟨_,rfl,?_⟩
  refine⟨fun _=>al,?_⟩
  have aZ:=(LI.trans Z).trans al
  refine GD.ef rfl rfl rfl rfl rfl (Ef.call go215 rfl rfl (nclone_ok bD (f5.le (Z.trans al)).vec (by omega)) ?_)
  rintro _ b0 ⟨b1,b2,rfl,bF,am⟩
  refine⟨_,rfl,?_⟩
  refine⟨fun _=>am,?_⟩
  refine GD.any rfl rfl (.assign rfl) rfl rfl rfl (GD.any rfl rfl (.assign rfl) rfl rfl rfl (GD.any rfl rfl (.assign rfl) rfl rfl rfl (GD.nil (DE.thenN (DC.ret ?_)))))
  have a0:=(hdef.le (Z.trans (al.trans am)))
  obtain⟨hgD,hrD⟩:=Dob.put a0
  have bG:=(aZ.trans am).then_ hgD (fun q e=>by cases e;exact Nat.le_trans ah.size hD)
  have bH:=(bF.grown hgD hrD)
  refine DE.retM3 rfl a0 rfl rfl rfl ?_
  have hq:=(bH.mono aZ.size)
  rw[hdr]at hq ⊢
  exact⟨_,_,_,_,rfl,(((bE.le am).grown hgD hrD).mono L7.size),hq,bG⟩
 intro D xs Wd _ _ hf;exact hf.elim

theorem ngcd_ok {A A2:Option Addr}{n c m c2 a b:Nat}(w:World)(hV:Vec w dv 1 A n (digs a))(hW:Vec w dv 1 A2 m (digs b))(hn:n<=90000)(hm:m<=90000):Calls prog 110 #[.slice A n c,.slice A2 m c2] w fun r w'=>∃A c,r= .returned (.slice A (digs (Nat.gcd a b)).length c)/\OVec w' w.heap.size 273 dv 1 A (digs (Nat.gcd a b)).length c (digs (Nat.gcd a b))/\Le w w':=by
 have hl:=hV.1
 have x:=hW.1
 have hB:B=4294967296:=rfl
 refine enter func110 rfl rfl ?_
 have k:=Le.refl w
 refine Sr (Wn 1 rfl (Nx (Sr (Wn 1 rfl (W.cl go211 rfl rfl (ntaken_ok w (hV.le k) (by omega)) ?_)))))
 rintro _ y ⟨rfl,z⟩
 have l:=k.trans z
 refine Wn 1 rfl (W.cl go211 rfl rfl (ntaken_ok y (hW.le l) (by omega)) ?_)
 rintro _ C ⟨rfl,D⟩
 have h:=l.trans D
 refine Wn 2 rfl (Nx (Sq (WC.block (WC.loop (ι:=Nat×Nat×((Option Addr))×Nat×Nat×((Option Addr))×Nat×Nat) (fun⟨u,v,Au,nu,cu,Av,nv,cv⟩=>[(0,.slice Au nu cu),(1,.slice Av nv cv)]) (fun⟨u,v,Au,nu,cu,Av,nv,cv⟩ d=>(Nat.gcd u v=Nat.gcd a b)/\(nu<=90000/\nv<=90000)/\((digs u).length=nu/\(digs v).length=nv)/\Le w d/\C.heap.size<=d.heap.size/\Vec d dv 1 Au nu (digs u)/\Vec d dv 1 Av nv (digs v)) (fun⟨u,v,Au,nu,cu,Av,nv,cv⟩=>v) (a,b,A,n,c,A2,m,c2) ?_ ?_ ?_))))
 ·exact .of rfl
 ·exact⟨rfl,⟨by omega,by omega⟩,⟨hl,x⟩,h,Nat.le_refl _,(hV.le h),(hW.le h)⟩
 rintro⟨u,v,Au,nu,cu,Av,nv,cv⟩ d ⟨hg,hnn,hll,i,F,o,s⟩
 refine Sq (Sr (Wn 1 rfl (Wr (.len underlying59 rfl) rfl (Wn 1 rfl (Nx ?_)))))
 by_cases t:0<((nv:Nat):Int)
 ·refine Cy rfl (dT t) ?_
  have f:0<v:=Nat.pos_of_ne_zero (fun e=>by rw[e,digs_zero]at hll;have:=hll.2;simp at this;omega)
  have hml:=digs_len_mono (Nat.le_of_lt (Nat.mod_lt u f))
  refine Sn (WC.block (Sr (Wn 2 rfl (W.cl go209 rfl rfl (ndivmod_ok d o s (by omega) (by omega) (by omega)) ?_))))
  rintro _ P ⟨Q,R,H,I,rfl,S,J,j⟩
  have K:=i.trans j
  refine Wn 7 rfl (Nx (WC.region (Wn 4 rfl (W.nil (E.blkN ?_)))))
  have L:=(s.le j)
  refine E.again (v,(u%v),Av,nv,cv,H,((digs (u%v)).length),I) (.of rfl) ?_ ?_
  ·exact⟨by rw[<-hg,Nat.gcd_comm v,<-Nat.gcd_rec,Nat.gcd_comm],⟨by omega,by omega⟩,⟨hll.2,rfl⟩,K,by have:=F;have:=j.size;omega,L,J.vec⟩
  exact Nat.mod_lt _ f
 refine Cn rfl (dF t) ?_
 have f:v=0:=Classical.byContradiction (fun e=>by have:=hll.2;rw[digs_pos e]at this;simp at this;omega)
 have hgu:u=Nat.gcd a b:=by rw[<-hg,f,Nat.gcd_zero_right]
 refine WC.exit (E.thenX (E.thenX (E.blkH (E.thenN (Sr (Wn 1 rfl (W.cl go215 rfl rfl (nclone_ok d o (by omega)) ?_)))))))
 rintro _ T ⟨U,V,rfl,N,O⟩
 refine Wn 1 rfl (Nx (Rt (E.retG1 rfl rfl ?_)))
 rw[<-hgu];exact⟨_,_,rfl,(N.mono i.size),(i.trans O)⟩

theorem nint_ok {A:Option Addr}{n c a:Nat}(w:World)(hV:Vec w dv 1 A n (digs a))(ha:a<4294967296):Calls prog 240 #[.slice A n c] w fun r w'=>r= .returned (.tuple #[.int .i64 ((a:Nat):Int),.bool true])/\Le w w':=by
 have hl:=hV.1
 have hB:B=4294967296:=rfl
 have aa:=digs_len_one (d:=a) (by omega)
 refine enterM func240 rfl rfl ?_
 have u:=Le.refl w
 refine Sr (Wn 2 rfl (Nx (Sr (Wn 1 rfl (W.cl go211 rfl rfl (ntaken_ok w (hV.le u) (by omega)) ?_)))))
 rintro _ ab ⟨rfl,K⟩
 have s:=u.trans K
 refine Wn 1 rfl (Nx (Sr (W.ef rfl rfl rfl (Ef.alloc z27 fun f L y (O:Blk L f 27 #[.int .u64 (0)]) P=>(W.ef0 rfl rfl (Ef.store sz27 rfl rfl O (by first|decide|(simp;done)) (rfl) ?_))))))
 intro z i Q
 have i:Blk z f 27 #[.int .u64 (0)]:=i
 refine Nx (Sq (Sr (Wn 1 rfl (W.cl go213 rfl rfl (backD_ok z) ?_))))
 rintro _ C ⟨R,rfl,ac,F,H⟩
 have j:=((s.trans P).tb Q s y).trans H
 refine Nx (WC.block ?_)
 have S:=(i.le H)
 have hbq:=backD_seq (c:=c) (xs:=(digs a)) (by omega) C F (hV.le j)
 refine WC.rangeX (α:=Fin n) (N:=n) rfl go279 rfl rfl hbq (fun A=>KpV.refl _ _ _ _ _ _ A) (fun h k=>h.trans k) (fun Wd q o o' hq T U _=>KpV.put trivial T U) (fun(pre:List (Fin n)) Wd=>Le w Wd/\C.heap.size<=Wd.heap.size/\Blk Wd R 59 #[.slice A n c]/\Blk Wd f 27 #[.int .u64 ((((intV a pre):Nat):Int))]) (fun _ _=>False) (fun pre Wd W' row ⟨LI,zI,l,b⟩ hg hr=>⟨LI.then_ hg (fun q e=>Nat.le_trans j.size (hr q e).1),Nat.le_trans zI hg.size,l.grown hg (fun r e=>(hr r e).2),b.grown hg (fun r e=>(hr r e).2)⟩) (fun _ _ _ _ hf _ _=>hf) ⟨j,Nat.le_refl _,F,S⟩ (fun x=>[(0,.slice A n c),(4,.pointer (some ⟨f,0,none⟩)),(6,.int .u32 ((((digs a).getD x.val 0:Nat)):Int))]) ?_ ?_ ?_ ?_
 ·intro lp x Wd
  refine RC.region rfl (fun⟨_,_,h⟩=>h) (Wn 1 rfl (W.nil ?_))
  exact fun a' ha'=>⟨ha'.sub (.of rfl),rfl⟩
 ·rintro lp pre x Wd ⟨LI,zI,l,b⟩ hpre
  have hx:=x.2
  have V:pre=[]:=List.length_eq_zero_iff.1 (by omega)
  have X:intV a pre=0:=by rw[V];rfl
  have hdx:((digs a).getD x.val 0)=a:=intV_dig (by omega) (by omega) (by omega)
  refine RC.block (RC.region rfl (fun⟨_,_,h⟩=>h) (Wr (.loadB (v:= .int .u64 ((((intV a pre):Nat):Int))) na27 rfl b rfl) rfl (Wa (.shlN (intV a pre) 32 0 rfl rfl rfl rfl (by decide) (by rw[X])) rfl ?_)))
  refine Wn 1 rfl (Wr (.idI (isS underlying273) underlying27 rfl (IntWalk.u64_in _ (by omega))) rfl (Wa (.orN 0 ((digs a).getD x.val 0) rfl rfl rfl rfl (by decide) (by omega)) rfl (W.ef0 rfl rfl (Ef.store sz27 rfl rfl b (by first|decide|(simp;done)) (rfl) ?_))))
  intro Y t m
  have t:Blk Y f 27 #[.int .u64 ((((0|||((digs a).getD x.val 0)):Nat):Int))]:=t
  have I:=LI.tb m s y
  refine W.nil (E.blkN ?_)
  have J:=(l.cn m (by have:=i.lt;omega))
  exact fun a' _=>⟨(KeepsFrom.of_ch m b),⟨fun _=>J,fun _=>(hV.le I)⟩,⟨I,by have:=zI;have:=m.size;omega,J,(t.cast (by rw[hdx,Nat.zero_or,intV_snoc]))⟩⟩
 ·rintro D pre Wd hD hS ⟨LI,zI,l,b⟩ hdef
  subst hS
  have hia:intV a (finD n n (Nat.le_refl n))=a:=intV_all hl
  refine DE.blkN (DE.thenN (DC.seq (DC.seq (DC.region (DW.any (.move rfl) rfl rfl rfl ?_)))))
  refine DW.rd (.len underlying59 rfl) rfl rfl rfl (DW.any (.dec (.gtr rfl rfl) (dF (by omega))) rfl rfl rfl (DW.any (.move rfl) rfl rfl rfl (DW.rdg (.loadB (v:= .int .u64 ((((intV a (finD n n (Nat.le_refl _))):Nat):Int))) na27 rfl b rfl) rfl rfl rfl (rfl) rfl rfl (DW.rdg (Any.rd (.dec (.gtr rfl rfl) (dF (by rw[hia];omega))) _) rfl rfl rfl (rfl) rfl rfl ?_))))
  refine DW.any (.pickF rfl rfl rfl) rfl rfl rfl (DW.nil (DE.thenN (DC.condF rfl (DC.skip (DE.thenN ?_)))))
  refine DC.seq (DC.region (DW.rd (.loadB (v:= .int .u64 ((((intV a (finD n n (Nat.le_refl _))):Nat):Int))) na27 rfl b rfl) rfl rfl rfl (DW.rd (.idI (isS underlying27) underlying3 rfl (IntWalk.i64_in _ (by rw[hia];omega))) rfl rfl rfl ?_)))
  refine DW.any (.assign rfl) rfl rfl rfl (DW.any (.assign rfl) rfl rfl rfl (DW.nil (DE.thenN (DC.ret ?_))))
  obtain⟨hgD,hrD⟩:=Dob.put hdef
  have Z:=LI.then_ hgD (fun q e=>by cases e;exact Nat.le_trans j.size hD)
  refine DE.retMG2 rfl hdef rfl rfl ?_
  exact⟨by rw[hia],Z⟩
 intro D xs Wd _ _ hf;exact hf.elim
end Go.Proofs.YtocheaahlpiajaaGreatDoor

namespace Go.Proofs.YtocheaahlpiajaaGreatDoor
open Tryz
open Go Go.Sx Go.Nsp
set_option maxRecDepth 20000
def okB (p q:Nat):Bool:=decide (0<q/\Nat.gcd p q=1)
def takF (f:Fr):Fr:=if okB f.n f.d=true then f else⟨0,1⟩
theorem okB_iff {f:Fr}:okB f.n f.d=true↔okF f:=by unfold okB okF;rw[decide_eq_true_eq]
theorem takF_ok (f:Fr):okF (takF f):=by
  unfold takF
  split
  · exact okB_iff.1 (by assumption)
  · exact⟨by decide,rfl⟩
theorem takF_id {f:Fr}(h:okF f):takF f=f:=if_pos (okB_iff.2 h)
theorem takF_len (f:Fr):(digs (takF f).n).length<=(digs f.n).length/\(digs (takF f).d).length<=(digs f.d).length+1:=by
  unfold takF
  split
  · exact⟨Nat.le_refl _,Nat.le_succ _⟩
  · have:=digs_len_one (d:=1) (by decide)
    simp only[digs_zero]
    exact⟨Nat.zero_le _,by omega⟩
theorem digs_len_0:(digs 0).length=0:=by rw[digs_zero];rfl
theorem cmpN_eq {a b:Nat}:cmpN a b=0↔a=b:=by unfold cmpN;split<;>(try split)<;>omega
theorem lowF_le (n d:Nat):(lowF n d).n<=n/\(lowF n d).d<=d:=⟨Nat.div_le_self _ _,Nat.div_le_self _ _⟩
theorem digs_pos_of {q:Nat}(h:0<(digs q).length):0<q:=Nat.pos_of_ne_zero fun e=>by rw[e,digs_zero]at h;simp at h
theorem digs_len_pos {q:Nat}(h:0<q):0<(digs q).length:=by rw[digs_pos (by omega)];simp
theorem gcd_len {n d:Nat}(h:0<d):(digs (Nat.gcd n d)).length<=(digs d).length:=digs_len_mono (Nat.le_of_dvd h (Nat.gcd_dvd_right n d))
theorem fone_ok (w:World):Calls prog 111 #[] w fun r w'=>∃A c,r= .returned (.slice A (digs 1).length c)/\OVec w' w.heap.size 273 dv 1 A (digs 1).length c (digs 1)/\Le w w':=by
 refine enter func111 rfl rfl ?_
 have b:=Le.refl w
 refine Sr (Wn 1 rfl (Nx (Sr (W.cl go107 rfl rfl (nof_ok 1 (by omega) w) ?_))))
 rintro _ f ⟨h,i,rfl,d,e⟩
 refine Wn 1 rfl (Nx (Rt (E.retG1 rfl rfl ?_)))
 exact⟨_,_,rfl,(d.mono b.size),(b.trans e)⟩

theorem fnought_ok (w:World):Calls prog 105 #[] w fun r w'=>∃A1 c1 A2 c2,r= .returned (.agg #[.slice A1 (digs 0).length c1,.slice A2 (digs 1).length c2])/\OVec w' w.heap.size 273 dv 1 A1 (digs 0).length c1 (digs 0)/\OVec w' w.heap.size 273 dv 1 A2 (digs 1).length c2 (digs 1)/\Le w w':=by
 refine enter func105 rfl rfl ?_
 have h:=Le.refl w
 refine Sr (W.ef rfl rfl rfl (Ef.allocA z61 fun i j v (b:Blk j i 61 #[.slice none 0 0,.slice none 0 0]) x=>?_))
 have k:=h.trans x
 refine Nx (Sr (W.cl go107 rfl rfl (nof_ok 0 (by omega) j) ?_))
 rintro _ y ⟨l,m,rfl,n,c⟩
 have o:=k.trans c
 refine W.cl go111 rfl rfl (fone_ok y) ?_
 rintro _ A ⟨s,t,rfl,u,d⟩
 refine Wa (.buildP [.slice l ((digs 0).length) m,.slice s ((digs 1).length) t] pl61 z61 rfl rfl) rfl (W.sA sz61 rfl rfl (b.le (c.trans d)) ?_)
 intro z e f
 have e:Blk z i 61 #[.slice l ((digs 0).length) m,.slice s ((digs 1).length) t]:=e
 refine Nx (Rt (E.retG1 rfl (resA rfl e ag61 (by rfl)) ?_))
 exact⟨_,_,_,_,rfl,(((n.le d).cb f (n.rl (by have:=b.lt;omega))).mono k.size),((u.cb f (u.rl (by have:=b.lt;have:=c.size;omega))).mono o.size),((o.trans d).tb f h v)⟩

theorem frcright_ok {An Ad:Option Addr}{nn cn nd cd p q:Nat}(w:World)(hn:Vec w dv 1 An nn (digs p))(hd:Vec w dv 1 Ad nd (digs q))(bn:nn<=10000)(bd:nd<=10000):Calls prog 40 #[.agg #[.slice An nn cn,.slice Ad nd cd]] w fun r w'=>r= .returned (.bool (okB p q))/\Le w w':=by
 have hln:=hn.1;have hld:=hd.1
 have J:=digs_len_one (d:=1) (by decide)
 refine enter func40 rfl rfl (Sr (W.ef rfl rfl rfl (Ef.boxA rfl fun u f K (i:Blk f u 61 #[.slice An nn cn,.slice Ad nd cd]) x=>?_)))
 have j:=(Le.refl w).trans x
 refine Wn 1 rfl (Nx (Sr (Wa (.field0 fa61_0 rfl) rfl (Wr (.loadB (v:= .slice An nn cn) na59 rfl i rfl) rfl (W.cl go108 rfl rfl (nright_ok f (hn.le j) (by omega)) ?_)))))
 rintro _ y ⟨rfl,k⟩
 have l:=j.trans k
 refine Wn 1 rfl (Wg (Any.rd (.field0 fa61_1 rfl) _) rfl ?_)
 have m:=(i.le k)
 refine Wg (.loadB (v:= .slice Ad nd cd) na59 rfl m rfl) rfl (W.efg rfl rfl rfl (rfl) rfl rfl (Ef.call go108 rfl rfl (nright_ok y (hd.le l) (by omega)) ?_))
 rintro _ z ⟨rfl,o⟩
 refine⟨_,rfl,?_⟩
 have b:=l.trans o
 refine Wn 2 rfl (Wg (Any.rd (.field0 fa61_1 rfl) _) rfl ?_)
 have e:=(m.le o)
 refine Wg (.loadB (v:= .slice Ad nd cd) na59 rfl e rfl) rfl (Wg (.len underlying59 rfl) rfl (Wn 2 rfl ?_))
 by_cases s:0<((nd:Nat):Int)
 ·have c:0<q:=digs_pos_of (by omega)
  have hgl:=gcd_len (n:=p) c
  refine Dt s rfl rfl (Wg (Any.rd (.field0 fa61_0 rfl) _) rfl (Wg (.loadB (v:= .slice An nn cn) na59 rfl e rfl) rfl (Wg (Any.rd (.field0 fa61_1 rfl) _) rfl (Wg (.loadB (v:= .slice Ad nd cd) na59 rfl e rfl) rfl (W.efg rfl rfl rfl (rfl) rfl rfl ?_)))))
  refine Ef.call go110 rfl rfl (ngcd_ok z (hn.le b) (hd.le b) (by omega) (by omega)) ?_
  rintro _ A ⟨L,N,rfl,C,D⟩
  refine⟨_,rfl,?_⟩
  refine W.efg rfl rfl rfl (rfl) rfl rfl (Ef.call go111 rfl rfl (fone_ok A) ?_)
  rintro _ F ⟨O,P,rfl,H,t⟩
  refine⟨_,rfl,?_⟩
  refine W.efg rfl rfl rfl (rfl) rfl rfl (Ef.call go109 rfl rfl (ncmp_ok F (C.le t).vec H.vec (by omega) (by omega)) ?_)
  rintro _ Q ⟨rfl,I⟩
  refine⟨_,rfl,?_⟩
  refine Wn 3 rfl (Nx (Rt (E.retG1 rfl rfl ?_)))
  exact⟨rB (by unfold okB;exact decide_eq_decide.2 ⟨fun h=>⟨c,cmpN_eq.1 h⟩,fun h=>cmpN_eq.2 h.2⟩),(((b.trans D).trans t).trans I)⟩
 have c:¬0<q:=fun h=>by have:=digs_len_pos h;omega
 refine Df s rfl rfl (Wn 10 rfl (Nx (Rt (E.retG1 rfl rfl ?_))))
 exact⟨rB (by unfold okB;exact(dF (fun h=>c h.1)).symm),b⟩

theorem ftaken_yes {An Ad:Option Addr}{nn cn nd cd p q:Nat}(w:World)(hn:Vec w dv 1 An nn (digs p))(hd:Vec w dv 1 Ad nd (digs q))(bn:nn<=10000)(bd:nd<=10000)(hok:okB p q=true):Calls prog 165 #[.agg #[.slice An nn cn,.slice Ad nd cd]] w fun r w'=>r= .returned (.agg #[.slice An nn cn,.slice Ad nd cd])/\Le w w':=by
 have hln:=hn.1;have hld:=hd.1
 refine enter func165 rfl rfl (Sr (W.ef rfl rfl rfl (Ef.boxA rfl fun k l v (m:Blk l k 61 #[.slice An nn cn,.slice Ad nd cd]) n=>?_)))
 have e:=(Le.refl w).trans n
 refine W.ef rfl rfl rfl (Ef.allocA z61 fun f h o (s:Blk h f 61 #[.slice none 0 0,.slice none 0 0]) i=>?_)
 have b:=e.trans i
 refine Nx (Sq (Sr ?_))
 have j:=(m.le i)
 refine Wr (.loadAll ag61 (by rfl) rfl j) rfl ?_
 refine W.cl go40 rfl rfl (frcright_ok h (hn.le b) (hd.le b) (by omega) (by omega)) ?_
 rintro _ x ⟨rfl,c⟩
 refine Nx (Cy rfl (hok) (Sr (Wr (.loadAll ag61 (by rfl) rfl (j.le c)) rfl ?_)))
 refine W.sA sz61 rfl rfl (s.le c) ?_
 intro t d u
 have d:Blk t f 61 #[.slice An nn cn,.slice Ad nd cd]:=d
 refine Nx (Rt (E.thenR (E.retG1 rfl (resA rfl d ag61 (by rfl)) ?_)))
 exact⟨rfl,((b.trans c).tb u e o)⟩

theorem ftaken_no {An Ad:Option Addr}{nn cn nd cd p q:Nat}(w:World)(hn:Vec w dv 1 An nn (digs p))(hd:Vec w dv 1 Ad nd (digs q))(bn:nn<=10000)(bd:nd<=10000)(hok:¬okB p q=true):Calls prog 165 #[.agg #[.slice An nn cn,.slice Ad nd cd]] w fun r w'=>∃A1 c1 A2 c2,r= .returned (.agg #[.slice A1 (digs 0).length c1,.slice A2 (digs 1).length c2])/\OVec w' w.heap.size 273 dv 1 A1 (digs 0).length c1 (digs 0)/\OVec w' w.heap.size 273 dv 1 A2 (digs 1).length c2 (digs 1)/\Le w w':=by
 have hln:=hn.1;have hld:=hd.1
 refine enter func165 rfl rfl (Sr (W.ef rfl rfl rfl (Ef.boxA rfl fun s t H (u:Blk t s 61 #[.slice An nn cn,.slice Ad nd cd]) v=>?_)))
 have i:=(Le.refl w).trans v
 refine W.ef rfl rfl rfl (Ef.allocA z61 fun j k x (c:Blk k j 61 #[.slice none 0 0,.slice none 0 0]) l=>?_)
 have d:=i.trans l
 refine Nx (Sq (Sr (Wr (.loadAll ag61 (by rfl) rfl (u.le l)) rfl ?_)))
 refine W.cl go40 rfl rfl (frcright_ok k (hn.le d) (hd.le d) (by omega) (by omega)) ?_
 rintro _ y ⟨rfl,b⟩
 have e:=d.trans b
 refine Nx (Cn rfl ((Bool.eq_false_iff.2 hok)) (Sn (Sr (W.cl go105 rfl rfl (fnought_ok y) ?_))))
 rintro _ I ⟨z,A,C,D,rfl,m,n,o⟩
 refine W.sA sz61 rfl rfl (c.le (b.trans o)) ?_
 intro F f h
 have f:Blk F j 61 #[.slice z ((digs 0).length) A,.slice C ((digs 1).length) D]:=f
 refine Nx (Rt (E.retG1 rfl (resA rfl f ag61 (by rfl)) ?_))
 exact⟨_,_,_,_,rfl,((m.cb h (m.rl (by have:=c.lt;have:=b.size;omega))).mono e.size),((n.cb h (n.rl (by have:=c.lt;have:=b.size;omega))).mono e.size),((e.trans o).tb h i x)⟩

theorem flow1_ok {A Ag:Option Addr}{n c ng cg a g g1:Nat}(w:World)(hb1:Blk w g1 59 #[.slice Ag ng cg])(hV:Vec w dv 1 A n (digs a))(hG:Vec w dv 1 Ag ng (digs g))(hg0:0<g)(hn:n<=90000)(hg1:ng<=90000):Calls prog 208 #[.slice A n c,.pointer (some ⟨g1,0,none⟩)] w fun r w'=>∃A c,r= .returned (.slice A (digs (a/g)).length c)/\OVec w' w.heap.size 273 dv 1 A (digs (a/g)).length c (digs (a/g))/\Le w w':=by
 have hl:=hV.1;have f:=hG.1
 refine enter func208 rfl rfl ?_
 have b:=Le.refl w
 refine Sr (Wn 1 rfl (Nx (Sr (Wn 1 rfl (Wr (.loadB (v:= .slice Ag ng cg) na59 rfl (hb1.le b) rfl) rfl (W.cl go209 rfl rfl (ndivmod_ok w (hV.le b) (hG.le b) (by omega) (by omega) (by omega)) ?_))))))
 rintro _ h ⟨i,j,k,l,rfl,d,m,e⟩
 refine Wn 7 rfl (Nx (Sr (Wn 2 rfl (Nx (Rt (E.retG1 rfl rfl ?_))))))
 exact⟨_,_,rfl,(d.mono b.size),(b.trans e)⟩

theorem flow_ok {A A2:Option Addr}{n c m c2 a b:Nat}(w:World)(hV:Vec w dv 1 A n (digs a))(hW:Vec w dv 1 A2 m (digs b))(hb:0<b)(hn:n<=90000)(hm:m<=90000):Calls prog 106 #[.slice A n c,.slice A2 m c2] w fun r w'=>∃A1 c1 A2 c2,r= .returned (.agg #[.slice A1 (digs (lowF a b).n).length c1,.slice A2 (digs (lowF a b).d).length c2])/\OVec w' w.heap.size 273 dv 1 A1 (digs (lowF a b).n).length c1 (digs (lowF a b).n)/\OVec w' w.heap.size 273 dv 1 A2 (digs (lowF a b).d).length c2 (digs (lowF a b).d)/\Le w w':=by
 have hl:=hV.1;have aa:=hW.1
 have ab:0<Nat.gcd a b:=gcd_pos hb
 have hgl:=gcd_len (n:=a) hb
 refine enter func106 rfl rfl ?_
 have x:=Le.refl w
 refine Sr (W.ef rfl rfl rfl (Ef.allocA z61 fun y z Q (j:Blk z y 61 #[.slice none 0 0,.slice none 0 0]) R=>?_))
 have l:=x.trans R
 refine Nx (Sr (Wn 2 rfl (W.cl go110 rfl rfl (ngcd_ok z (hV.le l) (hW.le l) (by omega) (by omega)) ?_)))
 rintro _ ac ⟨S,T,rfl,C,e⟩
 have D:=l.trans e
 refine W.ef rfl rfl rfl (Ef.alloc z59 fun F U V (X:Blk U F 59 #[.slice none 0 0]) f=>(W.ef0 rfl rfl (Ef.store sz59 rfl rfl X (by first|decide|(simp;done)) (rfl) ?_)))
 intro H k h
 have k:Blk H F 59 #[.slice S ((digs (Nat.gcd a b)).length) T]:=k
 have o:=(D.trans f).tb h D V
 refine Nx (Sr (Wa (.makeFunc rfl) rfl (Wn 1 rfl (Nx (Sr (Wn 2 rfl ?_))))))
 have I:=((C.le f).cb h (C.rn (by omega)))
 refine W.ef rfl rfl rfl (Ef.callC go208 rfl rfl rfl (flow1_ok H k (hV.le o) I.vec (by assumption) (by omega) (by omega)) ?_)
 rintro _ Y ⟨J,K,rfl,L,i⟩
 refine⟨_,rfl,?_⟩
 have s:=o.trans i
 refine Wn 2 rfl (W.ef rfl rfl rfl (Ef.callC go208 rfl rfl rfl (flow1_ok Y (k.le i) (hW.le s) (I.le i).vec (by assumption) (by omega) (by omega)) ?_))
 rintro _ ad ⟨N,O,rfl,P,t⟩
 refine⟨_,rfl,?_⟩
 refine Wa (.buildP [.slice J ((digs (a/(Nat.gcd a b))).length) K,.slice N ((digs (b/(Nat.gcd a b))).length) O] pl61 z61 rfl rfl) rfl (W.sA sz61 rfl rfl (((j.le (e.trans f)).cn h (by have:=j.lt;have:=e.size;omega)).le (i.trans t)) ?_)
 intro Z u v
 have u:Blk Z y 61 #[.slice J ((digs (a/(Nat.gcd a b))).length) K,.slice N ((digs (b/(Nat.gcd a b))).length) O]:=u
 refine Nx (Rt (E.retG1 rfl (resA rfl u ag61 (by rfl)) ?_))
 exact⟨_,_,_,_,rfl,(((L.le t).cb v (L.rl (by have:=j.lt;have:=e.size;have:=f.size;have:=h.size;omega))).mono o.size),((P.cb v (P.rl (by have:=j.lt;have:=e.size;have:=f.size;have:=h.size;have:=i.size;omega))).mono s.size),((s.trans t).tb v x Q)⟩

theorem fof_ok (a b:Nat)(w:World)(hb:0<b)(ha:a<18446744073709551616)(hb2:b<18446744073709551616):Calls prog 39 #[.int .u64 (((a:Nat):Int)),.int .u64 (((b:Nat):Int))] w fun r w'=>∃A1 c1 A2 c2,r= .returned (.tuple #[.agg #[.slice A1 (digs (lowF a b).n).length c1,.slice A2 (digs (lowF a b).d).length c2],.bool true])/\OVec w' w.heap.size 273 dv 1 A1 (digs (lowF a b).n).length c1 (digs (lowF a b).n)/\OVec w' w.heap.size 273 dv 1 A2 (digs (lowF a b).d).length c2 (digs (lowF a b).d)/\Le w w':=by
 have hla:=digs_len_pow 2 (a:=a) ha;have hlb:=digs_len_pow 2 (a:=b) hb2
 refine enter func39 rfl rfl ?_
 have k:=Le.refl w
 refine Sr (W.ef rfl rfl rfl (Ef.allocA z61 fun l m u (f:Blk m l 61 #[.slice none 0 0,.slice none 0 0]) v=>(Wn 1 rfl (Nx (Sq (Sr (Wn 1 rfl (Wa (.dec (.eql rfl rfl) (dF (by omega))) rfl (Nx (WC.condF rfl (Sn (Sr (Wn 1 rfl (W.cl go107 rfl rfl (nof_ok a (by omega) m) ?_))))))))))))))
 rintro _ x ⟨J,K,rfl,y,e⟩
 refine Wn 1 rfl (W.cl go107 rfl rfl (nof_ok b (by omega) x) ?_)
 rintro _ z ⟨L,N,rfl,A,c⟩
 have h:=((k.trans v).trans e).trans c
 refine W.cl go106 rfl rfl (flow_ok z (y.le c).vec A.vec (by assumption) (by omega) (by omega)) ?_
 rintro _ O ⟨C,D,F,H,rfl,o,s,t⟩
 refine W.sA sz61 rfl rfl (f.le (e.trans (c.trans t))) ?_
 intro I i j
 have i:Blk I l 61 #[.slice C ((digs ((lowF a b).n)).length) D,.slice F ((digs ((lowF a b).d)).length) H]:=i
 refine Wn 1 rfl (Nx (Rt (E.retG2 rfl (resA rfl i ag61 (by rfl)) rfl ?_)))
 exact⟨_,_,_,_,rfl,((o.cb j (o.rl (by have:=f.lt;have:=e.size;have:=c.size;omega))).mono h.size),((s.cb j (s.rl (by have:=f.lt;have:=e.size;have:=c.size;omega))).mono h.size),((h.trans t).tb j k u)⟩

theorem fcross_ok {An1 Ad1:Option Addr}{nn1 cn1 nd1 cd1 p1 q1:Nat}{An2 Ad2:Option Addr}{nn2 cn2 nd2 cd2 p2 q2:Nat}(w:World)(hn1:Vec w dv 1 An1 nn1 (digs p1))(hd1:Vec w dv 1 Ad1 nd1 (digs q1))(bn1:nn1<=10000)(bd1:nd1<=10000)(hn2:Vec w dv 1 An2 nn2 (digs p2))(hd2:Vec w dv 1 Ad2 nd2 (digs q2))(bn2:nn2<=10000)(bd2:nd2<=10000):Calls prog 112 #[.agg #[.slice An1 nn1 cn1,.slice Ad1 nd1 cd1],.agg #[.slice An2 nn2 cn2,.slice Ad2 nd2 cd2]] w fun r w'=>∃A1 c1 A2 c2 A3 c3,r= .returned (.tuple #[.slice A1 (digs ((takF ⟨p1,q1⟩).n*(takF ⟨p2,q2⟩).d)).length c1,.slice A2 (digs ((takF ⟨p2,q2⟩).n*(takF ⟨p1,q1⟩).d)).length c2,.slice A3 (digs ((takF ⟨p1,q1⟩).d*(takF ⟨p2,q2⟩).d)).length c3])/\OVec w' w.heap.size 273 dv 1 A1 (digs ((takF ⟨p1,q1⟩).n*(takF ⟨p2,q2⟩).d)).length c1 (digs ((takF ⟨p1,q1⟩).n*(takF ⟨p2,q2⟩).d))/\OVec w' w.heap.size 273 dv 1 A2 (digs ((takF ⟨p2,q2⟩).n*(takF ⟨p1,q1⟩).d)).length c2 (digs ((takF ⟨p2,q2⟩).n*(takF ⟨p1,q1⟩).d))/\OVec w' w.heap.size 273 dv 1 A3 (digs ((takF ⟨p1,q1⟩).d*(takF ⟨p2,q2⟩).d)).length c3 (digs ((takF ⟨p1,q1⟩).d*(takF ⟨p2,q2⟩).d))/\Le w w':=by
 have bO:=hn1.1;have bP:=hd1.1
 have bQ:=hn2.1;have bR:=hd2.1
 have bS:=digs_len_one (d:=1) (by decide)
 have bT:=digs_len_0
 refine enter func112 rfl rfl ?_
 have F:=Le.refl w
 refine Sr (W.ef rfl rfl rfl (Ef.boxA rfl fun H bc O (i:Blk bc H 61 #[.slice An1 nn1 cn1,.slice Ad1 nd1 cd1]) bd=>?_))
 have I:=F.trans bd
 refine W.ef rfl rfl rfl (Ef.boxA rfl fun J be P (bf:Blk be J 61 #[.slice An2 nn2 cn2,.slice Ad2 nd2 cd2]) aV=>(Wn 3 rfl (Nx (Sq (WC.draw [0,2,1,3,4,5] mixed (by kernel_rfl) fun w1 d1=>?_)))))
 have m:=(I.trans aV).trans d1
 have c:=(i.le (aV.trans d1))
 refine Gd rfl (.loadAll ag61 (by rfl) rfl c) ?_
 have e:=(bf.le d1)
 refine Gd rfl (.loadAll ag61 (by rfl) rfl e) ?_
 by_cases Q:(okB p1 q1)=true
 ·have K:takF ⟨p1,q1⟩=⟨p1,q1⟩:=if_pos Q
  refine G.ef rfl rfl rfl rfl rfl (Ef.call go165 rfl rfl (ftaken_yes w1 (hn1.le m) (hd1.le m) (by omega) (by omega) Q) ?_)
  rintro _ aW ⟨rfl,f⟩
  refine⟨_,rfl,?_⟩
  refine⟨fun _=>f,?_⟩
  have o:=m.trans f
  by_cases j:(okB p2 q2)=true
  ·have k:takF ⟨p2,q2⟩=⟨p2,q2⟩:=if_pos j
   refine G.ef rfl rfl rfl rfl rfl (Ef.call go165 rfl rfl (ftaken_yes aW (hn2.le o) (hd2.le o) (by omega) (by omega) j) ?_)
   rintro _ bU ⟨rfl,R⟩
   refine⟨_,rfl,?_⟩
   refine⟨fun _=>R,?_⟩
   refine G.ef0 rfl rfl rfl rfl (Ef.storeAll sz61 (by rfl) rfl rfl (c.le (f.trans R)) (by rfl) (by simp[Value.oneCell']) ?_)
   intro bg al aX
   refine noT (by kernel_rfl) ?_
   have al:Blk bg H 61 #[.slice An1 nn1 cn1,.slice Ad1 nd1 cd1]:=al
   have bh:=((e.le (f.trans R)).cn aX (by have:=i.lt;omega))
   refine G.ef0 rfl rfl rfl rfl (Ef.storeAll sz61 (by rfl) rfl rfl bh (by rfl) (by simp[Value.oneCell']) ?_)
   intro bi am aY
   refine noT (by kernel_rfl) ?_
   have am:Blk bi J 61 #[.slice An2 nn2 cn2,.slice Ad2 nd2 cd2]:=am
   refine G.nil (E.thenN (Sq (WC.draw [0,1,2,3,5,6,7,8,10,11,12,13,4,9,14,15,16,17] mixed (by kernel_rfl) fun l b=>?_)))
   have S:=(((o.trans R).tb aX F O).tb aY I P).trans b
   refine Ga rfl (.field0 fa61_0 rfl) ?_
   have an:=((al.cn aY (by have:=i.lt;omega)).le b)
   refine Gd rfl (.loadB (v:= .slice An1 nn1 cn1) na59 rfl an rfl) (Ga rfl (.field0 fa61_1 rfl) ?_)
   have ao:=(am.le b)
   refine Gd rfl (.loadB (v:= .slice Ad2 nd2 cd2) na59 rfl ao rfl) (Ga rfl (.field0 fa61_0 rfl) (Gd rfl (.loadB (v:= .slice An2 nn2 cn2) na59 rfl ao rfl) (Ga rfl (.field0 fa61_1 rfl) (Gd rfl (.loadB (v:= .slice Ad1 nd1 cd1) na59 rfl an rfl) (Ga rfl (.field0 fa61_1 rfl) ?_)))))
   refine Gd rfl (.loadB (v:= .slice Ad1 nd1 cd1) na59 rfl an rfl) (Ga rfl (.field0 fa61_1 rfl) (Gd rfl (.loadB (v:= .slice Ad2 nd2 cd2) na59 rfl ao rfl) (G.ef rfl rfl rfl rfl rfl (Ef.call go182 rfl rfl (nmul_ok l (hn1.le S) (hd2.le S) (by omega) (by omega)) ?_))))
   rintro _ bj ⟨bV,bW,rfl,bk,aZ⟩
   refine⟨_,rfl,?_⟩
   refine⟨fun _=>aZ,?_⟩
   have T:=S.trans aZ
   refine G.ef rfl rfl rfl rfl rfl (Ef.call go182 rfl rfl (nmul_ok bj (hn2.le T) (hd1.le T) (by omega) (by omega)) ?_)
   rintro _ bl ⟨bX,bY,rfl,bm,ap⟩
   refine⟨_,rfl,?_⟩
   refine⟨fun _=>ap,?_⟩
   have U:=T.trans ap
   refine G.ef rfl rfl rfl rfl rfl (Ef.call go182 rfl rfl (nmul_ok bl (hd1.le U) (hd2.le U) (by omega) (by omega)) ?_)
   rintro _ bZ ⟨b0,b1,rfl,bn,V⟩
   refine⟨_,rfl,?_⟩
   refine⟨fun _=>V,?_⟩
   refine Gn 3 rfl (G.nil (E.thenN (Rt (E.retG3 rfl rfl rfl rfl ?_))))
   rw[K,k]
   exact⟨_,_,_,_,_,_,rfl,((bk.le (ap.trans V)).mono S.size),((bm.le V).mono T.size),(bn.mono U.size),(U.trans V)⟩
  have k:takF ⟨p2,q2⟩=⟨0,1⟩:=if_neg j
  refine G.ef rfl rfl rfl rfl rfl (Ef.call go165 rfl rfl (ftaken_no aW (hn2.le o) (hd2.le o) (by omega) (by omega) j) ?_)
  rintro _ b2 ⟨a0,a1,aq,ar,rfl,au,av,X⟩
  refine⟨_,rfl,?_⟩
  refine⟨fun _=>X,?_⟩
  refine G.ef0 rfl rfl rfl rfl (Ef.storeAll sz61 (by rfl) rfl rfl (c.le (f.trans X)) (by rfl) (by simp[Value.oneCell']) ?_)
  intro bo aw Y
  refine noT (by kernel_rfl) ?_
  have aw:Blk bo H 61 #[.slice An1 nn1 cn1,.slice Ad1 nd1 cd1]:=aw
  have bp:=((e.le (f.trans X)).cn Y (by have:=i.lt;omega))
  refine G.ef0 rfl rfl rfl rfl (Ef.storeAll sz61 (by rfl) rfl rfl bp (by rfl) (by simp[Value.oneCell']) ?_)
  intro bq ax Z
  refine noT (by kernel_rfl) ?_
  have ax:Blk bq J 61 #[.slice a0 ((digs 0).length) a1,.slice aq ((digs 1).length) ar]:=ax
  refine G.nil (E.thenN (Sq (WC.draw [0,1,2,3,5,6,7,8,10,11,12,13,4,9,14,15,16,17] mixed (by kernel_rfl) fun l b=>?_)))
  have ay:=(((o.trans X).tb Y F O).tb Z I P).trans b
  refine Ga rfl (.field0 fa61_0 rfl) ?_
  have az:=((aw.cn Z (by have:=i.lt;omega)).le b)
  refine Gd rfl (.loadB (v:= .slice An1 nn1 cn1) na59 rfl az rfl) (Ga rfl (.field0 fa61_1 rfl) ?_)
  have aA:=(ax.le b)
  refine Gd rfl (.loadB (v:= .slice aq ((digs 1).length) ar) na59 rfl aA rfl) (Ga rfl (.field0 fa61_0 rfl) (Gd rfl (.loadB (v:= .slice a0 ((digs 0).length) a1) na59 rfl aA rfl) (Ga rfl (.field0 fa61_1 rfl) (Gd rfl (.loadB (v:= .slice Ad1 nd1 cd1) na59 rfl az rfl) (Ga rfl (.field0 fa61_1 rfl) ?_)))))
  refine Gd rfl (.loadB (v:= .slice Ad1 nd1 cd1) na59 rfl az rfl) (Ga rfl (.field0 fa61_1 rfl) (Gd rfl (.loadB (v:= .slice aq ((digs 1).length) ar) na59 rfl aA rfl) ?_))
  have a2:=(((av.cb Y (av.rl (by have:=c.lt;have:=f.size;omega))).cb Z (av.rl (by have:=e.lt;have:=f.size;omega))).le b)
  refine G.ef rfl rfl rfl rfl rfl (Ef.call go182 rfl rfl (nmul_ok l (hn1.le ay) a2.vec (by omega) (by omega)) ?_)
  rintro _ bs ⟨b3,b4,rfl,bt,aa⟩
  refine⟨_,rfl,?_⟩
  refine⟨fun _=>aa,?_⟩
  have aB:=ay.trans aa
  refine G.ef rfl rfl rfl rfl rfl (Ef.call go182 rfl rfl (nmul_ok bs (((au.cb Y (au.rl (by have:=c.lt;have:=f.size;omega))).cb Z (au.rl (by have:=e.lt;have:=f.size;omega))).le (b.trans aa)).vec (hd1.le aB) (by omega) (by omega)) ?_)
  rintro _ bu ⟨b5,b6,rfl,bv,ab⟩
  refine⟨_,rfl,?_⟩
  refine⟨fun _=>ab,?_⟩
  have aC:=aB.trans ab
  refine G.ef rfl rfl rfl rfl rfl (Ef.call go182 rfl rfl (nmul_ok bu (hd1.le aC) (a2.le (aa.trans ab)).vec (by omega) (by omega)) ?_)
  rintro _ b7 ⟨b8,b9,rfl,bw,ac⟩
  refine⟨_,rfl,?_⟩
  refine⟨fun _=>ac,?_⟩
  refine Gn 3 rfl (G.nil (E.thenN (Rt (E.retG3 rfl rfl rfl rfl ?_))))
  rw[K,k]
  exact⟨_,_,_,_,_,_,rfl,((bt.le (ab.trans ac)).mono ay.size),((bv.le ac).mono aB.size),(bw.mono aC.size),(aC.trans ac)⟩
 have K:takF ⟨p1,q1⟩=⟨0,1⟩:=if_neg Q
 refine G.ef rfl rfl rfl rfl rfl (Ef.call go165 rfl rfl (ftaken_no w1 (hn1.le m) (hd1.le m) (by omega) (by omega) Q) ?_)
 rintro _ a3 ⟨ad,ae,s,t,rfl,u,x,h⟩
 refine⟨_,rfl,?_⟩
 refine⟨fun _=>h,?_⟩
 have y:=m.trans h
 by_cases j:(okB p2 q2)=true
 ·have k:takF ⟨p2,q2⟩=⟨p2,q2⟩:=if_pos j
  refine G.ef rfl rfl rfl rfl rfl (Ef.call go165 rfl rfl (ftaken_yes a3 (hn2.le y) (hd2.le y) (by omega) (by omega) j) ?_)
  rintro _ ca ⟨rfl,z⟩
  refine⟨_,rfl,?_⟩
  refine⟨fun _=>z,?_⟩
  refine G.ef0 rfl rfl rfl rfl (Ef.storeAll sz61 (by rfl) rfl rfl (c.le (h.trans z)) (by rfl) (by simp[Value.oneCell']) ?_)
  intro bx aE af
  refine noT (by kernel_rfl) ?_
  have aE:Blk bx H 61 #[.slice ad ((digs 0).length) ae,.slice s ((digs 1).length) t]:=aE
  have bz:=((e.le (h.trans z)).cn af (by have:=i.lt;omega))
  refine G.ef0 rfl rfl rfl rfl (Ef.storeAll sz61 (by rfl) rfl rfl bz (by rfl) (by simp[Value.oneCell']) ?_)
  intro bA aF ah
  refine noT (by kernel_rfl) ?_
  have aF:Blk bA J 61 #[.slice An2 nn2 cn2,.slice Ad2 nd2 cd2]:=aF
  refine G.nil (E.thenN (Sq (WC.draw [0,1,2,3,5,6,7,8,10,11,12,13,4,9,14,15,16,17] mixed (by kernel_rfl) fun l b=>?_)))
  have aG:=(((y.trans z).tb af F O).tb ah I P).trans b
  refine Ga rfl (.field0 fa61_0 rfl) ?_
  have aH:=((aE.cn ah (by have:=i.lt;omega)).le b)
  refine Gd rfl (.loadB (v:= .slice ad ((digs 0).length) ae) na59 rfl aH rfl) (Ga rfl (.field0 fa61_1 rfl) ?_)
  have aI:=(aF.le b)
  refine Gd rfl (.loadB (v:= .slice Ad2 nd2 cd2) na59 rfl aI rfl) (Ga rfl (.field0 fa61_0 rfl) (Gd rfl (.loadB (v:= .slice An2 nn2 cn2) na59 rfl aI rfl) (Ga rfl (.field0 fa61_1 rfl) (Gd rfl (.loadB (v:= .slice s ((digs 1).length) t) na59 rfl aH rfl) (Ga rfl (.field0 fa61_1 rfl) ?_)))))
  refine Gd rfl (.loadB (v:= .slice s ((digs 1).length) t) na59 rfl aH rfl) (Ga rfl (.field0 fa61_1 rfl) (Gd rfl (.loadB (v:= .slice Ad2 nd2 cd2) na59 rfl aI rfl) (G.ef rfl rfl rfl rfl rfl (Ef.call go182 rfl rfl (nmul_ok l ((((u.le z).cb af (u.rl (by have:=c.lt;omega))).cb ah (u.rl (by have:=e.lt;omega))).le b).vec (hd2.le aG) (by omega) (by omega)) ?_))))
  rintro _ bB ⟨cc,cd,rfl,bC,aJ⟩
  refine⟨_,rfl,?_⟩
  refine⟨fun _=>aJ,?_⟩
  have aK:=aG.trans aJ
  have a4:=((((x.le z).cb af (x.rl (by have:=c.lt;omega))).cb ah (x.rl (by have:=e.lt;omega))).le (b.trans aJ))
  refine G.ef rfl rfl rfl rfl rfl (Ef.call go182 rfl rfl (nmul_ok bB (hn2.le aK) a4.vec (by omega) (by omega)) ?_)
  rintro _ bD ⟨ce,cf,rfl,bE,ai⟩
  refine⟨_,rfl,?_⟩
  refine⟨fun _=>ai,?_⟩
  have aL:=aK.trans ai
  refine G.ef rfl rfl rfl rfl rfl (Ef.call go182 rfl rfl (nmul_ok bD (a4.le ai).vec (hd2.le aL) (by omega) (by omega)) ?_)
  rintro _ cg ⟨ci,cj,rfl,bF,aj⟩
  refine⟨_,rfl,?_⟩
  refine⟨fun _=>aj,?_⟩
  refine Gn 3 rfl (G.nil (E.thenN (Rt (E.retG3 rfl rfl rfl rfl ?_))))
  rw[K,k]
  exact⟨_,_,_,_,_,_,rfl,((bC.le (ai.trans aj)).mono aG.size),((bE.le aj).mono aK.size),(bF.mono aL.size),(aL.trans aj)⟩
 have k:takF ⟨p2,q2⟩=⟨0,1⟩:=if_neg j
 refine G.ef rfl rfl rfl rfl rfl (Ef.call go165 rfl rfl (ftaken_no a3 (hn2.le y) (hd2.le y) (by omega) (by omega) j) ?_)
 rintro _ ck ⟨a5,a6,aM,aO,rfl,aP,aQ,A⟩
 refine⟨_,rfl,?_⟩
 refine⟨fun _=>A,?_⟩
 refine G.ef0 rfl rfl rfl rfl (Ef.storeAll sz61 (by rfl) rfl rfl (c.le (h.trans A)) (by rfl) (by simp[Value.oneCell']) ?_)
 intro bG aR C
 refine noT (by kernel_rfl) ?_
 have aR:Blk bG H 61 #[.slice ad ((digs 0).length) ae,.slice s ((digs 1).length) t]:=aR
 have bH:=((e.le (h.trans A)).cn C (by have:=i.lt;omega))
 refine G.ef0 rfl rfl rfl rfl (Ef.storeAll sz61 (by rfl) rfl rfl bH (by rfl) (by simp[Value.oneCell']) ?_)
 intro bI aS D
 refine noT (by kernel_rfl) ?_
 have aS:Blk bI J 61 #[.slice a5 ((digs 0).length) a6,.slice aM ((digs 1).length) aO]:=aS
 refine G.nil (E.thenN (Sq (WC.draw [0,1,2,3,5,6,7,8,10,11,12,13,4,9,14,15,16,17] mixed (by kernel_rfl) fun l b=>?_)))
 have a7:=(((y.trans A).tb C F O).tb D I P).trans b
 refine Ga rfl (.field0 fa61_0 rfl) ?_
 have aT:=((aR.cn D (by have:=i.lt;omega)).le b)
 refine Gd rfl (.loadB (v:= .slice ad ((digs 0).length) ae) na59 rfl aT rfl) (Ga rfl (.field0 fa61_1 rfl) ?_)
 have aU:=(aS.le b)
 refine Gd rfl (.loadB (v:= .slice aM ((digs 1).length) aO) na59 rfl aU rfl) (Ga rfl (.field0 fa61_0 rfl) (Gd rfl (.loadB (v:= .slice a5 ((digs 0).length) a6) na59 rfl aU rfl) (Ga rfl (.field0 fa61_1 rfl) (Gd rfl (.loadB (v:= .slice s ((digs 1).length) t) na59 rfl aT rfl) (Ga rfl (.field0 fa61_1 rfl) ?_)))))
 refine Gd rfl (.loadB (v:= .slice s ((digs 1).length) t) na59 rfl aT rfl) (Ga rfl (.field0 fa61_1 rfl) (Gd rfl (.loadB (v:= .slice aM ((digs 1).length) aO) na59 rfl aU rfl) ?_))
 have a8:=(((aQ.cb C (aQ.rl (by have:=c.lt;have:=h.size;omega))).cb D (aQ.rl (by have:=e.lt;have:=h.size;omega))).le b)
 refine G.ef rfl rfl rfl rfl rfl (Ef.call go182 rfl rfl (nmul_ok l ((((u.le A).cb C (u.rl (by have:=c.lt;omega))).cb D (u.rl (by have:=e.lt;omega))).le b).vec a8.vec (by omega) (by omega)) ?_)
 rintro _ bJ ⟨cm,co,rfl,bK,L⟩
 refine⟨_,rfl,?_⟩
 refine⟨fun _=>L,?_⟩
 have a9:=a7.trans L
 have ba:=((((x.le A).cb C (x.rl (by have:=c.lt;omega))).cb D (x.rl (by have:=e.lt;omega))).le (b.trans L))
 refine G.ef rfl rfl rfl rfl rfl (Ef.call go182 rfl rfl (nmul_ok bJ (((aP.cb C (aP.rl (by have:=c.lt;have:=h.size;omega))).cb D (aP.rl (by have:=e.lt;have:=h.size;omega))).le (b.trans L)).vec ba.vec (by omega) (by omega)) ?_)
 rintro _ bL ⟨cp,cq,rfl,bM,N⟩
 refine⟨_,rfl,?_⟩
 refine⟨fun _=>N,?_⟩
 have bb:=a9.trans N
 refine G.ef rfl rfl rfl rfl rfl (Ef.call go182 rfl rfl (nmul_ok bL (ba.le N).vec (a8.le (L.trans N)).vec (by omega) (by omega)) ?_)
 rintro _ cr ⟨cs,ct,rfl,bN,ak⟩
 refine⟨_,rfl,?_⟩
 refine⟨fun _=>ak,?_⟩
 refine Gn 3 rfl (G.nil (E.thenN (Rt (E.retG3 rfl rfl rfl rfl ?_))))
 rw[K,k]
 exact⟨_,_,_,_,_,_,rfl,((bK.le (N.trans ak)).mono a7.size),((bM.le ak).mono a9.size),(bN.mono bb.size),(bb.trans ak)⟩

theorem fcmp_ok {An1 Ad1:Option Addr}{nn1 cn1 nd1 cd1 p1 q1:Nat}{An2 Ad2:Option Addr}{nn2 cn2 nd2 cd2 p2 q2:Nat}(w:World)(hn1:Vec w dv 1 An1 nn1 (digs p1))(hd1:Vec w dv 1 Ad1 nd1 (digs q1))(bn1:nn1<=10000)(bd1:nd1<=10000)(hn2:Vec w dv 1 An2 nn2 (digs p2))(hd2:Vec w dv 1 Ad2 nd2 (digs q2))(bn2:nn2<=10000)(bd2:nd2<=10000):Calls prog 41 #[.agg #[.slice An1 nn1 cn1,.slice Ad1 nd1 cd1],.agg #[.slice An2 nn2 cn2,.slice Ad2 nd2 cd2]] w fun r w'=>r= .returned (.int .i64 (cmpF (takF ⟨p1,q1⟩) (takF ⟨p2,q2⟩)))/\Le w w':=by
 have y:=hn1.1;have z:=hd1.1
 have A:=hn2.1;have C:=hd2.1
 have D:=digs_len_one (d:=1) (by decide)
 have F:=digs_len_0
 refine enter func41 rfl rfl (Sr (W.ef rfl rfl rfl (Ef.boxA rfl fun f h H (i:Blk h f 61 #[.slice An1 nn1 cn1,.slice Ad1 nd1 cd1]) j=>(W.ef rfl rfl rfl (Ef.boxA rfl fun k c I (l:Blk c k 61 #[.slice An2 nn2 cn2,.slice Ad2 nd2 cd2]) e=>?_)))))
 have b:=((Le.refl w).trans j).trans e
 refine Wn 1 rfl (Nx (Sr (Wr (.loadAll ag61 (by rfl) rfl (i.le e)) rfl ?_)))
 refine Wr (.loadAll ag61 (by rfl) rfl l) rfl ?_
 refine W.cl go112 rfl rfl (fcross_ok c (hn1.le b) (hd1.le b) (by omega) (by omega) (hn2.le b) (hd2.le b) (by omega) (by omega)) ?_
 rintro _ m ⟨J,K,L,N,O,P,rfl,o,s,Q,t⟩
 have R:=digs_mul_len (takF (⟨p1,q1⟩:Fr)).n (takF (⟨p2,q2⟩:Fr)).d;have S:=digs_mul_len (takF (⟨p2,q2⟩:Fr)).n (takF (⟨p1,q1⟩:Fr)).d;have u:=takF_len (⟨p1,q1⟩:Fr);have v:=takF_len (⟨p2,q2⟩:Fr)
 simp only at u v
 refine Wn 7 rfl (Nx (Sr (Wn 2 rfl (W.cl go109 rfl rfl (ncmp_ok m o.vec s.vec (by omega) (by omega)) ?_))))
 rintro _ T ⟨rfl,x⟩
 refine Wn 1 rfl (Nx (Rt (E.retG1 rfl rfl ?_)))
 exact⟨rfl,((b.trans t).trans x)⟩

theorem frcmul_ok {An1 Ad1:Option Addr}{nn1 cn1 nd1 cd1 p1 q1:Nat}{An2 Ad2:Option Addr}{nn2 cn2 nd2 cd2 p2 q2:Nat}(w:World)(hn1:Vec w dv 1 An1 nn1 (digs p1))(hd1:Vec w dv 1 Ad1 nd1 (digs q1))(bn1:nn1<=10000)(bd1:nd1<=10000)(hn2:Vec w dv 1 An2 nn2 (digs p2))(hd2:Vec w dv 1 Ad2 nd2 (digs q2))(bn2:nn2<=10000)(bd2:nd2<=10000):Calls prog 88 #[.agg #[.slice An1 nn1 cn1,.slice Ad1 nd1 cd1],.agg #[.slice An2 nn2 cn2,.slice Ad2 nd2 cd2]] w fun r w'=>∃A1 c1 A2 c2,r= .returned (.agg #[.slice A1 (digs (mulF (takF ⟨p1,q1⟩) (takF ⟨p2,q2⟩)).n).length c1,.slice A2 (digs (mulF (takF ⟨p1,q1⟩) (takF ⟨p2,q2⟩)).d).length c2])/\OVec w' w.heap.size 273 dv 1 A1 (digs (mulF (takF ⟨p1,q1⟩) (takF ⟨p2,q2⟩)).n).length c1 (digs (mulF (takF ⟨p1,q1⟩) (takF ⟨p2,q2⟩)).n)/\OVec w' w.heap.size 273 dv 1 A2 (digs (mulF (takF ⟨p1,q1⟩) (takF ⟨p2,q2⟩)).d).length c2 (digs (mulF (takF ⟨p1,q1⟩) (takF ⟨p2,q2⟩)).d)/\Le w w':=by
 have cv:=hn1.1;have cw:=hd1.1
 have cx:=hn2.1;have cy:=hd2.1
 have cz:=digs_len_one (d:=1) (by decide)
 have cA:=digs_len_0
 have bu:=(takF_ok ⟨p1,q1⟩).1;have bv:=(takF_ok ⟨p2,q2⟩).1
 have hdp:=Nat.mul_pos bu bv
 refine enter func88 rfl rfl ?_
 have Z:=Le.refl w
 refine Sr (W.ef rfl rfl rfl (Ef.boxA rfl fun aa bw ai (i:Blk bw aa 61 #[.slice An1 nn1 cn1,.slice Ad1 nd1 cd1]) bx=>?_))
 have L1:=Z.trans bx
 refine W.ef rfl rfl rfl (Ef.boxA rfl fun ab bz aj (ac:Blk bz ab 61 #[.slice An2 nn2 cn2,.slice Ad2 nd2 cd2]) L=>?_)
 have L2:=L1.trans L
 refine W.ef rfl rfl rfl (Ef.allocA z61 fun ad bA ak (m:Blk bA ad 61 #[.slice none 0 0,.slice none 0 0]) aq=>(Nx (Sq (WC.draw [0,2,1,3,4,5] mixed (by kernel_rfl) fun w1 f=>?_))))
 have N:=(L2.trans aq).trans f
 have j:=(i.le (L.trans (aq.trans f)))
 refine Gd rfl (.loadAll ag61 (by rfl) rfl j) ?_
 have k:=(ac.le (aq.trans f))
 refine Gd rfl (.loadAll ag61 (by rfl) rfl k) ?_
 by_cases al:(okB p1 q1)=true
 ·have l:takF ⟨p1,q1⟩=⟨p1,q1⟩:=if_pos al
  refine G.ef rfl rfl rfl rfl rfl (Ef.call go165 rfl rfl (ftaken_yes w1 (hn1.le N) (hd1.le N) (by omega) (by omega) al) ?_)
  rintro _ aZ ⟨rfl,c⟩
  refine⟨_,rfl,?_⟩
  refine⟨fun _=>c,?_⟩
  have O:=N.trans c
  by_cases t:(okB p2 q2)=true
  ·have h:takF ⟨p2,q2⟩=⟨p2,q2⟩:=if_pos t
   refine G.ef rfl rfl rfl rfl rfl (Ef.call go165 rfl rfl (ftaken_yes aZ (hn2.le O) (hd2.le O) (by omega) (by omega) t) ?_)
   rintro _ cB ⟨rfl,A⟩
   refine⟨_,rfl,?_⟩
   refine⟨fun _=>A,?_⟩
   refine G.ef0 rfl rfl rfl rfl (Ef.storeAll sz61 (by rfl) rfl rfl (j.le (c.trans A)) (by rfl) (by simp[Value.oneCell']) ?_)
   intro bB ar ae
   refine noT (by kernel_rfl) ?_
   have ar:Blk bB aa 61 #[.slice An1 nn1 cn1,.slice Ad1 nd1 cd1]:=ar
   have bC:=((k.le (c.trans A)).cn ae (by have:=i.lt;omega))
   refine G.ef0 rfl rfl rfl rfl (Ef.storeAll sz61 (by rfl) rfl rfl bC (by rfl) (by simp[Value.oneCell']) ?_)
   intro bD au af
   refine noT (by kernel_rfl) ?_
   have au:Blk bD ab 61 #[.slice An2 nn2 cn2,.slice Ad2 nd2 cd2]:=au
   refine G.nil (E.thenN (Sq (WC.draw [0,1,2,3,5,6,7,8,4,9,10,11] mixed (by kernel_rfl) fun C b=>?_)))
   have av:=(((O.trans A).tb ae Z ai).tb af L1 aj).trans b
   refine Ga rfl (.field0 fa61_0 rfl) ?_
   have a0:=((ar.cn af (by have:=i.lt;omega)).le b)
   refine Gd rfl (.loadB (v:= .slice An1 nn1 cn1) na59 rfl a0 rfl) (Ga rfl (.field0 fa61_0 rfl) ?_)
   have a1:=(au.le b)
   refine Gd rfl (.loadB (v:= .slice An2 nn2 cn2) na59 rfl a1 rfl) (Ga rfl (.field0 fa61_1 rfl) (Gd rfl (.loadB (v:= .slice Ad1 nd1 cd1) na59 rfl a0 rfl) (Ga rfl (.field0 fa61_1 rfl) (Gd rfl (.loadB (v:= .slice Ad2 nd2 cd2) na59 rfl a1 rfl) ?_))))
   have o:=digs_mul_len (takF ⟨p1,q1⟩).n (takF ⟨p2,q2⟩).n;have s:=digs_mul_len (takF ⟨p1,q1⟩).d (takF ⟨p2,q2⟩).d
   rw[l,h]at o s
   simp only at o s
   refine G.ef rfl rfl rfl rfl rfl (Ef.call go182 rfl rfl (nmul_ok C (hn1.le av) (hn2.le av) (by omega) (by omega)) ?_)
   rintro _ bE ⟨cC,cD,rfl,bF,ah⟩
   refine⟨_,rfl,?_⟩
   refine⟨fun _=>ah,?_⟩
   have aw:=av.trans ah
   refine G.ef rfl rfl rfl rfl rfl (Ef.call go182 rfl rfl (nmul_ok bE (hd1.le aw) (hd2.le aw) (by omega) (by omega)) ?_)
   rintro _ bG ⟨cE,cF,rfl,bH,P⟩
   refine⟨_,rfl,?_⟩
   refine⟨fun _=>P,?_⟩
   have ax:=aw.trans P
   refine G.ef rfl rfl rfl rfl rfl (Ef.call go106 rfl rfl (flow_ok bG (bF.le P).vec bH.vec (by rw[l,h]at hdp;exact hdp) (by omega) (by omega)) ?_)
   rintro _ cG ⟨bI,bJ,bK,bL,rfl,a2,a3,ay⟩
   refine⟨_,rfl,?_⟩
   refine⟨fun _=>ay,?_⟩
   have bM:=((((m.le (f.trans (c.trans A))).cn ae (by have:=i.lt;have:=L.size;omega)).cn af (by have:=ac.lt;omega)).le (b.trans (ah.trans (P.trans ay))))
   refine G.ef0 rfl rfl rfl rfl (Ef.storeAll sz61 (by rfl) rfl rfl bM (by rfl) (by simp[Value.oneCell']) ?_)
   intro bN az aA
   refine noT (by kernel_rfl) ?_
   have az:Blk bN ad 61 #[.slice bI ((digs ((lowF (p1*p2) (q1*q2)).n)).length) bJ,.slice bK ((digs ((lowF (p1*p2) (q1*q2)).d)).length) bL]:=az
   refine G.nil (E.thenN (Rt (E.retG1 rfl (resA rfl az ag61 (by rfl)) ?_)))
   rw[l,h]
   exact⟨_,_,_,_,rfl,((a2.cb aA (a2.rl (by have:=m.lt;have:=f.size;have:=c.size;have:=A.size;have:=ae.size;have:=af.size;have:=b.size;have:=ah.size;have:=P.size;omega))).mono ax.size),((a3.cb aA (a3.rl (by have:=m.lt;have:=f.size;have:=c.size;have:=A.size;have:=ae.size;have:=af.size;have:=b.size;have:=ah.size;have:=P.size;omega))).mono ax.size),((ax.trans ay).tb aA L2 ak)⟩
  have h:takF ⟨p2,q2⟩=⟨0,1⟩:=if_neg t
  refine G.ef rfl rfl rfl rfl rfl (Ef.call go165 rfl rfl (ftaken_no aZ (hn2.le O) (hd2.le O) (by omega) (by omega) t) ?_)
  rintro _ cH ⟨a4,a5,a6,a7,rfl,aB,aC,D⟩
  refine⟨_,rfl,?_⟩
  refine⟨fun _=>D,?_⟩
  refine G.ef0 rfl rfl rfl rfl (Ef.storeAll sz61 (by rfl) rfl rfl (j.le (c.trans D)) (by rfl) (by simp[Value.oneCell']) ?_)
  intro bO aE F
  refine noT (by kernel_rfl) ?_
  have aE:Blk bO aa 61 #[.slice An1 nn1 cn1,.slice Ad1 nd1 cd1]:=aE
  have bP:=((k.le (c.trans D)).cn F (by have:=i.lt;omega))
  refine G.ef0 rfl rfl rfl rfl (Ef.storeAll sz61 (by rfl) rfl rfl bP (by rfl) (by simp[Value.oneCell']) ?_)
  intro bQ aF H
  refine noT (by kernel_rfl) ?_
  have aF:Blk bQ ab 61 #[.slice a4 ((digs 0).length) a5,.slice a6 ((digs 1).length) a7]:=aF
  refine G.nil (E.thenN (Sq (WC.draw [0,1,2,3,5,6,7,8,4,9,10,11] mixed (by kernel_rfl) fun C b=>?_)))
  have a8:=(((O.trans D).tb F Z ai).tb H L1 aj).trans b
  refine Ga rfl (.field0 fa61_0 rfl) ?_
  have a9:=((aE.cn H (by have:=i.lt;omega)).le b)
  refine Gd rfl (.loadB (v:= .slice An1 nn1 cn1) na59 rfl a9 rfl) (Ga rfl (.field0 fa61_0 rfl) ?_)
  have ba:=(aF.le b)
  refine Gd rfl (.loadB (v:= .slice a4 ((digs 0).length) a5) na59 rfl ba rfl) (Ga rfl (.field0 fa61_1 rfl) (Gd rfl (.loadB (v:= .slice Ad1 nd1 cd1) na59 rfl a9 rfl) (Ga rfl (.field0 fa61_1 rfl) (Gd rfl (.loadB (v:= .slice a6 ((digs 1).length) a7) na59 rfl ba rfl) ?_))))
  have o:=digs_mul_len (takF ⟨p1,q1⟩).n (takF ⟨p2,q2⟩).n;have s:=digs_mul_len (takF ⟨p1,q1⟩).d (takF ⟨p2,q2⟩).d
  rw[l,h]at o s
  simp only at o s
  refine G.ef rfl rfl rfl rfl rfl (Ef.call go182 rfl rfl (nmul_ok C (hn1.le a8) (((aB.cb F (aB.rl (by have:=j.lt;have:=c.size;omega))).cb H (aB.rl (by have:=k.lt;have:=c.size;omega))).le b).vec (by omega) (by omega)) ?_)
  rintro _ bR ⟨cI,cJ,rfl,bS,Q⟩
  refine⟨_,rfl,?_⟩
  refine⟨fun _=>Q,?_⟩
  have bb:=a8.trans Q
  refine G.ef rfl rfl rfl rfl rfl (Ef.call go182 rfl rfl (nmul_ok bR (hd1.le bb) (((aC.cb F (aC.rl (by have:=j.lt;have:=c.size;omega))).cb H (aC.rl (by have:=k.lt;have:=c.size;omega))).le (b.trans Q)).vec (by omega) (by omega)) ?_)
  rintro _ bT ⟨cK,cL,rfl,bU,R⟩
  refine⟨_,rfl,?_⟩
  refine⟨fun _=>R,?_⟩
  have aG:=bb.trans R
  refine G.ef rfl rfl rfl rfl rfl (Ef.call go106 rfl rfl (flow_ok bT (bS.le R).vec bU.vec (by rw[l,h]at hdp;exact hdp) (by omega) (by omega)) ?_)
  rintro _ cM ⟨bV,bW,bX,bY,rfl,bc,bd,aH⟩
  refine⟨_,rfl,?_⟩
  refine⟨fun _=>aH,?_⟩
  have bZ:=((((m.le (f.trans (c.trans D))).cn F (by have:=i.lt;have:=L.size;omega)).cn H (by have:=ac.lt;omega)).le (b.trans (Q.trans (R.trans aH))))
  refine G.ef0 rfl rfl rfl rfl (Ef.storeAll sz61 (by rfl) rfl rfl bZ (by rfl) (by simp[Value.oneCell']) ?_)
  intro b0 aI aJ
  refine noT (by kernel_rfl) ?_
  have aI:Blk b0 ad 61 #[.slice bV ((digs ((lowF (p1*0) (q1*1)).n)).length) bW,.slice bX ((digs ((lowF (p1*0) (q1*1)).d)).length) bY]:=aI
  refine G.nil (E.thenN (Rt (E.retG1 rfl (resA rfl aI ag61 (by rfl)) ?_)))
  rw[l,h]
  exact⟨_,_,_,_,rfl,((bc.cb aJ (bc.rl (by have:=m.lt;have:=f.size;have:=c.size;have:=D.size;have:=F.size;have:=H.size;have:=b.size;have:=Q.size;have:=R.size;omega))).mono aG.size),((bd.cb aJ (bd.rl (by have:=m.lt;have:=f.size;have:=c.size;have:=D.size;have:=F.size;have:=H.size;have:=b.size;have:=Q.size;have:=R.size;omega))).mono aG.size),((aG.trans aH).tb aJ L2 ak)⟩
 have l:takF ⟨p1,q1⟩=⟨0,1⟩:=if_neg al
 refine G.ef rfl rfl rfl rfl rfl (Ef.call go165 rfl rfl (ftaken_no w1 (hn1.le N) (hd1.le N) (by omega) (by omega) al) ?_)
 rintro _ be ⟨am,an,ao,ap,rfl,S,T,e⟩
 refine⟨_,rfl,?_⟩
 refine⟨fun _=>e,?_⟩
 have U:=N.trans e
 by_cases t:(okB p2 q2)=true
 ·have h:takF ⟨p2,q2⟩=⟨p2,q2⟩:=if_pos t
  refine G.ef rfl rfl rfl rfl rfl (Ef.call go165 rfl rfl (ftaken_yes be (hn2.le U) (hd2.le U) (by omega) (by omega) t) ?_)
  rintro _ cN ⟨rfl,u⟩
  refine⟨_,rfl,?_⟩
  refine⟨fun _=>u,?_⟩
  refine G.ef0 rfl rfl rfl rfl (Ef.storeAll sz61 (by rfl) rfl rfl (j.le (e.trans u)) (by rfl) (by simp[Value.oneCell']) ?_)
  intro b1 aK I
  refine noT (by kernel_rfl) ?_
  have aK:Blk b1 aa 61 #[.slice am ((digs 0).length) an,.slice ao ((digs 1).length) ap]:=aK
  have b2:=((k.le (e.trans u)).cn I (by have:=i.lt;omega))
  refine G.ef0 rfl rfl rfl rfl (Ef.storeAll sz61 (by rfl) rfl rfl b2 (by rfl) (by simp[Value.oneCell']) ?_)
  intro b3 aL J
  refine noT (by kernel_rfl) ?_
  have aL:Blk b3 ab 61 #[.slice An2 nn2 cn2,.slice Ad2 nd2 cd2]:=aL
  refine G.nil (E.thenN (Sq (WC.draw [0,1,2,3,5,6,7,8,4,9,10,11] mixed (by kernel_rfl) fun C b=>?_)))
  have bf:=(((U.trans u).tb I Z ai).tb J L1 aj).trans b
  refine Ga rfl (.field0 fa61_0 rfl) ?_
  have bg:=((aK.cn J (by have:=i.lt;omega)).le b)
  refine Gd rfl (.loadB (v:= .slice am ((digs 0).length) an) na59 rfl bg rfl) (Ga rfl (.field0 fa61_0 rfl) ?_)
  have bh:=(aL.le b)
  refine Gd rfl (.loadB (v:= .slice An2 nn2 cn2) na59 rfl bh rfl) (Ga rfl (.field0 fa61_1 rfl) (Gd rfl (.loadB (v:= .slice ao ((digs 1).length) ap) na59 rfl bg rfl) (Ga rfl (.field0 fa61_1 rfl) (Gd rfl (.loadB (v:= .slice Ad2 nd2 cd2) na59 rfl bh rfl) ?_))))
  have o:=digs_mul_len (takF ⟨p1,q1⟩).n (takF ⟨p2,q2⟩).n;have s:=digs_mul_len (takF ⟨p1,q1⟩).d (takF ⟨p2,q2⟩).d
  rw[l,h]at o s
  simp only at o s
  refine G.ef rfl rfl rfl rfl rfl (Ef.call go182 rfl rfl (nmul_ok C ((((S.le u).cb I (S.rl (by have:=j.lt;omega))).cb J (S.rl (by have:=k.lt;omega))).le b).vec (hn2.le bf) (by omega) (by omega)) ?_)
  rintro _ b4 ⟨cO,cP,rfl,b5,V⟩
  refine⟨_,rfl,?_⟩
  refine⟨fun _=>V,?_⟩
  have bi:=bf.trans V
  refine G.ef rfl rfl rfl rfl rfl (Ef.call go182 rfl rfl (nmul_ok b4 ((((T.le u).cb I (T.rl (by have:=j.lt;omega))).cb J (T.rl (by have:=k.lt;omega))).le (b.trans V)).vec (hd2.le bi) (by omega) (by omega)) ?_)
  rintro _ b6 ⟨cQ,cR,rfl,b7,X⟩
  refine⟨_,rfl,?_⟩
  refine⟨fun _=>X,?_⟩
  have aM:=bi.trans X
  refine G.ef rfl rfl rfl rfl rfl (Ef.call go106 rfl rfl (flow_ok b6 (b5.le X).vec b7.vec (by rw[l,h]at hdp;exact hdp) (by omega) (by omega)) ?_)
  rintro _ cS ⟨b8,b9,ca,cc,rfl,bj,bk,aO⟩
  refine⟨_,rfl,?_⟩
  refine⟨fun _=>aO,?_⟩
  have cd:=((((m.le (f.trans (e.trans u))).cn I (by have:=i.lt;have:=L.size;omega)).cn J (by have:=ac.lt;omega)).le (b.trans (V.trans (X.trans aO))))
  refine G.ef0 rfl rfl rfl rfl (Ef.storeAll sz61 (by rfl) rfl rfl cd (by rfl) (by simp[Value.oneCell']) ?_)
  intro ce aP aQ
  refine noT (by kernel_rfl) ?_
  have aP:Blk ce ad 61 #[.slice b8 ((digs ((lowF (0*p2) (1*q2)).n)).length) b9,.slice ca ((digs ((lowF (0*p2) (1*q2)).d)).length) cc]:=aP
  refine G.nil (E.thenN (Rt (E.retG1 rfl (resA rfl aP ag61 (by rfl)) ?_)))
  rw[l,h]
  exact⟨_,_,_,_,rfl,((bj.cb aQ (bj.rl (by have:=m.lt;have:=f.size;have:=e.size;have:=u.size;have:=I.size;have:=J.size;have:=b.size;have:=V.size;have:=X.size;omega))).mono aM.size),((bk.cb aQ (bk.rl (by have:=m.lt;have:=f.size;have:=e.size;have:=u.size;have:=I.size;have:=J.size;have:=b.size;have:=V.size;have:=X.size;omega))).mono aM.size),((aM.trans aO).tb aQ L2 ak)⟩
 have h:takF ⟨p2,q2⟩=⟨0,1⟩:=if_neg t
 refine G.ef rfl rfl rfl rfl rfl (Ef.call go165 rfl rfl (ftaken_no be (hn2.le U) (hd2.le U) (by omega) (by omega) t) ?_)
 rintro _ cT ⟨bl,bm,bn,bo,rfl,aR,aS,x⟩
 refine⟨_,rfl,?_⟩
 refine⟨fun _=>x,?_⟩
 refine G.ef0 rfl rfl rfl rfl (Ef.storeAll sz61 (by rfl) rfl rfl (j.le (e.trans x)) (by rfl) (by simp[Value.oneCell']) ?_)
 intro cf aT y
 refine noT (by kernel_rfl) ?_
 have aT:Blk cf aa 61 #[.slice am ((digs 0).length) an,.slice ao ((digs 1).length) ap]:=aT
 have cg:=((k.le (e.trans x)).cn y (by have:=i.lt;omega))
 refine G.ef0 rfl rfl rfl rfl (Ef.storeAll sz61 (by rfl) rfl rfl cg (by rfl) (by simp[Value.oneCell']) ?_)
 intro ci aU z
 refine noT (by kernel_rfl) ?_
 have aU:Blk ci ab 61 #[.slice bl ((digs 0).length) bm,.slice bn ((digs 1).length) bo]:=aU
 refine G.nil (E.thenN (Sq (WC.draw [0,1,2,3,5,6,7,8,4,9,10,11] mixed (by kernel_rfl) fun C b=>(Ga rfl (.field0 fa61_0 rfl) ?_))))
 have bp:=((aT.cn z (by have:=i.lt;omega)).le b)
 refine Gd rfl (.loadB (v:= .slice am ((digs 0).length) an) na59 rfl bp rfl) (Ga rfl (.field0 fa61_0 rfl) ?_)
 have bq:=(aU.le b)
 refine Gd rfl (.loadB (v:= .slice bl ((digs 0).length) bm) na59 rfl bq rfl) (Ga rfl (.field0 fa61_1 rfl) (Gd rfl (.loadB (v:= .slice ao ((digs 1).length) ap) na59 rfl bp rfl) (Ga rfl (.field0 fa61_1 rfl) (Gd rfl (.loadB (v:= .slice bn ((digs 1).length) bo) na59 rfl bq rfl) ?_))))
 have o:=digs_mul_len (takF ⟨p1,q1⟩).n (takF ⟨p2,q2⟩).n;have s:=digs_mul_len (takF ⟨p1,q1⟩).d (takF ⟨p2,q2⟩).d
 rw[l,h]at o s
 simp only at o s
 refine G.ef rfl rfl rfl rfl rfl (Ef.call go182 rfl rfl (nmul_ok C ((((S.le x).cb y (S.rl (by have:=j.lt;omega))).cb z (S.rl (by have:=k.lt;omega))).le b).vec (((aR.cb y (aR.rl (by have:=j.lt;have:=e.size;omega))).cb z (aR.rl (by have:=k.lt;have:=e.size;omega))).le b).vec (by omega) (by omega)) ?_)
 rintro _ cj ⟨cU,cV,rfl,ck,K⟩
 refine⟨_,rfl,?_⟩
 refine⟨fun _=>K,?_⟩
 refine G.ef rfl rfl rfl rfl rfl (Ef.call go182 rfl rfl (nmul_ok cj ((((T.le x).cb y (T.rl (by have:=j.lt;omega))).cb z (T.rl (by have:=k.lt;omega))).le (b.trans K)).vec (((aS.cb y (aS.rl (by have:=j.lt;have:=e.size;omega))).cb z (aS.rl (by have:=k.lt;have:=e.size;omega))).le (b.trans K)).vec (by omega) (by omega)) ?_)
 rintro _ cm ⟨cW,cX,rfl,co,Y⟩
 refine⟨_,rfl,?_⟩
 refine⟨fun _=>Y,?_⟩
 have aV:=(((((U.trans x).tb y Z ai).tb z L1 aj).trans b).trans K).trans Y
 refine G.ef rfl rfl rfl rfl rfl (Ef.call go106 rfl rfl (flow_ok cm (ck.le Y).vec co.vec (by rw[l,h]at hdp;exact hdp) (by omega) (by omega)) ?_)
 rintro _ cY ⟨cp,cq,cr,cs,rfl,bs,bt,aW⟩
 refine⟨_,rfl,?_⟩
 refine⟨fun _=>aW,?_⟩
 have ct:=((((m.le (f.trans (e.trans x))).cn y (by have:=i.lt;have:=L.size;omega)).cn z (by have:=ac.lt;omega)).le (b.trans (K.trans (Y.trans aW))))
 refine G.ef0 rfl rfl rfl rfl (Ef.storeAll sz61 (by rfl) rfl rfl ct (by rfl) (by simp[Value.oneCell']) ?_)
 intro cu aX aY
 refine noT (by kernel_rfl) ?_
 have aX:Blk cu ad 61 #[.slice cp ((digs ((lowF (0*0) (1*1)).n)).length) cq,.slice cr ((digs ((lowF (0*0) (1*1)).d)).length) cs]:=aX
 refine G.nil (E.thenN (Rt (E.retG1 rfl (resA rfl aX ag61 (by rfl)) ?_)))
 rw[l,h]
 exact⟨_,_,_,_,rfl,((bs.cb aY (bs.rl (by have:=m.lt;have:=f.size;have:=e.size;have:=x.size;have:=y.size;have:=z.size;have:=b.size;have:=K.size;have:=Y.size;omega))).mono aV.size),((bt.cb aY (bt.rl (by have:=m.lt;have:=f.size;have:=e.size;have:=x.size;have:=y.size;have:=z.size;have:=b.size;have:=K.size;have:=Y.size;omega))).mono aV.size),((aV.trans aW).tb aY L2 ak)⟩
end Go.Proofs.YtocheaahlpiajaaGreatDoor

namespace Go.Proofs.YtocheaahlpiajaaGreatDoor
open Tryz
open Go Go.Sx Go.Num Go.Gsp Go.Nsp Go.Msp
set_option maxRecDepth 20000
def wyV (k:Wy):List Value:=[.int .i64 k.f,.int .i64 k.c]
theorem wyV_row:RowF wyV 2:=⟨fun _=>rfl,fun x v hv=>by simp[wyV]at hv;rcases hv with rfl|rfl<;>rfl,by decide⟩
def ntV (n:Nt):List Value:=[.int .i64 n.lo,.int .i64 n.hi,.int .i64 n.rm]
theorem ntV_row:RowF ntV 3:=⟨fun _=>rfl,fun x v hv=>by simp[ntV]at hv;rcases hv with rfl|rfl|rfl<;>rfl,by decide⟩
def wyf (k:Wy):Value:= .agg (wyV k).toArray
def ntf (n:Nt):Value:= .agg (ntV n).toArray
abbrev MMl:=List (Nat×Wy×Nt)
theorem eqv_wyV {d:Nat}(a b:Wy):Eqv prog (d+2) 266 (.agg (wyV a).toArray) (.agg (wyV b).toArray) (decide (a=b)):=by
  have h:=Eqv.ints (P:=prog) (d:=d) (t:=266) (wyV a) (wyV b) [(.i64,0),(.i64,1)] (by kernel_rfl) (by kernel_rfl) (by
    rw[show(prog.fieldsOf 266)=_ from(by unfold Program.fieldsOf;rw[underlying266])]
    exact⟨by decide,rfl,underlying3,⟨_,_,rfl,rfl⟩,by decide,rfl,underlying3,⟨_,_,rfl,rfl⟩,trivial⟩)
  have e:eqAll (wyV a) (wyV b) [(.i64,0),(.i64,1)]=decide (a=b):=by
    obtain⟨c,f⟩:=a
    obtain⟨i,j⟩:=b
    simp only[eqAll,wyV,List.getElem?_cons_zero,List.getElem?_cons_succ]
    rw[Bool.eq_iff_iff]
    simp only[Bool.and_eq_true,decide_eq_true_eq,Bool.and_true,Wy.mk.injEq]
  rw[e]at h
  exact h
theorem check_wy (b:Bool)(k:Wy)(w:World):∀m:Nat,(Instr.checkKey b (m+2) 266 (wyf k)).run prog w= .ok () w:=by
  intro m
  have hi:∀(v:Int) (w:World),(Instr.checkKey b (m+1) 3 (.int .i64 v)).run prog w= .ok () w:=fun v w=>by unfold Instr.checkKey;simp[run_underlying underlying3]
  have d:∀w:World,(part 3 (wyV k).toArray 0).run prog w= .ok (.int .i64 k.f) w:=run_part1 na3 rfl
  have e:∀w:World,(part 3 (wyV k).toArray 1).run prog w= .ok (.int .i64 k.c) w:=run_part1 na3 rfl
  unfold Instr.checkKey
  simp only[Sem.run_bind,run_underlying underlying266,Result.andThen_ok,wyf]
  simp[d,e,hi]
theorem kwy:KeyG prog 266 wyf:=KeyG.struct underlying266 (fun b k w=>check_wy b k w 9998) (fun k=>⟨_,rfl⟩) (fun a b=>eqv_wyV (d:=9998) a b)
theorem stay_wy {k:Wy}{P:Program}(w:World):(Instr.keyThatStays (wyf k) (wyf k)).run P w= .ok (wyf k) w:=by
  have:Instr.sameBits 10000 (wyf k) (wyf k)=true:=by simp[wyf,wyV,Instr.sameBits]
  unfold Instr.keyThatStays
  rw[if_pos this]
  rfl
theorem mayc_ok (n:Int)(w:World):Calls prog 216 #[.int .i64 (n)] w fun r w'=>r= .returned (.bool (ptyB n))/\Le w w':=by
 refine enter func216 rfl rfl ?_
 have c:=Le.refl w
 refine Sr (Wn 1 rfl (Nx (Sr (Wn 2 rfl ?_))))
 by_cases b:0<=n
 ·refine Dt b rfl rfl (Wn 4 rfl (Nx (Rt (E.retG1 rfl rfl ?_))))
  exact⟨rB (by simp[ptyB,b]),c⟩
 refine Df b rfl rfl (Wn 4 rfl (Nx (Rt (E.retG1 rfl rfl ?_))))
 exact⟨rB (by simp[ptyB,b]),c⟩

theorem lmay_ok (e:Gsp.Edge)(w:World):Calls prog 113 #[.agg (edgeV e).toArray] w fun r w'=>r= .returned (.bool (mayM e))/\Le w w':=by
 refine enter func113 rfl rfl (Sr (W.ef rfl rfl rfl (Ef.boxA rfl fun z n D (o:Blk n z 81 (edgeV e).toArray) A=>(Wn 1 rfl (Nx (Sr (Wn 1 rfl (Nx (Sr (Wn 1 rfl (Wa (.field0 fa81_0 rfl) rfl (Wr (.loadB (v:= .int .i64 (e.f)) na3 rfl o rfl) rfl ?_))))))))))))
 refine W.cl go216 rfl rfl (mayc_ok e.f n) ?_
 rintro _ C ⟨rfl,s⟩
 have u:=((Le.refl w).trans A).trans s
 by_cases b:(ptyB e.f)=true
 ·refine Wa (.dec (.move rfl) (b)) rfl (Wn 1 rfl (Wg (Any.rd (.field0 fa81_1 rfl) _) rfl ?_))
  have x:=(o.le s)
  refine Wg (.loadB (v:= .int .i64 (e.t)) na3 rfl x rfl) rfl (W.efg rfl rfl rfl (rfl) rfl rfl (Ef.call go216 rfl rfl (mayc_ok e.t C) ?_))
  rintro _ F ⟨rfl,y⟩
  refine⟨_,rfl,?_⟩
  have i:=u.trans y
  refine Wn 1 rfl ?_
  by_cases d:(ptyB e.t)=true
  ·refine Wa (.dec (.move rfl) (d)) rfl (Wg (Any.rd (.field0 fa81_0 rfl) _) rfl ?_)
   have j:=(x.le y)
   refine Wg (.loadB (v:= .int .i64 (e.f)) na3 rfl j rfl) rfl (Wg (Any.rd (.field0 fa81_1 rfl) _) rfl (Wg (.loadB (v:= .int .i64 (e.t)) na3 rfl j rfl) rfl (Wn 2 rfl ?_)))
   by_cases h:e.f≠e.t
   ·refine Dt h rfl rfl (Wg (Any.rd (.field0 fa81_2 rfl) _) rfl (Wg (.loadB (v:= .int .i64 (e.c)) na3 rfl j rfl) rfl (Wn 2 rfl ?_)))
    by_cases k:0<=e.c
    ·refine Dt k rfl rfl (Wg (Any.rd (.field0 fa81_2 rfl) _) rfl (Wg (.loadB (v:= .int .i64 (e.c)) na3 rfl j rfl) rfl (Wn 2 rfl ?_)))
     by_cases l:e.c<1048576
     ·refine Dt l rfl rfl (Wg (Any.rd (.field0 fa81_3 rfl) _) rfl (Wg (.loadB (v:= .int .i64 (e.r)) na3 rfl j rfl) rfl (Wn 2 rfl ?_)))
      by_cases m:0<e.r
      ·refine Dt m rfl rfl (Wg (Any.rd (.field0 fa81_3 rfl) _) rfl (Wg (.loadB (v:= .int .i64 (e.r)) na3 rfl j rfl) rfl (Wn 3 rfl (Nx (Rt (E.retG1 rfl rfl ?_))))))
       exact⟨rB (by simp[mayM,b,d,h,k,l,m]),i⟩
      refine Df m rfl rfl (Wn 5 rfl (Nx (Rt (E.retG1 rfl rfl ?_))))
      exact⟨rB (by simp[mayM,b,d,h,k,l,m]),i⟩
     refine Df l rfl rfl (Wn 10 rfl (Nx (Rt (E.retG1 rfl rfl ?_))))
     exact⟨rB (by simp[mayM,b,d,h,k,l]),i⟩
    refine Df k rfl rfl (Wn 15 rfl (Nx (Rt (E.retG1 rfl rfl ?_))))
    exact⟨rB (by simp[mayM,b,d,h,k]),i⟩
   refine Df h rfl rfl (Wn 20 rfl (Nx (Rt (E.retG1 rfl rfl ?_))))
   exact⟨rB (by simp[mayM,b,d,h]),i⟩
  refine Wa (.dec (.move rfl) ((Bool.eq_false_iff.2 d))) rfl (Wn 27 rfl (Nx (Rt (E.retG1 rfl rfl ?_))))
  exact⟨rB (by simp[mayM,b,d]),i⟩
 refine Wa (.dec (.move rfl) ((Bool.eq_false_iff.2 b))) rfl (Wn 33 rfl (Nx (Rt (E.retG1 rfl rfl ?_))))
 exact⟨rB (by simp[mayM,b]),u⟩

theorem lsome_ok (e:Gsp.Edge)(a:Int)(w:World):Calls prog 176 #[.agg (edgeV e).toArray,.int .i64 (a)] w fun r w'=>r= .returned (.bool (someM e a))/\Le w w':=by
 refine enter func176 rfl rfl (Sr (W.ef rfl rfl rfl (Ef.boxA rfl fun j f l (h:Blk f j 81 (edgeV e).toArray) k=>(Wn 1 rfl (Nx (Sr (Wr (.loadAll ag81 (by rfl) rfl h) rfl ?_)))))))
 refine W.cl go113 rfl rfl (lmay_ok e f) ?_
 rintro _ m ⟨rfl,i⟩
 have d:=((Le.refl w).trans k).trans i
 by_cases b:(mayM e)=true
 ·refine Wa (.dec (.move rfl) (b)) rfl (Wn 3 rfl ?_)
  by_cases c:0<a
  ·refine Dt c rfl rfl (Wn 1 rfl (Wg (Any.rd (.field0 fa81_3 rfl) _) rfl (Wg (.loadB (v:= .int .i64 (e.r)) na3 rfl (h.le i) rfl) rfl (Wn 3 rfl (Nx (Rt (E.retG1 rfl rfl ?_)))))))
   exact⟨rB (by simp[someM,b,c]),d⟩
  refine Df c rfl rfl (Wn 6 rfl (Nx (Rt (E.retG1 rfl rfl ?_))))
  exact⟨rB (by simp[someM,b,c]),d⟩
 refine Wa (.dec (.move rfl) ((Bool.eq_false_iff.2 b))) rfl (Wn 10 rfl (Nx (Rt (E.retG1 rfl rfl ?_))))
 exact⟨rB (by simp[someM,b]),d⟩

theorem lthere_ok (e:Gsp.Edge)(w:World):Calls prog 168 #[.agg (edgeV e).toArray] w fun r w'=>r= .returned (.agg (wyV (wyE e)).toArray)/\Le w w':=by
 refine enter func168 rfl rfl (Sr (W.ef rfl rfl rfl (Ef.boxA rfl fun k l y (m:Blk l k 81 (edgeV e).toArray) n=>?_)))
 have d:=(Le.refl w).trans n
 refine W.ef rfl rfl rfl (Ef.allocA z266 fun h o s (t:Blk o h 266 (wyV noWy).toArray) i=>(Nx (Sr (Wa (.field0 fa81_0 rfl) rfl ?_))))
 have j:=(m.le i)
 refine Wr (.loadB (v:= .int .i64 (e.f)) na3 rfl j rfl) rfl (Wa (.field0 fa81_2 rfl) rfl (Wr (.loadB (v:= .int .i64 (e.c)) na3 rfl j rfl) rfl (Wa (.buildP (wyV (⟨e.f,e.c⟩:Wy)) pl266 z266 rfl rfl) rfl (W.ef0 rfl rfl (Ef.storeAll sz266 (by rfl) rfl rfl t (by simp only[List.size_toArray,wyV_row.len]) (wyV_row.one (⟨e.f,e.c⟩:Wy)) ?_)))))
 intro u b x
 have b:Blk u h 266 (wyV (⟨e.f,e.c⟩:Wy)).toArray:=b
 refine Nx (Rt (E.retG1 rfl (resA rfl b ag266 (by rfl)) ?_))
 exact⟨rfl,((d.trans i).tb x d s)⟩

theorem lof_ok {gp gm ca:Nat}{la:MMl}(k:Wy)(rm:Int)(w:World)(hp:Blk w gp 188 #[.map (some gm)])(hM:MapG w wyf ntf gm la ca)(hg:∀k v,getG k la=some v->okNt v)(h0:0<rm)(h1:rm<=1125899906842624):Calls prog 167 #[.pointer (some ⟨gp,0,none⟩),.agg (wyV k).toArray,.int .i64 (rm)] w fun r w'=>r= .returned (.agg (ntV (cnt (getG k la) rm)).toArray)/\Le w w':=by
 refine enter func167 rfl rfl (Sr (W.ef rfl rfl rfl (Ef.boxA rfl fun J K aj (L:Blk K J 266 (wyV k).toArray) N=>?_)))
 have m:=(Le.refl w).trans N
 refine W.ef rfl rfl rfl (Ef.allocA z263 fun n O z (e:Blk O n 263 (ntV noNt).toArray) A=>(Nx (Sq (WC.draw [0,1,2,3,4,5,6,7,8,9,10,11] mixed (by kernel_rfl) fun w1 d=>?_))))
 have c:=(m.trans A).trans d
 refine Gn 1 rfl (Ga rfl (.nilCheck rfl) (Ga rfl (.field0 fa188_0 rfl) (Gd rfl (.loadB (v:= .map (some gm)) na186 rfl (hp.le c) rfl) (Gd rfl (.loadAll ag266 (by rfl) rfl (L.le (A.trans d))) ?_))))
 rcases optG (getG k la)with f|⟨b,f⟩
 ·refine Gd rfl (.as (.lookup2 (key:=k) underlying186 kwy z263 rfl rfl (hM.le c)) (by rw[f]<;>rfl)) ?_
  refine Gn 1 rfl (Ga rfl (.extract (v:= .agg (ntV noNt).toArray) rfl rfl) (Gn 1 rfl (G.ef rfl rfl rfl rfl rfl (Ef.allocA z263 fun P Q R (S:Blk Q P 263 (ntV noNt).toArray) o=>⟨fun _=>o,?_⟩))))
  refine G.ef0 rfl rfl rfl rfl (Ef.storeAll sz263 (by rfl) rfl rfl S (by simp only[List.size_toArray,ntV_row.len]) (ntV_row.one noNt) ?_)
  intro ak al C
  refine noT (by kernel_rfl) (Gn 1 rfl (G.nil (E.thenN (Sq (Sr (Wn 2 rfl (Nx (WC.condT rfl (Sr (Wn 1 rfl (Wa (.add rfl rfl (by omega)) rfl (Wn 1 rfl (Wa (.buildP (ntV (⟨0,(rm+1),rm⟩:Nt)) pl263 z263 rfl rfl) rfl ?_)))))))))))))
  have T:=((e.le (d.trans o)).cn C (by have:=e.lt;have:=d.size;omega))
  refine W.ef0 rfl rfl (Ef.storeAll sz263 (by rfl) rfl rfl T (by simp only[List.size_toArray,ntV_row.len]) (ntV_row.one (⟨0,(rm+1),rm⟩:Nt)) ?_)
  intro U s V
  have s:Blk U n 263 (ntV (⟨0,(rm+1),rm⟩:Nt)).toArray:=s
  have X:=((c.trans o).tb C c R).tb V m z
  refine Nx (Rt (E.thenR (E.retG1 rfl (resA rfl s ag263 (by rfl)) ?_)))
  exact⟨by rw[f];rfl,X⟩
 have hok:=hg _ _ f
 unfold okNt at hok
 refine Gd rfl (.as (.lookup2 (key:=k) underlying186 kwy z263 rfl rfl (hM.le c)) (by rw[f]<;>rfl)) ?_
 refine Gn 1 rfl (Ga rfl (.extract (v:= .agg (ntV b).toArray) rfl rfl) (Gn 1 rfl (G.ef rfl rfl rfl rfl rfl (Ef.allocA z263 fun h Y j (Z:Blk Y h 263 (ntV noNt).toArray) t=>⟨fun _=>t,?_⟩))))
 refine G.ef0 rfl rfl rfl rfl (Ef.storeAll sz263 (by rfl) rfl rfl Z (by simp only[List.size_toArray,ntV_row.len]) (ntV_row.one b) ?_)
 intro aa l D
 refine noT (by kernel_rfl) ?_
 have l:Blk aa h 263 (ntV b).toArray:=l
 refine Gn 1 rfl (G.nil (E.thenN (Sq (Sr (Wn 2 rfl (Nx (WC.condF rfl (Sn (Sr (Wa (.field0 fa263_0 rfl) rfl (Wr (.loadB (v:= .int .i64 (b.lo)) na3 rfl l rfl) rfl (Wn 1 rfl (Wr (.min2 rfl rfl) rfl (Wn 1 rfl ?_))))))))))))))
 refine Wa (.field0 fa263_0 rfl) rfl (W.ef0 rfl rfl (Ef.store sz3 rfl rfl l (by first|decide|(simp;done)|simp[ntV_row.len]) (rfl) ?_))
 intro ab u F
 have u:Blk ab h 263 (ntV ({b with lo:=(min b.lo rm)})).toArray:=u
 refine Wa (.field0 fa263_2 rfl) rfl (W.ef0 rfl rfl (Ef.store sz3 rfl rfl u (by first|decide|(simp;done)|simp[ntV_row.len]) (rfl) ?_))
 intro ac i H
 have i:Blk ac h 263 (ntV ({{b with lo:=(min b.lo rm)}with rm:=rm})).toArray:=i
 refine Nx (Sr (Wa (.field0 fa263_1 rfl) rfl (Wr (.loadB (v:= .int .i64 (({{b with lo:=(min b.lo rm)}with rm:=rm}).hi)) na3 rfl i rfl) rfl (Wn 1 rfl (Wa (.add rfl rfl (by omega)) rfl (Wr (.min2 rfl rfl) rfl ?_))))))
 refine Wa (.field0 fa263_0 rfl) rfl (Wr (.loadB (v:= .int .i64 (({{b with lo:=(min b.lo rm)}with rm:=rm}).lo)) na3 rfl i rfl) rfl (Wa (.add rfl rfl (by dsimp only;omega)) rfl ?_))
 refine Wr (.max2 rfl rfl) rfl (Wa (.field0 fa263_1 rfl) rfl (W.ef0 rfl rfl (Ef.store sz3 rfl rfl i (by first|decide|(simp;done)|simp[ntV_row.len]) (rfl) ?_)))
 intro ad x I
 have x:Blk ad h 263 (ntV ({{{b with lo:=(min b.lo rm)}with rm:=rm}with hi:=(max (min (({{b with lo:=(min b.lo rm)}with rm:=rm}).hi) (rm+1)) ((({{b with lo:=(min b.lo rm)}with rm:=rm}).lo)+1))})).toArray:=x
 refine Nx (Sr (Wr (.loadAll ag263 (by rfl) rfl x) rfl ?_))
 have ae:=(((((e.le (d.trans t)).cn D (by have:=e.lt;have:=d.size;omega)).cn F (by have:=e.lt;have:=d.size;omega)).cn H (by have:=e.lt;have:=d.size;omega)).cn I (by have:=e.lt;have:=d.size;omega))
 refine W.ef0 rfl rfl (Ef.storeAll sz263 (by rfl) rfl rfl ae (by simp only[List.size_toArray,ntV_row.len]) (ntV_row.one ({{{b with lo:=(min b.lo rm)}with rm:=rm}with hi:=(max (min (({{b with lo:=(min b.lo rm)}with rm:=rm}).hi) (rm+1)) ((({{b with lo:=(min b.lo rm)}with rm:=rm}).lo)+1))})) ?_)
 intro af y ah
 have y:Blk af n 263 (ntV ({{{b with lo:=(min b.lo rm)}with rm:=rm}with hi:=(max (min (({{b with lo:=(min b.lo rm)}with rm:=rm}).hi) (rm+1)) ((({{b with lo:=(min b.lo rm)}with rm:=rm}).lo)+1))})).toArray:=y
 have ai:=(((((c.trans t).tb D c j).tb F c j).tb H c j).tb I c j).tb ah m z
 refine Nx (Rt (E.retG1 rfl (resA rfl y ag263 (by rfl)) ?_))
 exact⟨by rw[f];rfl,ai⟩

theorem lbnd_ok {gp gm ca:Nat}{la:MMl}(e:Gsp.Edge)(w:World)(hp:Blk w gp 188 #[.map (some gm)])(hM:MapG w wyf ntf gm la ca)(hg:∀k v,getG k la=some v->okNt v):Calls prog 72 #[.pointer (some ⟨gp,0,none⟩),.agg (edgeV e).toArray] w fun r w'=>r= .returned (.tuple #[.int .i64 (bndM (fun k=>getG k la) e).1,.int .i64 (bndM (fun k=>getG k la) e).2])/\Le w w':=by
 refine enter func72 rfl rfl (Sr (W.ef rfl rfl rfl (Ef.boxA rfl fun X x aq (y:Blk x X 81 (edgeV e).toArray) Y=>(Wn 2 rfl (Nx (Sq (Sr (Wr (.loadAll ag81 (by rfl) rfl y) rfl ?_))))))))
 refine W.cl go113 rfl rfl (lmay_ok e x) ?_
 rintro _ ar ⟨rfl,z⟩
 have A:=((Le.refl w).trans Y).trans z
 refine Wn 1 rfl (Nx ?_)
 by_cases b:(mayM e)=true
 ·refine Cn rfl (congrArg not (b)) ?_
  have hmy:=mayM_T (by assumption:mayM e=true)
  refine Sn (Sq (WC.drawT (fun o=>(app o [0,1,3,4] (.br (app o [2] (.br (app o [5,6,7] .nil) (app o [6,5,7] .nil))) (app o [6,2,5,7] .nil)))) mixed (by kernel_rfl) fun Z C=>?_))
  have f:=A.trans C
  refine GT.app (Gn 1 rfl ?_)
  have D:=(y.le (z.trans C))
  refine Gd rfl (.loadAll ag81 (by rfl) rfl D) ?_
  refine Ga rfl (.field0 fa81_3 rfl) (Gd rfl (.loadB (v:= .int .i64 (e.r)) na3 rfl D rfl) (G.nil (GT.br ?_ ?_)))
  ·refine GT.app (G.ef rfl rfl rfl rfl rfl (Ef.call go168 rfl rfl (lthere_ok e Z) ?_))
   rintro _ aa ⟨rfl,F⟩
   refine⟨_,rfl,?_⟩
   refine⟨fun _=>F,?_⟩
   have d:=f.trans F
   refine G.nil (GT.br ?_ ?_)
   ·refine GT.last (G.ef rfl rfl rfl rfl rfl (Ef.call go167 rfl rfl (lof_ok (wyE e) e.r aa (hp.le d) (hM.le d) hg (by omega) (by omega)) ?_))
    rintro _ au ⟨rfl,H⟩
    refine⟨_,rfl,?_⟩
    refine⟨fun _=>H,?_⟩
    have I:=d.trans H
    have hof:=cnt_ok (fun n hn=>hg (wyE e) n hn) (show 0<e.r by omega) (show e.r<=1125899906842624 by omega)
    unfold okNt at hof
    refine G.ef rfl rfl rfl rfl rfl (Ef.allocA z263 fun J ab ac (ad:Blk ab J 263 (ntV noNt).toArray) K=>⟨fun _=>K,?_⟩)
    refine G.ef0 rfl rfl rfl rfl (Ef.storeAll sz263 (by rfl) rfl rfl ad (by simp only[List.size_toArray,ntV_row.len]) (ntV_row.one (cnt (getG (wyE e) la) e.r)) ?_)
    intro ae h af
    refine noT (by kernel_rfl) ?_
    have h:Blk ae J 263 (ntV (cnt (getG (wyE e) la) e.r)).toArray:=h
    refine G.nil (E.thenN (Sq (WC.draw [0,1,2,3,4,5] mixed (by kernel_rfl) fun L c=>(Ga rfl (.field0 fa263_0 rfl) ?_))))
    have N:=(h.le c)
    refine Gd rfl (.loadB (v:= .int .i64 ((cnt (getG (wyE e) la) e.r).lo)) na3 rfl N rfl) (Ga rfl (.field0 fa263_1 rfl) (Gd rfl (.loadB (v:= .int .i64 ((cnt (getG (wyE e) la) e.r).hi)) na3 rfl N rfl) (Gn 2 rfl (G.nil (E.thenN (Rt (E.retG2 rfl rfl rfl ?_)))))))
    exact⟨(by first|rfl|(simp[bndM,ofM,b];done)|(simp[bndM,ofM,b];omega)|(simp[bndM,ofM,b];split<;>first|(exfalso;omega)|(simp;done)|(simp;omega))),(((I.trans K).tb af I ac).trans c)⟩
   refine GT.last (G.ef rfl rfl rfl rfl rfl (Ef.allocA z263 fun O P ah (ai:Blk P O 263 (ntV noNt).toArray) Q=>⟨fun _=>Q,?_⟩))
   have i:=d.trans Q
   refine G.ef rfl rfl rfl rfl rfl (Ef.call go167 rfl rfl (lof_ok (wyE e) e.r P (hp.le i) (hM.le i) hg (by omega) (by omega)) ?_)
   rintro _ av ⟨rfl,j⟩
   refine⟨_,rfl,?_⟩
   refine⟨fun _=>j,?_⟩
   have hof:=cnt_ok (fun n hn=>hg (wyE e) n hn) (show 0<e.r by omega) (show e.r<=1125899906842624 by omega)
   unfold okNt at hof
   refine G.ef0 rfl rfl rfl rfl (Ef.storeAll sz263 (by rfl) rfl rfl (ai.le j) (by simp only[List.size_toArray,ntV_row.len]) (ntV_row.one (cnt (getG (wyE e) la) e.r)) ?_)
   intro aj l ak
   refine noT (by kernel_rfl) ?_
   have l:Blk aj O 263 (ntV (cnt (getG (wyE e) la) e.r)).toArray:=l
   refine G.nil (E.thenN (Sq (WC.draw [0,1,2,3,4,5] mixed (by kernel_rfl) fun L c=>(Ga rfl (.field0 fa263_0 rfl) ?_))))
   have R:=(l.le c)
   refine Gd rfl (.loadB (v:= .int .i64 ((cnt (getG (wyE e) la) e.r).lo)) na3 rfl R rfl) (Ga rfl (.field0 fa263_1 rfl) (Gd rfl (.loadB (v:= .int .i64 ((cnt (getG (wyE e) la) e.r).hi)) na3 rfl R rfl) (Gn 2 rfl (G.nil (E.thenN (Rt (E.retG2 rfl rfl rfl ?_)))))))
   exact⟨(by first|rfl|(simp[bndM,ofM,b];done)|(simp[bndM,ofM,b];omega)|(simp[bndM,ofM,b];split<;>first|(exfalso;omega)|(simp;done)|(simp;omega))),(((i.trans j).tb ak d ah).trans c)⟩
  refine GT.last (G.ef rfl rfl rfl rfl rfl (Ef.allocA z263 fun S T al (am:Blk T S 263 (ntV noNt).toArray) U=>⟨fun _=>U,?_⟩))
  refine G.ef rfl rfl rfl rfl rfl (Ef.call go168 rfl rfl (lthere_ok e T) ?_)
  rintro _ an ⟨rfl,m⟩
  refine⟨_,rfl,?_⟩
  refine⟨fun _=>m,?_⟩
  have s:=(f.trans U).trans m
  refine G.ef rfl rfl rfl rfl rfl (Ef.call go167 rfl rfl (lof_ok (wyE e) e.r an (hp.le s) (hM.le s) hg (by omega) (by omega)) ?_)
  rintro _ aw ⟨rfl,t⟩
  refine⟨_,rfl,?_⟩
  refine⟨fun _=>t,?_⟩
  have hof:=cnt_ok (fun n hn=>hg (wyE e) n hn) (show 0<e.r by omega) (show e.r<=1125899906842624 by omega)
  unfold okNt at hof
  refine G.ef0 rfl rfl rfl rfl (Ef.storeAll sz263 (by rfl) rfl rfl (am.le (m.trans t)) (by simp only[List.size_toArray,ntV_row.len]) (ntV_row.one (cnt (getG (wyE e) la) e.r)) ?_)
  intro ao u ap
  refine noT (by kernel_rfl) ?_
  have u:Blk ao S 263 (ntV (cnt (getG (wyE e) la) e.r)).toArray:=u
  refine G.nil (E.thenN (Sq (WC.draw [0,1,2,3,4,5] mixed (by kernel_rfl) fun L c=>(Ga rfl (.field0 fa263_0 rfl) ?_))))
  have V:=(u.le c)
  refine Gd rfl (.loadB (v:= .int .i64 ((cnt (getG (wyE e) la) e.r).lo)) na3 rfl V rfl) (Ga rfl (.field0 fa263_1 rfl) (Gd rfl (.loadB (v:= .int .i64 ((cnt (getG (wyE e) la) e.r).hi)) na3 rfl V rfl) (Gn 2 rfl (G.nil (E.thenN (Rt (E.retG2 rfl rfl rfl ?_)))))))
  exact⟨(by first|rfl|(simp[bndM,ofM,b];done)|(simp[bndM,ofM,b];omega)|(simp[bndM,ofM,b];split<;>first|(exfalso;omega)|(simp;done)|(simp;omega))),(((s.trans t).tb ap f al).trans c)⟩
 refine Cy rfl (congrArg not ((Bool.eq_false_iff.2 b))) (Sr (Wn 2 rfl (Nx (Rt (E.thenR (E.retG2 rfl rfl rfl ?_))))))
 exact⟨(by first|rfl|(simp[bndM,ofM,b];done)|(simp[bndM,ofM,b];omega)|(simp[bndM,ofM,b];split<;>first|(exfalso;omega)|(simp;done)|(simp;omega))),A⟩

theorem lodds_ok {gp gm ca:Nat}{la:MMl}(e:Gsp.Edge)(a:Int)(w:World)(hp:Blk w gp 188 #[.map (some gm)])(hM:MapG w wyf ntf gm la ca)(hg:∀k v,getG k la=some v->okNt v):Calls prog 44 #[.pointer (some ⟨gp,0,none⟩),.agg (edgeV e).toArray,.int .i64 (a)] w fun r w'=>∃A1 c1 A2 c2,r= .returned (.tuple #[.agg #[.slice A1 (digs (oddsM (fun k=>getG k la) e a).n).length c1,.slice A2 (digs (oddsM (fun k=>getG k la) e a).d).length c2],.bool (goesM e a)])/\OVec w' w.heap.size 273 dv 1 A1 (digs (oddsM (fun k=>getG k la) e a).n).length c1 (digs (oddsM (fun k=>getG k la) e a).n)/\OVec w' w.heap.size 273 dv 1 A2 (digs (oddsM (fun k=>getG k la) e a).d).length c2 (digs (oddsM (fun k=>getG k la) e a).d)/\Le w w':=by
 refine enter func44 rfl rfl (Sr (W.ef rfl rfl rfl (Ef.boxA rfl fun S T ai (U:Blk T S 81 (edgeV e).toArray) V=>?_)))
 have j:=(Le.refl w).trans V
 refine W.ef rfl rfl rfl (Ef.allocA z61 fun l F s (c:Blk F l 61 #[.slice none 0 0,.slice none 0 0]) H=>(Wn 1 rfl (Nx (Sq (Sr ?_)))))
 have I:=(U.le H)
 refine Wr (.loadAll ag81 (by rfl) rfl I) rfl ?_
 refine W.cl go113 rfl rfl (lmay_ok e F) ?_
 rintro _ X ⟨rfl,b⟩
 have f:=(j.trans H).trans b
 refine Wn 1 rfl ?_
 by_cases i:(mayM e)=true
 ·refine Wa (.dec (.move rfl) (congrArg not (i))) rfl (Wn 3 rfl ?_)
  by_cases o:a<0
  ·refine Dt o rfl rfl (Wn 5 rfl (Nx (WC.condT rfl (Sr (Wa (.buildP [.slice none 0 0,.slice none 0 0] pl61 z61 rfl rfl) rfl (W.sA sz61 rfl rfl (c.le b) ?_))))))
   intro Y x Z
   have x:Blk Y l 61 #[.slice none 0 0,.slice none 0 0]:=x
   have L6:=f.tb Z j s
   refine Wn 1 rfl (Nx (Rt (E.thenR (E.retG2 rfl (resA rfl x ag61 (by rfl)) rfl ?_))))
   have hgo:goesM e a=false:=(by simp[goesM,i,o]<;>omega)
   have hod:oddsM (fun k=>getG k la) e a=⟨0,0⟩:=(by unfold oddsM;exact if_neg (by rw[hgo];decide))
   rw[hod,hgo]
   exact⟨none,0,none,0,by simp only[digs_zero];rfl,by simp only[digs_zero];exact OVec.nil _ _ _ _ _ _,by simp only[digs_zero];exact OVec.nil _ _ _ _ _ _,L6⟩
  refine Df o rfl rfl (Wn 1 rfl (Wg (Any.rd (.field0 fa81_3 rfl) _) rfl ?_))
  have J:=(I.le b)
  refine Wg (.loadB (v:= .int .i64 (e.r)) na3 rfl J rfl) rfl (Wn 2 rfl (Nx ?_))
  by_cases t:e.r<a
  ·refine Cy rfl (dT t) (Sr (Wa (.buildP [.slice none 0 0,.slice none 0 0] pl61 z61 rfl rfl) rfl (W.sA sz61 rfl rfl (c.le b) ?_)))
   intro aa y ab
   have y:Blk aa l 61 #[.slice none 0 0,.slice none 0 0]:=y
   have L9:=f.tb ab j s
   refine Wn 1 rfl (Nx (Rt (E.thenR (E.retG2 rfl (resA rfl y ag61 (by rfl)) rfl ?_))))
   have hgo:goesM e a=false:=(by simp[goesM,i,o,t]<;>omega)
   have hod:oddsM (fun k=>getG k la) e a=⟨0,0⟩:=(by unfold oddsM;exact if_neg (by rw[hgo];decide))
   rw[hod,hgo]
   exact⟨none,0,none,0,by simp only[digs_zero];rfl,by simp only[digs_zero];exact OVec.nil _ _ _ _ _ _,by simp only[digs_zero];exact OVec.nil _ _ _ _ _ _,L9⟩
  refine Cn rfl (dF t) ?_
  have hmy:=bndM_ok (m:=(fun k=>getG k la)) (fun k v h=>hg k v h) (by assumption:mayM e=true)
  have hmz:=mayM_T (by assumption:mayM e=true)
  refine Sn (Sr (Wn 1 rfl (Wr (.loadAll ag81 (by rfl) rfl J) rfl ?_)))
  refine W.cl go72 rfl rfl (lbnd_ok e X (hp.le f) (hM.le f) hg) ?_
  rintro _ ac ⟨rfl,u⟩
  have z:=f.trans u
  refine Wn 5 rfl (Nx (Sr (Wn 3 rfl (Wr (.max2 rfl rfl) rfl (Wn 1 rfl (Wr (.min2 rfl rfl) rfl (Wa (.sub rfl rfl (by omega)) rfl ?_)))))))
  obtain⟨nn,hnn⟩:=Int.eq_ofNat_of_zero_le (show 0<=(bndM (fun k=>getG k la) e).2-min (max a (bndM (fun k=>getG k la) e).1) (bndM (fun k=>getG k la) e).2 by omega)
  refine Wr (.as (.idI (isS underlying3) underlying27 rfl (IntWalk.u64_in _ (by omega))) (by rw[hnn])) rfl ?_
  refine Wn 2 rfl (Wa (.sub rfl rfl (by omega)) rfl ?_)
  obtain⟨dd,hdd⟩:=Int.eq_ofNat_of_zero_le (show 0<=(bndM (fun k=>getG k la) e).2-(bndM (fun k=>getG k la) e).1 by omega)
  refine Wr (.as (.idI (isS underlying3) underlying27 rfl (IntWalk.u64_in _ (by omega))) (by rw[hdd])) rfl ?_
  refine W.cl go39 rfl rfl (fof_ok nn dd ac (by omega) (by omega) (by omega)) ?_
  rintro _ aj ⟨K,L,N,O,rfl,P,Q,R⟩
  refine Wa (.extract (v:= .agg #[.slice K ((digs ((lowF nn dd).n)).length) L,.slice N ((digs ((lowF nn dd).d)).length) O]) rfl rfl) rfl (Wn 1 rfl (W.sA sz61 rfl rfl (c.le (b.trans (u.trans R))) ?_))
  intro ad A C
  have A:Blk ad l 61 #[.slice K ((digs ((lowF nn dd).n)).length) L,.slice N ((digs ((lowF nn dd).d)).length) O]:=A
  refine Wn 1 rfl (Nx (Rt (E.retG2 rfl (resA rfl A ag61 (by rfl)) rfl ?_)))
  have hgo:goesM e a=true:=(by simp[goesM,i,o,t]<;>omega)
  have hod:oddsM (fun k=>getG k la) e a=lowF nn dd:=(by unfold oddsM;rw[if_pos hgo,show oddN (fun k=>getG k la) e a=(nn:Int)from hnn,show oddD (fun k=>getG k la) e=(dd:Int)from hdd];rfl)
  rw[hod,hgo]
  exact⟨_,_,_,_,rfl,((P.cb C (P.rl (by have:=c.lt;have:=b.size;have:=u.size;omega))).mono z.size),((Q.cb C (Q.rl (by have:=c.lt;have:=b.size;have:=u.size;omega))).mono z.size),((z.trans R).tb C j s)⟩
 refine Wa (.dec (.move rfl) (congrArg not ((Bool.eq_false_iff.2 i)))) rfl (Wn 9 rfl (Nx (WC.condT rfl (Sr (Wa (.buildP [.slice none 0 0,.slice none 0 0] pl61 z61 rfl rfl) rfl (W.sA sz61 rfl rfl (c.le b) ?_))))))
 intro ae D af
 have D:Blk ae l 61 #[.slice none 0 0,.slice none 0 0]:=D
 have ah:=f.tb af j s
 refine Wn 1 rfl (Nx (Rt (E.thenR (E.retG2 rfl (resA rfl D ag61 (by rfl)) rfl ?_))))
 have hgo:goesM e a=false:=(by simp[goesM,i]<;>omega)
 have hod:oddsM (fun k=>getG k la) e a=⟨0,0⟩:=(by unfold oddsM;exact if_neg (by rw[hgo];decide))
 rw[hod,hgo]
 exact⟨none,0,none,0,by simp only[digs_zero];rfl,by simp only[digs_zero];exact OVec.nil _ _ _ _ _ _,by simp only[digs_zero];exact OVec.nil _ _ _ _ _ _,ah⟩

theorem lfail_ok {gp gm ca:Nat}{la:MMl}(e:Gsp.Edge)(a:Int)(w:World)(hp0:Blk w gp 188 #[.map (some gm)])(hM0:MapG w wyf ntf gm la ca)(hg:∀k v,getG k la=some v->okNt v)(n1:gp≠gm):Calls prog 80 #[.pointer (some ⟨gp,0,none⟩),.agg (edgeV e).toArray,.int .i64 (a)] w fun r w'=>r= .returned (.tuple #[])/\∃la' ca',MapG w' wyf ntf gm la' ca'/\(∀k,getG k la'=failM (fun k=>getG k la) e a k)/\ChP w w' (fun k=>k=gm):=by
 refine enter func80 rfl rfl (Sr (W.ef rfl rfl rfl (Ef.boxA rfl fun ax Z bf (aa:Blk Z ax 81 (edgeV e).toArray) d=>(Nx (Sr (Wr (.loadAll ag81 (by rfl) rfl aa) rfl ?_))))))
 refine Wn 1 rfl (W.cl go176 rfl rfl (lsome_ok e a Z) ?_)
 rintro _ bg ⟨rfl,c⟩
 have L2:=((ChP.refl w (fun k=>k=gm)).le d).le c
 refine Nx ?_
 by_cases P:(someM e a)=true
 ·refine Cy rfl (P) ?_
  have hsm:=someM_T (by assumption:someM e a=true)
  have hmz:=mayM_T hsm.1
  refine Sq (WC.drawT (fun o=>(app o [0,1,3,4] (.br (app o [2] (.br (app o [5,6,7] .nil) (app o [6,5,7] .nil))) (app o [6,2,5,7] .nil)))) mixed (by kernel_rfl) fun w2 f=>?_)
  have Q:=L2.le f
  refine GT.app (Gn 1 rfl ?_)
  have l:=(aa.le (c.trans f))
  refine Gd rfl (.loadAll ag81 (by rfl) rfl l) ?_
  refine Ga rfl (.field0 fa81_3 rfl) (Gd rfl (.loadB (v:= .int .i64 (e.r)) na3 rfl l rfl) (G.nil (GT.br ?_ ?_)))
  ·refine GT.app (G.ef rfl rfl rfl rfl rfl (Ef.call go168 rfl rfl (lthere_ok e w2) ?_))
   rintro _ ay ⟨rfl,h⟩
   refine⟨_,rfl,?_⟩
   refine⟨fun _=>h,?_⟩
   have R:=Q.le h
   refine G.nil (GT.br ?_ ?_)
   ·refine GT.last ?_
    have S:=(hp0.le (d.trans (c.trans (f.trans h))))
    have y:=(hM0.le (d.trans (c.trans (f.trans h))))
    refine G.ef rfl rfl rfl rfl rfl (Ef.call go167 rfl rfl (lof_ok (wyE e) e.r ay S y hg (by omega) (by omega)) ?_)
    rintro _ bh ⟨rfl,j⟩
    refine⟨_,rfl,?_⟩
    refine⟨fun _=>j,?_⟩
    have L8:=R.le j
    have hof:=cnt_ok (fun n hn=>hg (wyE e) n hn) (show 0<e.r by omega) (show e.r<=1125899906842624 by omega)
    unfold okNt at hof
    refine G.ef rfl rfl rfl rfl rfl (Ef.allocA z263 fun ab az aA (aB:Blk az ab 263 (ntV noNt).toArray) t=>⟨fun _=>t,?_⟩)
    have L9:=L8.le t
    refine G.ef0 rfl rfl rfl rfl (Ef.storeAll sz263 (by rfl) rfl rfl aB (by simp only[List.size_toArray,ntV_row.len]) (ntV_row.one (cnt (getG (wyE e) la) e.r)) ?_)
    intro ac T z
    refine noT (by kernel_rfl) ?_
    have T:Blk ac ab 263 (ntV (cnt (getG (wyE e) la) e.r)).toArray:=T
    have aC:ChP w ac (fun k=>k=gm):=L9.ch z (fun i hi hlt=>by cases hi;exact absurd hlt (by have:=L8.size;have:=aA;omega))
    refine G.nil (E.thenN (WC.draw [0,1,2,3,4,6,7,8,9,10,11,12,13,14,15,16,17,5,18] mixed (by kernel_rfl) fun A b=>(Gn 1 rfl (Ga rfl (.nilCheck rfl) (Ga rfl (.field0 fa188_0 rfl) (Gd rfl (.loadB (v:= .map (some gm)) na186 rfl (((S.le (j.trans t)).cn z (by have:=S.lt;have:=j.size;omega)).le b) rfl) ?_))))))
    have ad:=(((l.le (h.trans (j.trans t))).cn z (by have:=l.lt;have:=h.size;have:=j.size;omega)).le b)
    refine Gd rfl (.loadAll ag81 (by rfl) rfl ad) ?_
    refine Ga rfl (.field0 fa263_0 rfl) ?_
    have ae:=(T.le b)
    refine Gd rfl (.loadB (v:= .int .i64 ((cnt (getG (wyE e) la) e.r).lo)) na3 rfl ae rfl) (Gn 1 rfl (Ga rfl (.sub rfl rfl (by omega)) (Gd rfl (.min2 rfl rfl) (Ga rfl (.field0 fa263_1 rfl) (Gd rfl (.loadB (v:= .int .i64 ((cnt (getG (wyE e) la) e.r).hi)) na3 rfl ae rfl) ?_)))))
    refine Gn 1 rfl (Gd rfl (.min2 rfl rfl) (Ga rfl (.field0 fa81_3 rfl) (Gd rfl (.loadB (v:= .int .i64 (e.r)) na3 rfl ad rfl) (Ga rfl (.buildP (ntV (⟨(min ((cnt (getG (wyE e) la) e.r).lo) (a-1)),(min ((cnt (getG (wyE e) la) e.r).hi) a),e.r⟩:Nt)) pl263 z263 rfl rfl) (G.ef rfl rfl rfl rfl rfl ?_)))))
    refine Ef.call go168 rfl rfl (lthere_ok e A) ?_
    rintro _ bi ⟨rfl,L⟩
    refine⟨_,rfl,?_⟩
    refine⟨fun _=>L,?_⟩
    have af:=(aC.le b).le L
    rcases optG (getG (wyE e) la)with C|⟨bj,C⟩
    ·have aE:=(((y.le (j.trans t)).cn z (by have:=y.lt;have:=j.size;omega)).le (b.trans L))
     refine G.ef0 rfl rfl rfl rfl (Ef.insertG (key:=(wyE e)) (u:=(⟨(min ((cnt (getG (wyE e) la) e.r).lo) (a-1)),(min ((cnt (getG (wyE e) la) e.r).hi) a),e.r⟩:Nt)) underlying186 kwy rfl rfl rfl aE (C) fun aF aG aH=>(noT (by kernel_rfl) ?_))
     have aI:ChP w aF (fun k=>k=gm):=af.ch aH (fun i hi _=>by cases hi;exact rfl)
     refine G.nil (E.end_ (E.ret0 rfl ?_))
     have hf:failM (fun k=>getG k la) e a=setM (fun k=>getG k la) (wyE e) (failN e a (ofM (fun k=>getG k la) (wyE e) e.r)):=if_pos (by assumption)
     rw[hf]
     exact⟨rfl,_,_,aG,fun k=>by rw[getG_push C];rfl,aI⟩
    refine G.ef0 rfl rfl rfl rfl (Ef.updateG (key:=(wyE e)) (u:=(⟨(min ((cnt (getG (wyE e) la) e.r).lo) (a-1)),(min ((cnt (getG (wyE e) la) e.r).hi) a),e.r⟩:Nt)) underlying186 kwy rfl rfl rfl (((y.le (j.trans t)).cn z (by have:=y.lt;have:=j.size;omega)).le (b.trans L)) stay_wy (C) ?_)
    intro aJ aK aL
    refine noT (by kernel_rfl) ?_
    have aM:ChP w aJ (fun k=>k=gm):=af.ch aL (fun i hi _=>by cases hi;exact rfl)
    refine G.nil (E.end_ (E.ret0 rfl ?_))
    have hf:failM (fun k=>getG k la) e a=setM (fun k=>getG k la) (wyE e) (failN e a (ofM (fun k=>getG k la) (wyE e) e.r)):=if_pos (by assumption)
    rw[hf]
    exact⟨rfl,_,_,aK,fun k=>by rw[getG_set ⟨_,C⟩];rfl,aM⟩
   refine GT.last (G.ef rfl rfl rfl rfl rfl (Ef.allocA z263 fun ah ai aO (aP:Blk ai ah 263 (ntV noNt).toArray) D=>⟨fun _=>D,?_⟩))
   have aj:=(hp0.le (d.trans (c.trans (f.trans (h.trans D)))))
   have U:=(hM0.le (d.trans (c.trans (f.trans (h.trans D)))))
   refine G.ef rfl rfl rfl rfl rfl (Ef.call go167 rfl rfl (lof_ok (wyE e) e.r ai aj U hg (by omega) (by omega)) ?_)
   rintro _ bk ⟨rfl,m⟩
   refine⟨_,rfl,?_⟩
   refine⟨fun _=>m,?_⟩
   have aQ:=(R.le D).le m
   have hof:=cnt_ok (fun n hn=>hg (wyE e) n hn) (show 0<e.r by omega) (show e.r<=1125899906842624 by omega)
   unfold okNt at hof
   refine G.ef0 rfl rfl rfl rfl (Ef.storeAll sz263 (by rfl) rfl rfl (aP.le m) (by simp only[List.size_toArray,ntV_row.len]) (ntV_row.one (cnt (getG (wyE e) la) e.r)) ?_)
   intro ak V F
   refine noT (by kernel_rfl) ?_
   have V:Blk ak ah 263 (ntV (cnt (getG (wyE e) la) e.r)).toArray:=V
   have aR:ChP w ak (fun k=>k=gm):=aQ.ch F (fun i hi hlt=>by cases hi;exact absurd hlt (by have:=R.size;have:=aO;omega))
   refine G.nil (E.thenN (WC.draw [0,1,2,3,4,6,7,8,9,10,11,12,13,14,15,16,17,5,18] mixed (by kernel_rfl) fun A b=>(Gn 1 rfl (Ga rfl (.nilCheck rfl) (Ga rfl (.field0 fa188_0 rfl) (Gd rfl (.loadB (v:= .map (some gm)) na186 rfl (((aj.le m).cn F (by have:=hp0.lt;have:=d.size;have:=c.size;have:=f.size;have:=h.size;omega)).le b) rfl) ?_))))))
   have al:=(((l.le (h.trans (D.trans m))).cn F (by have:=l.lt;have:=h.size;omega)).le b)
   refine Gd rfl (.loadAll ag81 (by rfl) rfl al) ?_
   refine Ga rfl (.field0 fa263_0 rfl) ?_
   have am:=(V.le b)
   refine Gd rfl (.loadB (v:= .int .i64 ((cnt (getG (wyE e) la) e.r).lo)) na3 rfl am rfl) (Gn 1 rfl (Ga rfl (.sub rfl rfl (by omega)) (Gd rfl (.min2 rfl rfl) (Ga rfl (.field0 fa263_1 rfl) (Gd rfl (.loadB (v:= .int .i64 ((cnt (getG (wyE e) la) e.r).hi)) na3 rfl am rfl) ?_)))))
   refine Gn 1 rfl (Gd rfl (.min2 rfl rfl) (Ga rfl (.field0 fa81_3 rfl) (Gd rfl (.loadB (v:= .int .i64 (e.r)) na3 rfl al rfl) (Ga rfl (.buildP (ntV (⟨(min ((cnt (getG (wyE e) la) e.r).lo) (a-1)),(min ((cnt (getG (wyE e) la) e.r).hi) a),e.r⟩:Nt)) pl263 z263 rfl rfl) (G.ef rfl rfl rfl rfl rfl ?_)))))
   refine Ef.call go168 rfl rfl (lthere_ok e A) ?_
   rintro _ bl ⟨rfl,N⟩
   refine⟨_,rfl,?_⟩
   refine⟨fun _=>N,?_⟩
   have an:=(aR.le b).le N
   rcases optG (getG (wyE e) la)with H|⟨bm,H⟩
   ·have aS:=(((U.le m).cn F (by have:=hM0.lt;have:=d.size;have:=c.size;have:=f.size;have:=h.size;omega)).le (b.trans N))
    refine G.ef0 rfl rfl rfl rfl (Ef.insertG (key:=(wyE e)) (u:=(⟨(min ((cnt (getG (wyE e) la) e.r).lo) (a-1)),(min ((cnt (getG (wyE e) la) e.r).hi) a),e.r⟩:Nt)) underlying186 kwy rfl rfl rfl aS (H) fun aT aU aV=>(noT (by kernel_rfl) ?_))
    have aW:ChP w aT (fun k=>k=gm):=an.ch aV (fun i hi _=>by cases hi;exact rfl)
    refine G.nil (E.end_ (E.ret0 rfl ?_))
    have hf:failM (fun k=>getG k la) e a=setM (fun k=>getG k la) (wyE e) (failN e a (ofM (fun k=>getG k la) (wyE e) e.r)):=if_pos (by assumption)
    rw[hf]
    exact⟨rfl,_,_,aU,fun k=>by rw[getG_push H];rfl,aW⟩
   refine G.ef0 rfl rfl rfl rfl (Ef.updateG (key:=(wyE e)) (u:=(⟨(min ((cnt (getG (wyE e) la) e.r).lo) (a-1)),(min ((cnt (getG (wyE e) la) e.r).hi) a),e.r⟩:Nt)) underlying186 kwy rfl rfl rfl (((U.le m).cn F (by have:=hM0.lt;have:=d.size;have:=c.size;have:=f.size;have:=h.size;omega)).le (b.trans N)) stay_wy (H) ?_)
   intro aX aY aZ
   refine noT (by kernel_rfl) ?_
   have a0:ChP w aX (fun k=>k=gm):=an.ch aZ (fun i hi _=>by cases hi;exact rfl)
   refine G.nil (E.end_ (E.ret0 rfl ?_))
   have hf:failM (fun k=>getG k la) e a=setM (fun k=>getG k la) (wyE e) (failN e a (ofM (fun k=>getG k la) (wyE e) e.r)):=if_pos (by assumption)
   rw[hf]
   exact⟨rfl,_,_,aY,fun k=>by rw[getG_set ⟨_,H⟩];rfl,a0⟩
  refine GT.last (G.ef rfl rfl rfl rfl rfl (Ef.allocA z263 fun ao ap a1 (a2:Blk ap ao 263 (ntV noNt).toArray) I=>⟨fun _=>I,?_⟩))
  refine G.ef rfl rfl rfl rfl rfl (Ef.call go168 rfl rfl (lthere_ok e ap) ?_)
  rintro _ a3 ⟨rfl,x⟩
  refine⟨_,rfl,?_⟩
  refine⟨fun _=>x,?_⟩
  have aq:=(hp0.le (d.trans (c.trans (f.trans (I.trans x)))))
  have X:=(hM0.le (d.trans (c.trans (f.trans (I.trans x)))))
  refine G.ef rfl rfl rfl rfl rfl (Ef.call go167 rfl rfl (lof_ok (wyE e) e.r a3 aq X hg (by omega) (by omega)) ?_)
  rintro _ bn ⟨rfl,s⟩
  refine⟨_,rfl,?_⟩
  refine⟨fun _=>s,?_⟩
  have a4:=((Q.le I).le x).le s
  have hof:=cnt_ok (fun n hn=>hg (wyE e) n hn) (show 0<e.r by omega) (show e.r<=1125899906842624 by omega)
  unfold okNt at hof
  refine G.ef0 rfl rfl rfl rfl (Ef.storeAll sz263 (by rfl) rfl rfl (a2.le (x.trans s)) (by simp only[List.size_toArray,ntV_row.len]) (ntV_row.one (cnt (getG (wyE e) la) e.r)) ?_)
  intro ar Y J
  refine noT (by kernel_rfl) ?_
  have Y:Blk ar ao 263 (ntV (cnt (getG (wyE e) la) e.r)).toArray:=Y
  have a5:ChP w ar (fun k=>k=gm):=a4.ch J (fun i hi hlt=>by cases hi;exact absurd hlt (by have:=Q.size;have:=a1;omega))
  refine G.nil (E.thenN (WC.draw [0,1,2,3,4,6,7,8,9,10,11,12,13,14,15,16,17,5,18] mixed (by kernel_rfl) fun A b=>(Gn 1 rfl (Ga rfl (.nilCheck rfl) (Ga rfl (.field0 fa188_0 rfl) (Gd rfl (.loadB (v:= .map (some gm)) na186 rfl (((aq.le s).cn J (by have:=hp0.lt;have:=d.size;have:=c.size;have:=f.size;omega)).le b) rfl) ?_))))))
  have au:=(((l.le (I.trans (x.trans s))).cn J (by have:=l.lt;omega)).le b)
  refine Gd rfl (.loadAll ag81 (by rfl) rfl au) ?_
  refine Ga rfl (.field0 fa263_0 rfl) ?_
  have av:=(Y.le b)
  refine Gd rfl (.loadB (v:= .int .i64 ((cnt (getG (wyE e) la) e.r).lo)) na3 rfl av rfl) (Gn 1 rfl (Ga rfl (.sub rfl rfl (by omega)) (Gd rfl (.min2 rfl rfl) (Ga rfl (.field0 fa263_1 rfl) (Gd rfl (.loadB (v:= .int .i64 ((cnt (getG (wyE e) la) e.r).hi)) na3 rfl av rfl) ?_)))))
  refine Gn 1 rfl (Gd rfl (.min2 rfl rfl) (Ga rfl (.field0 fa81_3 rfl) (Gd rfl (.loadB (v:= .int .i64 (e.r)) na3 rfl au rfl) (Ga rfl (.buildP (ntV (⟨(min ((cnt (getG (wyE e) la) e.r).lo) (a-1)),(min ((cnt (getG (wyE e) la) e.r).hi) a),e.r⟩:Nt)) pl263 z263 rfl rfl) (G.ef rfl rfl rfl rfl rfl ?_)))))
  refine Ef.call go168 rfl rfl (lthere_ok e A) ?_
  rintro _ bo ⟨rfl,O⟩
  refine⟨_,rfl,?_⟩
  refine⟨fun _=>O,?_⟩
  have aw:=(a5.le b).le O
  rcases optG (getG (wyE e) la)with K|⟨bp,K⟩
  ·have a6:=(((X.le s).cn J (by have:=hM0.lt;have:=d.size;have:=c.size;have:=f.size;omega)).le (b.trans O))
   refine G.ef0 rfl rfl rfl rfl (Ef.insertG (key:=(wyE e)) (u:=(⟨(min ((cnt (getG (wyE e) la) e.r).lo) (a-1)),(min ((cnt (getG (wyE e) la) e.r).hi) a),e.r⟩:Nt)) underlying186 kwy rfl rfl rfl a6 (K) fun a7 a8 a9=>(noT (by kernel_rfl) ?_))
   have ba:ChP w a7 (fun k=>k=gm):=aw.ch a9 (fun i hi _=>by cases hi;exact rfl)
   refine G.nil (E.end_ (E.ret0 rfl ?_))
   have hf:failM (fun k=>getG k la) e a=setM (fun k=>getG k la) (wyE e) (failN e a (ofM (fun k=>getG k la) (wyE e) e.r)):=if_pos (by assumption)
   rw[hf]
   exact⟨rfl,_,_,a8,fun k=>by rw[getG_push K];rfl,ba⟩
  refine G.ef0 rfl rfl rfl rfl (Ef.updateG (key:=(wyE e)) (u:=(⟨(min ((cnt (getG (wyE e) la) e.r).lo) (a-1)),(min ((cnt (getG (wyE e) la) e.r).hi) a),e.r⟩:Nt)) underlying186 kwy rfl rfl rfl (((X.le s).cn J (by have:=hM0.lt;have:=d.size;have:=c.size;have:=f.size;omega)).le (b.trans O)) stay_wy (K) ?_)
  intro bb bc bd
  refine noT (by kernel_rfl) ?_
  have be:ChP w bb (fun k=>k=gm):=aw.ch bd (fun i hi _=>by cases hi;exact rfl)
  refine G.nil (E.end_ (E.ret0 rfl ?_))
  have hf:failM (fun k=>getG k la) e a=setM (fun k=>getG k la) (wyE e) (failN e a (ofM (fun k=>getG k la) (wyE e) e.r)):=if_pos (by assumption)
  rw[hf]
  exact⟨rfl,_,_,bc,fun k=>by rw[getG_set ⟨_,K⟩];rfl,be⟩
 refine Cn rfl ((Bool.eq_false_iff.2 P)) (WC.skip (E.end_ (E.ret0 rfl ?_)))
 have hf:failM (fun k=>getG k la) e a=(fun k=>getG k la):=if_neg (by simp[P])
 rw[hf]
 exact⟨rfl,_,_,(hM0.le (d.trans c)),fun k=>rfl,L2⟩

theorem lpass_ok {gp gm ca:Nat}{la:MMl}(e:Gsp.Edge)(a:Int)(w:World)(hp0:Blk w gp 188 #[.map (some gm)])(hM0:MapG w wyf ntf gm la ca)(hg:∀k v,getG k la=some v->okNt v)(n1:gp≠gm):Calls prog 81 #[.pointer (some ⟨gp,0,none⟩),.agg (edgeV e).toArray,.int .i64 (a)] w fun r w'=>r= .returned (.tuple #[])/\∃la' ca',MapG w' wyf ntf gm la' ca'/\(∀k,getG k la'=passM (fun k=>getG k la) e a k)/\ChP w w' (fun k=>k=gm):=by
 refine enter func81 rfl rfl (Sr (W.ef rfl rfl rfl (Ef.boxA rfl fun ax Z bf (aa:Blk Z ax 81 (edgeV e).toArray) d=>(Nx (Sr (Wr (.loadAll ag81 (by rfl) rfl aa) rfl ?_))))))
 refine Wn 1 rfl (W.cl go176 rfl rfl (lsome_ok e a Z) ?_)
 rintro _ bg ⟨rfl,c⟩
 have L2:=((ChP.refl w (fun k=>k=gm)).le d).le c
 refine Nx ?_
 by_cases P:(someM e a)=true
 ·refine Cy rfl (P) ?_
  have hsm:=someM_T (by assumption:someM e a=true)
  have hmz:=mayM_T hsm.1
  refine Sq (WC.drawT (fun o=>(app o [0,1,3,4] (.br (app o [2] (.br (app o [5,6,7] .nil) (app o [6,5,7] .nil))) (app o [6,2,5,7] .nil)))) mixed (by kernel_rfl) fun w2 f=>?_)
  have Q:=L2.le f
  refine GT.app (Gn 1 rfl ?_)
  have l:=(aa.le (c.trans f))
  refine Gd rfl (.loadAll ag81 (by rfl) rfl l) ?_
  refine Ga rfl (.field0 fa81_3 rfl) (Gd rfl (.loadB (v:= .int .i64 (e.r)) na3 rfl l rfl) (G.nil (GT.br ?_ ?_)))
  ·refine GT.app (G.ef rfl rfl rfl rfl rfl (Ef.call go168 rfl rfl (lthere_ok e w2) ?_))
   rintro _ ay ⟨rfl,h⟩
   refine⟨_,rfl,?_⟩
   refine⟨fun _=>h,?_⟩
   have R:=Q.le h
   refine G.nil (GT.br ?_ ?_)
   ·refine GT.last ?_
    have S:=(hp0.le (d.trans (c.trans (f.trans h))))
    have y:=(hM0.le (d.trans (c.trans (f.trans h))))
    refine G.ef rfl rfl rfl rfl rfl (Ef.call go167 rfl rfl (lof_ok (wyE e) e.r ay S y hg (by omega) (by omega)) ?_)
    rintro _ bh ⟨rfl,j⟩
    refine⟨_,rfl,?_⟩
    refine⟨fun _=>j,?_⟩
    have L8:=R.le j
    have hof:=cnt_ok (fun n hn=>hg (wyE e) n hn) (show 0<e.r by omega) (show e.r<=1125899906842624 by omega)
    unfold okNt at hof
    refine G.ef rfl rfl rfl rfl rfl (Ef.allocA z263 fun ab az aA (aB:Blk az ab 263 (ntV noNt).toArray) t=>⟨fun _=>t,?_⟩)
    have L9:=L8.le t
    refine G.ef0 rfl rfl rfl rfl (Ef.storeAll sz263 (by rfl) rfl rfl aB (by simp only[List.size_toArray,ntV_row.len]) (ntV_row.one (cnt (getG (wyE e) la) e.r)) ?_)
    intro ac T z
    refine noT (by kernel_rfl) ?_
    have T:Blk ac ab 263 (ntV (cnt (getG (wyE e) la) e.r)).toArray:=T
    have aC:ChP w ac (fun k=>k=gm):=L9.ch z (fun i hi hlt=>by cases hi;exact absurd hlt (by have:=L8.size;have:=aA;omega))
    refine G.nil (E.thenN (WC.draw [0,1,2,3,4,6,7,8,9,10,11,12,13,14,15,16,17,5,18] mixed (by kernel_rfl) fun A b=>(Gn 1 rfl (Ga rfl (.nilCheck rfl) (Ga rfl (.field0 fa188_0 rfl) (Gd rfl (.loadB (v:= .map (some gm)) na186 rfl (((S.le (j.trans t)).cn z (by have:=S.lt;have:=j.size;omega)).le b) rfl) ?_))))))
    have ad:=(((l.le (h.trans (j.trans t))).cn z (by have:=l.lt;have:=h.size;have:=j.size;omega)).le b)
    refine Gd rfl (.loadAll ag81 (by rfl) rfl ad) ?_
    refine Ga rfl (.field0 fa263_0 rfl) ?_
    have ae:=(T.le b)
    refine Gd rfl (.loadB (v:= .int .i64 ((cnt (getG (wyE e) la) e.r).lo)) na3 rfl ae rfl) (Gn 1 rfl (Gd rfl (.max2 rfl rfl) (Ga rfl (.field0 fa263_1 rfl) (Gd rfl (.loadB (v:= .int .i64 ((cnt (getG (wyE e) la) e.r).hi)) na3 rfl ae rfl) (Gn 1 rfl ?_)))))
    refine Ga rfl (.add rfl rfl (by omega)) (Gd rfl (.max2 rfl rfl) (Ga rfl (.field0 fa81_3 rfl) (Gd rfl (.loadB (v:= .int .i64 (e.r)) na3 rfl ad rfl) (Ga rfl (.buildP (ntV (⟨(max ((cnt (getG (wyE e) la) e.r).lo) a),(max ((cnt (getG (wyE e) la) e.r).hi) (a+1)),e.r⟩:Nt)) pl263 z263 rfl rfl) (G.ef rfl rfl rfl rfl rfl ?_)))))
    refine Ef.call go168 rfl rfl (lthere_ok e A) ?_
    rintro _ bi ⟨rfl,L⟩
    refine⟨_,rfl,?_⟩
    refine⟨fun _=>L,?_⟩
    have af:=(aC.le b).le L
    rcases optG (getG (wyE e) la)with C|⟨bj,C⟩
    ·have aE:=(((y.le (j.trans t)).cn z (by have:=y.lt;have:=j.size;omega)).le (b.trans L))
     refine G.ef0 rfl rfl rfl rfl (Ef.insertG (key:=(wyE e)) (u:=(⟨(max ((cnt (getG (wyE e) la) e.r).lo) a),(max ((cnt (getG (wyE e) la) e.r).hi) (a+1)),e.r⟩:Nt)) underlying186 kwy rfl rfl rfl aE (C) fun aF aG aH=>(noT (by kernel_rfl) ?_))
     have aI:ChP w aF (fun k=>k=gm):=af.ch aH (fun i hi _=>by cases hi;exact rfl)
     refine G.nil (E.end_ (E.ret0 rfl ?_))
     have hf:passM (fun k=>getG k la) e a=setM (fun k=>getG k la) (wyE e) (passN e a (ofM (fun k=>getG k la) (wyE e) e.r)):=if_pos (by assumption)
     rw[hf]
     exact⟨rfl,_,_,aG,fun k=>by rw[getG_push C];rfl,aI⟩
    refine G.ef0 rfl rfl rfl rfl (Ef.updateG (key:=(wyE e)) (u:=(⟨(max ((cnt (getG (wyE e) la) e.r).lo) a),(max ((cnt (getG (wyE e) la) e.r).hi) (a+1)),e.r⟩:Nt)) underlying186 kwy rfl rfl rfl (((y.le (j.trans t)).cn z (by have:=y.lt;have:=j.size;omega)).le (b.trans L)) stay_wy (C) ?_)
    intro aJ aK aL
    refine noT (by kernel_rfl) ?_
    have aM:ChP w aJ (fun k=>k=gm):=af.ch aL (fun i hi _=>by cases hi;exact rfl)
    refine G.nil (E.end_ (E.ret0 rfl ?_))
    have hf:passM (fun k=>getG k la) e a=setM (fun k=>getG k la) (wyE e) (passN e a (ofM (fun k=>getG k la) (wyE e) e.r)):=if_pos (by assumption)
    rw[hf]
    exact⟨rfl,_,_,aK,fun k=>by rw[getG_set ⟨_,C⟩];rfl,aM⟩
   refine GT.last (G.ef rfl rfl rfl rfl rfl (Ef.allocA z263 fun ah ai aO (aP:Blk ai ah 263 (ntV noNt).toArray) D=>⟨fun _=>D,?_⟩))
   have aj:=(hp0.le (d.trans (c.trans (f.trans (h.trans D)))))
   have U:=(hM0.le (d.trans (c.trans (f.trans (h.trans D)))))
   refine G.ef rfl rfl rfl rfl rfl (Ef.call go167 rfl rfl (lof_ok (wyE e) e.r ai aj U hg (by omega) (by omega)) ?_)
   rintro _ bk ⟨rfl,m⟩
   refine⟨_,rfl,?_⟩
   refine⟨fun _=>m,?_⟩
   have aQ:=(R.le D).le m
   have hof:=cnt_ok (fun n hn=>hg (wyE e) n hn) (show 0<e.r by omega) (show e.r<=1125899906842624 by omega)
   unfold okNt at hof
   refine G.ef0 rfl rfl rfl rfl (Ef.storeAll sz263 (by rfl) rfl rfl (aP.le m) (by simp only[List.size_toArray,ntV_row.len]) (ntV_row.one (cnt (getG (wyE e) la) e.r)) ?_)
   intro ak V F
   refine noT (by kernel_rfl) ?_
   have V:Blk ak ah 263 (ntV (cnt (getG (wyE e) la) e.r)).toArray:=V
   have aR:ChP w ak (fun k=>k=gm):=aQ.ch F (fun i hi hlt=>by cases hi;exact absurd hlt (by have:=R.size;have:=aO;omega))
   refine G.nil (E.thenN (WC.draw [0,1,2,3,4,6,7,8,9,10,11,12,13,14,15,16,17,5,18] mixed (by kernel_rfl) fun A b=>(Gn 1 rfl (Ga rfl (.nilCheck rfl) (Ga rfl (.field0 fa188_0 rfl) (Gd rfl (.loadB (v:= .map (some gm)) na186 rfl (((aj.le m).cn F (by have:=hp0.lt;have:=d.size;have:=c.size;have:=f.size;have:=h.size;omega)).le b) rfl) ?_))))))
   have al:=(((l.le (h.trans (D.trans m))).cn F (by have:=l.lt;have:=h.size;omega)).le b)
   refine Gd rfl (.loadAll ag81 (by rfl) rfl al) ?_
   refine Ga rfl (.field0 fa263_0 rfl) ?_
   have am:=(V.le b)
   refine Gd rfl (.loadB (v:= .int .i64 ((cnt (getG (wyE e) la) e.r).lo)) na3 rfl am rfl) (Gn 1 rfl (Gd rfl (.max2 rfl rfl) (Ga rfl (.field0 fa263_1 rfl) (Gd rfl (.loadB (v:= .int .i64 ((cnt (getG (wyE e) la) e.r).hi)) na3 rfl am rfl) (Gn 1 rfl ?_)))))
   refine Ga rfl (.add rfl rfl (by omega)) (Gd rfl (.max2 rfl rfl) (Ga rfl (.field0 fa81_3 rfl) (Gd rfl (.loadB (v:= .int .i64 (e.r)) na3 rfl al rfl) (Ga rfl (.buildP (ntV (⟨(max ((cnt (getG (wyE e) la) e.r).lo) a),(max ((cnt (getG (wyE e) la) e.r).hi) (a+1)),e.r⟩:Nt)) pl263 z263 rfl rfl) (G.ef rfl rfl rfl rfl rfl ?_)))))
   refine Ef.call go168 rfl rfl (lthere_ok e A) ?_
   rintro _ bl ⟨rfl,N⟩
   refine⟨_,rfl,?_⟩
   refine⟨fun _=>N,?_⟩
   have an:=(aR.le b).le N
   rcases optG (getG (wyE e) la)with H|⟨bm,H⟩
   ·have aS:=(((U.le m).cn F (by have:=hM0.lt;have:=d.size;have:=c.size;have:=f.size;have:=h.size;omega)).le (b.trans N))
    refine G.ef0 rfl rfl rfl rfl (Ef.insertG (key:=(wyE e)) (u:=(⟨(max ((cnt (getG (wyE e) la) e.r).lo) a),(max ((cnt (getG (wyE e) la) e.r).hi) (a+1)),e.r⟩:Nt)) underlying186 kwy rfl rfl rfl aS (H) fun aT aU aV=>(noT (by kernel_rfl) ?_))
    have aW:ChP w aT (fun k=>k=gm):=an.ch aV (fun i hi _=>by cases hi;exact rfl)
    refine G.nil (E.end_ (E.ret0 rfl ?_))
    have hf:passM (fun k=>getG k la) e a=setM (fun k=>getG k la) (wyE e) (passN e a (ofM (fun k=>getG k la) (wyE e) e.r)):=if_pos (by assumption)
    rw[hf]
    exact⟨rfl,_,_,aU,fun k=>by rw[getG_push H];rfl,aW⟩
   refine G.ef0 rfl rfl rfl rfl (Ef.updateG (key:=(wyE e)) (u:=(⟨(max ((cnt (getG (wyE e) la) e.r).lo) a),(max ((cnt (getG (wyE e) la) e.r).hi) (a+1)),e.r⟩:Nt)) underlying186 kwy rfl rfl rfl (((U.le m).cn F (by have:=hM0.lt;have:=d.size;have:=c.size;have:=f.size;have:=h.size;omega)).le (b.trans N)) stay_wy (H) ?_)
   intro aX aY aZ
   refine noT (by kernel_rfl) ?_
   have a0:ChP w aX (fun k=>k=gm):=an.ch aZ (fun i hi _=>by cases hi;exact rfl)
   refine G.nil (E.end_ (E.ret0 rfl ?_))
   have hf:passM (fun k=>getG k la) e a=setM (fun k=>getG k la) (wyE e) (passN e a (ofM (fun k=>getG k la) (wyE e) e.r)):=if_pos (by assumption)
   rw[hf]
   exact⟨rfl,_,_,aY,fun k=>by rw[getG_set ⟨_,H⟩];rfl,a0⟩
  refine GT.last (G.ef rfl rfl rfl rfl rfl (Ef.allocA z263 fun ao ap a1 (a2:Blk ap ao 263 (ntV noNt).toArray) I=>⟨fun _=>I,?_⟩))
  refine G.ef rfl rfl rfl rfl rfl (Ef.call go168 rfl rfl (lthere_ok e ap) ?_)
  rintro _ a3 ⟨rfl,x⟩
  refine⟨_,rfl,?_⟩
  refine⟨fun _=>x,?_⟩
  have aq:=(hp0.le (d.trans (c.trans (f.trans (I.trans x)))))
  have X:=(hM0.le (d.trans (c.trans (f.trans (I.trans x)))))
  refine G.ef rfl rfl rfl rfl rfl (Ef.call go167 rfl rfl (lof_ok (wyE e) e.r a3 aq X hg (by omega) (by omega)) ?_)
  rintro _ bn ⟨rfl,s⟩
  refine⟨_,rfl,?_⟩
  refine⟨fun _=>s,?_⟩
  have a4:=((Q.le I).le x).le s
  have hof:=cnt_ok (fun n hn=>hg (wyE e) n hn) (show 0<e.r by omega) (show e.r<=1125899906842624 by omega)
  unfold okNt at hof
  refine G.ef0 rfl rfl rfl rfl (Ef.storeAll sz263 (by rfl) rfl rfl (a2.le (x.trans s)) (by simp only[List.size_toArray,ntV_row.len]) (ntV_row.one (cnt (getG (wyE e) la) e.r)) ?_)
  intro ar Y J
  refine noT (by kernel_rfl) ?_
  have Y:Blk ar ao 263 (ntV (cnt (getG (wyE e) la) e.r)).toArray:=Y
  have a5:ChP w ar (fun k=>k=gm):=a4.ch J (fun i hi hlt=>by cases hi;exact absurd hlt (by have:=Q.size;have:=a1;omega))
  refine G.nil (E.thenN (WC.draw [0,1,2,3,4,6,7,8,9,10,11,12,13,14,15,16,17,5,18] mixed (by kernel_rfl) fun A b=>(Gn 1 rfl (Ga rfl (.nilCheck rfl) (Ga rfl (.field0 fa188_0 rfl) (Gd rfl (.loadB (v:= .map (some gm)) na186 rfl (((aq.le s).cn J (by have:=hp0.lt;have:=d.size;have:=c.size;have:=f.size;omega)).le b) rfl) ?_))))))
  have au:=(((l.le (I.trans (x.trans s))).cn J (by have:=l.lt;omega)).le b)
  refine Gd rfl (.loadAll ag81 (by rfl) rfl au) ?_
  refine Ga rfl (.field0 fa263_0 rfl) ?_
  have av:=(Y.le b)
  refine Gd rfl (.loadB (v:= .int .i64 ((cnt (getG (wyE e) la) e.r).lo)) na3 rfl av rfl) (Gn 1 rfl (Gd rfl (.max2 rfl rfl) (Ga rfl (.field0 fa263_1 rfl) (Gd rfl (.loadB (v:= .int .i64 ((cnt (getG (wyE e) la) e.r).hi)) na3 rfl av rfl) (Gn 1 rfl ?_)))))
  refine Ga rfl (.add rfl rfl (by omega)) (Gd rfl (.max2 rfl rfl) (Ga rfl (.field0 fa81_3 rfl) (Gd rfl (.loadB (v:= .int .i64 (e.r)) na3 rfl au rfl) (Ga rfl (.buildP (ntV (⟨(max ((cnt (getG (wyE e) la) e.r).lo) a),(max ((cnt (getG (wyE e) la) e.r).hi) (a+1)),e.r⟩:Nt)) pl263 z263 rfl rfl) (G.ef rfl rfl rfl rfl rfl ?_)))))
  refine Ef.call go168 rfl rfl (lthere_ok e A) ?_
  rintro _ bo ⟨rfl,O⟩
  refine⟨_,rfl,?_⟩
  refine⟨fun _=>O,?_⟩
  have aw:=(a5.le b).le O
  rcases optG (getG (wyE e) la)with K|⟨bp,K⟩
  ·have a6:=(((X.le s).cn J (by have:=hM0.lt;have:=d.size;have:=c.size;have:=f.size;omega)).le (b.trans O))
   refine G.ef0 rfl rfl rfl rfl (Ef.insertG (key:=(wyE e)) (u:=(⟨(max ((cnt (getG (wyE e) la) e.r).lo) a),(max ((cnt (getG (wyE e) la) e.r).hi) (a+1)),e.r⟩:Nt)) underlying186 kwy rfl rfl rfl a6 (K) fun a7 a8 a9=>(noT (by kernel_rfl) ?_))
   have ba:ChP w a7 (fun k=>k=gm):=aw.ch a9 (fun i hi _=>by cases hi;exact rfl)
   refine G.nil (E.end_ (E.ret0 rfl ?_))
   have hf:passM (fun k=>getG k la) e a=setM (fun k=>getG k la) (wyE e) (passN e a (ofM (fun k=>getG k la) (wyE e) e.r)):=if_pos (by assumption)
   rw[hf]
   exact⟨rfl,_,_,a8,fun k=>by rw[getG_push K];rfl,ba⟩
  refine G.ef0 rfl rfl rfl rfl (Ef.updateG (key:=(wyE e)) (u:=(⟨(max ((cnt (getG (wyE e) la) e.r).lo) a),(max ((cnt (getG (wyE e) la) e.r).hi) (a+1)),e.r⟩:Nt)) underlying186 kwy rfl rfl rfl (((X.le s).cn J (by have:=hM0.lt;have:=d.size;have:=c.size;have:=f.size;omega)).le (b.trans O)) stay_wy (K) ?_)
  intro bb bc bd
  refine noT (by kernel_rfl) ?_
  have be:ChP w bb (fun k=>k=gm):=aw.ch bd (fun i hi _=>by cases hi;exact rfl)
  refine G.nil (E.end_ (E.ret0 rfl ?_))
  have hf:passM (fun k=>getG k la) e a=setM (fun k=>getG k la) (wyE e) (passN e a (ofM (fun k=>getG k la) (wyE e) e.r)):=if_pos (by assumption)
  rw[hf]
  exact⟨rfl,_,_,bc,fun k=>by rw[getG_set ⟨_,K⟩];rfl,be⟩
 refine Cn rfl ((Bool.eq_false_iff.2 P)) (WC.skip (E.end_ (E.ret0 rfl ?_)))
 have hf:passM (fun k=>getG k la) e a=(fun k=>getG k la):=if_neg (by simp[P])
 rw[hf]
 exact⟨rfl,_,_,(hM0.le (d.trans c)),fun k=>rfl,L2⟩

theorem wclone_ok {g ck:Nat}{l:MMl}(w:World)(hM:MapG w wyf ntf g l ck):Calls prog 180 #[.map (some g)] w fun r w'=>∃g',r= .returned (.map (some g'))/\w.heap.size<=g'/\MapG w' wyf ntf g' l ck/\Le w w':=by
 refine enter func180 rfl rfl ?_
 have b:=Le.refl w
 refine Sr (Wn 1 rfl (Nx (Sq (Sr (Wn 1 rfl (Wa (.dec (.isNilM underlying186 rfl) rfl) rfl (Nx (WC.condF rfl (Sn (Sr (Wn 1 rfl (Wa (.makeI underlying186 rfl rfl) rfl (W.ef rfl rfl rfl (Ef.cloneM func250 rfl rfl (by kernel_rfl) (by kernel_rfl) rfl (hM.le b) ?_))))))))))))))
 intro f h c d e
 refine Wr (.assertM underlying186 rfl) rfl (Wn 1 rfl (Nx (Rt (E.retG1 rfl rfl ?_))))
 exact⟨_,rfl,(by have:=c;have:=b.size;omega),d,(b.trans e)⟩

theorem lnew_ok (w:World):Calls prog 64 #[] w fun r w'=>∃gp gm,r= .returned (.pointer (some ⟨gp,0,none⟩))/\Blk w' gp 188 #[.map (some gm)]/\MapG w' wyf ntf gm [] 0/\w.heap.size<=gp/\w.heap.size<=gm/\gp≠gm/\Le w w':=by
 refine enter func64 rfl rfl ?_
 have c:=Le.refl w
 refine Sr (Wn 1 rfl (Nx (Sr (W.ef rfl rfl rfl (Ef.makeMapG wyf ntf fun b n i d j=>?_)))))
 have e:=c.trans j
 refine Wa (.buildP [.map (some b)] pl188 z188 rfl rfl) rfl (W.ef rfl rfl rfl (Ef.boxA rfl fun f k l (m:Blk k f 188 #[.map (some b)]) h=>(Wn 1 rfl (Nx (Rt (E.retG1 rfl rfl ?_))))))
 exact⟨_,_,rfl,m,(d.le h),(by have:=l;have:=e.size;omega),(by have:=i;have:=c.size;omega),(show f≠b from by have:=d.lt;omega),(e.trans h)⟩

theorem lcopy_ok {gp gm ca:Nat}{la:MMl}(w:World)(hp:Blk w gp 188 #[.map (some gm)])(hM:MapG w wyf ntf gm la ca)(hg:∀k v,getG k la=some v->okNt v):Calls prog 85 #[.pointer (some ⟨gp,0,none⟩)] w fun r w'=>∃gp gm,r= .returned (.pointer (some ⟨gp,0,none⟩))/\Blk w' gp 188 #[.map (some gm)]/\MapG w' wyf ntf gm la ca/\w.heap.size<=gp/\w.heap.size<=gm/\gp≠gm/\Le w w':=by
 refine enter func85 rfl rfl ?_
 have b:=Le.refl w
 refine Sr (Wn 1 rfl (Nx (Sr (Wn 1 rfl (Wa (.nilCheck rfl) rfl (Wa (.field0 fa188_0 rfl) rfl (Wr (.loadB (v:= .map (some gm)) na186 rfl (hp.le b) rfl) rfl (W.cl go180 rfl rfl (wclone_ok w (hM.le b)) ?_))))))))
 rintro _ o ⟨c,rfl,i,d,j⟩
 have e:=b.trans j
 refine Wa (.buildP [.map (some c)] pl188 z188 rfl rfl) rfl (W.ef rfl rfl rfl (Ef.boxA rfl fun f l m (n:Blk l f 188 #[.map (some c)]) h=>(Wn 1 rfl (Nx (Rt (E.retG1 rfl rfl ?_))))))
 exact⟨_,_,rfl,n,(d.le h),(by have:=m;have:=e.size;omega),(by have:=i;have:=b.size;omega),(show f≠c from by have:=d.lt;omega),(e.trans h)⟩
end Go.Proofs.YtocheaahlpiajaaGreatDoor

namespace Go.Proofs.YtocheaahlpiajaaGreatDoor
open Tryz
open Go Go.Sx Go.Num Go.Gsp Go.Nsp Go.Msp
set_option maxRecDepth 20000
def GrownM (w:World)(F F':Nat->Prop):Prop:=∀k,F' k->F k\/w.heap.size<=k
def MPool (w:World)(base gp:Nat)(F:Nat->Prop)(m:MF):Prop:=∃gm la ca,Blk w gp 188 #[.map (some gm)]/\MapG w wyf ntf gm la ca/\(fun k=>getG k la)=m/\GoodM m/\gp≠gm/\(∀k,F k↔k=gp\/k=gm)/\base<=gp/\base<=gm
section
variable {w w':World}{base gp:Nat}{F:Nat->Prop}{m:MF}
theorem MPool.chP {F':Nat->Prop}(h:MPool w base gp F m)(hc:ChP w w' F')(hne:∀k,F k->¬F' k):MPool w' base gp F m:=by
  obtain⟨gm,la,ca,c,d,e,f,i,b,j,l⟩:=h
  exact⟨gm,la,ca,c.chP hc (hne _ ((b _).2 (.inl rfl))),d.chP hc (hne _ ((b _).2 (.inr rfl))),e,f,i,b,j,l⟩
theorem MPool.ch {r:Option Nat}(h:MPool w base gp F m)(hc:Ch w w' r)(hne:∀k,r=some k->¬F k):MPool w' base gp F m:=h.chP (hc.chP (F:=fun k=>r=some k) (fun i hi=>hi)) (fun k hk hr=>hne k hr hk)
theorem MPool.le (h:MPool w base gp F m)(hl:Le w w'):MPool w' base gp F m:=h.chP (hl.chP (fun _=>False)) (fun _ _ hf=>hf)
theorem MPool.lt (h:MPool w base gp F m){k:Nat}(hk:F k):k<w.heap.size:=by
  obtain⟨gm,la,ca,b,c,e,f,i,d,j,l⟩:=h
  rcases(d k).1 hk with rfl|rfl
  · exact b.lt
  · exact c.lt
theorem MPool.good (h:MPool w base gp F m):GoodM m:=by
  obtain⟨gm,la,ca,c,d,e,b,f,i,j,k⟩:=h
  exact b
theorem MPool.old (h:MPool w base gp F m){k:Nat}(hk:F k):base<=k:=by
  obtain⟨gm,la,ca,e,f,i,j,l,b,c,d⟩:=h
  rcases(b k).1 hk with rfl|rfl
  · exact c
  · exact d
theorem MPool.size (h:MPool w base gp F m):base<=w.heap.size:=by
  obtain⟨gm,la,ca,b,c,d,e,f,i,j,k⟩:=h
  have:=b.lt
  omega
theorem goodG {la:MMl}(h4:GoodM (fun k=>getG k la)):∀k v,getG k la=some v->okNt v:=fun k v hv=>h4 k v hv
def ActedM (w:World)(base gp:Nat)(F:Nat->Prop)(m:MF):Ending->World->Prop:=fun e w'=>e= .returned (.tuple #[])/\MPool w' base gp F m/\GrownM w F F/\ChP w w' F
theorem new_mind (w:World):Calls prog 64 #[] w fun r w'=>∃gp F,r= .returned (.pointer (some ⟨gp,0,none⟩))/\MPool w' w.heap.size gp F (fun _=>none)/\Le w w':=by
  refine Calls.mono (lnew_ok w) ?_
  rintro r w' ⟨gp,gm,hr,b,c,d,e,f,i⟩
  exact⟨gp,fun k=>k=gp\/k=gm,hr,⟨gm,[],0,b,c,rfl,(fun _ _ h=>by cases h),f,fun _=>Iff.rfl,d,e⟩,i⟩
theorem copy_mind (h:MPool w base gp F m):Calls prog 85 #[.pointer (some ⟨gp,0,none⟩)] w fun r w'=>∃gp' F',r= .returned (.pointer (some ⟨gp',0,none⟩))/\MPool w' w.heap.size gp' F' m/\Le w w':=by
  obtain⟨gm,la,ca,c,d,rfl,b,l,n,o,s⟩:=h
  refine Calls.mono (lcopy_ok w c d (goodG b)) ?_
  rintro r w' ⟨gp',gm',hr,k1,k2,e,f,i,j⟩
  exact⟨gp',fun k=>k=gp'\/k=gm',hr,⟨gm',la,ca,k1,k2,rfl,b,i,fun _=>Iff.rfl,e,f⟩,j⟩
theorem bnd_mind (e:Gsp.Edge)(h:MPool w base gp F m):Calls prog 72 #[.pointer (some ⟨gp,0,none⟩),.agg (edgeV e).toArray] w fun r w'=>r= .returned (.tuple #[.int .i64 (bndM m e).1,.int .i64 (bndM m e).2])/\Le w w':=by
  obtain⟨gm,la,ca,b,c,rfl,d,f,i,j,k⟩:=h
  exact lbnd_ok e w b c (goodG d)
theorem odds_mind (e:Gsp.Edge)(a:Int)(h:MPool w base gp F m):Calls prog 44 #[.pointer (some ⟨gp,0,none⟩),.agg (edgeV e).toArray,.int .i64 a] w fun r w'=>∃A1 c1 A2 c2,r= .returned (.tuple #[.agg #[.slice A1 (digs (oddsM m e a).n).length c1,.slice A2 (digs (oddsM m e a).d).length c2],.bool (goesM e a)])/\OVec w' w.heap.size 273 dv 1 A1 (digs (oddsM m e a).n).length c1 (digs (oddsM m e a).n)/\OVec w' w.heap.size 273 dv 1 A2 (digs (oddsM m e a).d).length c2 (digs (oddsM m e a).d)/\Le w w':=by
  obtain⟨gm,la,ca,b,c,rfl,f,i,j,k,l⟩:=h
  exact lodds_ok e a w b c (goodG f)
theorem fail_mind (e:Gsp.Edge)(a:Int)(h:MPool w base gp F m):Calls prog 80 #[.pointer (some ⟨gp,0,none⟩),.agg (edgeV e).toArray,.int .i64 a] w (ActedM w base gp F (failM m e a)):=by
  obtain⟨gm,la,ca,c,j,rfl,d,b,f,l,n⟩:=h
  refine Calls.mono (lfail_ok e a w c j (goodG d) b) ?_
  rintro r w' ⟨hr,la',ca',k1,k2,i⟩
  exact⟨hr,⟨gm,la',ca',c.chP i b,k1,funext k2,failM_good d e a,b,f,l,n⟩,fun k hk=> .inl hk,i.mono fun k hk _=>(f k).2 (.inr hk)⟩
theorem pass_mind (e:Gsp.Edge)(a:Int)(h:MPool w base gp F m):Calls prog 81 #[.pointer (some ⟨gp,0,none⟩),.agg (edgeV e).toArray,.int .i64 a] w (ActedM w base gp F (passM m e a)):=by
  obtain⟨gm,la,ca,c,j,rfl,d,b,f,l,n⟩:=h
  refine Calls.mono (lpass_ok e a w c j (goodG d) b) ?_
  rintro r w' ⟨hr,la',ca',k1,k2,i⟩
  exact⟨hr,⟨gm,la',ca',c.chP i b,k1,funext k2,passM_good d e a,b,f,l,n⟩,fun k hk=> .inl hk,i.mono fun k hk _=>(f k).2 (.inr hk)⟩
end
end Go.Proofs.YtocheaahlpiajaaGreatDoor

namespace Go.Rtp
open Go.Gsp Go.Nsp Go.Msp Go.Proofs.YtocheaahlpiajaaGreatDoor
def accO (m:MF)(xs:List Gsp.Edge)(s:List Int):Nat->Fr
  |0=>lowF 1 1
  |k+1=>mulF (takF (accO m xs s k)) (takF (oddsM m (xs.getD k noEdge) (s.getD k 0)))
def oddsR (m:MF)(xs:List Gsp.Edge)(a x:Int):Fr×Int×Int:=
  if(costG xs a x).2.2=0 then(accO m xs (costG xs a x).1 xs.length,(costG xs a x).1.getD 0 0,0)else(⟨0,0⟩,0,(costG xs a x).2.2)
structure Fnd where
  way:List Gsp.Edge
  odds:Fr
  sent:Int
def noFnd:Fnd:=⟨[],⟨0,0⟩,0⟩
def rowsC:List Gsp.Edge->List Gsp.Edge->Int
  |[],[]=>0
  |[],_::_=> -1
  |_::_,[]=>1
  |x::xs,y::ys=>if cmpI x.c y.c≠0 then cmpI x.c y.c else rowsC xs ys
def betterR (a b:Fnd):Bool:=decide (orL [cmpF (takF b.odds) (takF a.odds),cmpI a.sent b.sent,rowsC a.way b.way]<0)
def cutR (way:List Gsp.Edge)(r:Fr×Int×Int)(b:Fnd):Prop:=way≠[]/\(r.2.2≠0\/r.1.n=0\/(b.way≠[]/\cmpF (takF r.1) (takF b.odds)<0))
instance (way : List Gsp.Edge) (r : Fr × Int × Int) (b : Fnd) : Decidable (cutR way r b) := by unfold cutR; infer_instance
def fndR (way:List Gsp.Edge)(r:Fr×Int×Int):Fnd:=⟨way,r.1,r.2.1⟩
def skipR (way:List Gsp.Edge)(to:Int)(e:Gsp.Edge):Bool:=decide (e.f=to)||way.any (fun y=>decide (y.f=e.f))
def inG (g:List Gsp.Edge)(at_:Int):List Gsp.Edge:=g.filter fun e=>decide (e.t=at_)
def stepR (rec_:List Gsp.Edge->Int->Fnd->Fnd)(way:List Gsp.Edge)(to:Int)(b:Fnd)(e:Gsp.Edge):Fnd:=if skipR way to e=true then b else rec_ (e::way) e.f b
def lookR (g:List Gsp.Edge)(m:MF)(fr to a x:Int):Nat->List Gsp.Edge->Int->Fnd->Fnd
  |0,_,_,b=>b
  |n+1,way,at_,b=>
    if cutR way (oddsR m way a x) b then b
    else if at_=fr then if b.way=[]\/betterR (fndR way (oddsR m way a x)) b=true then fndR way (oddsR m way a x)else b
    else if way.length=8 then b
    else(inG g at_).foldl (stepR (lookR g m fr to a x n) way to) b
def badR (g:List Gsp.Edge)(fr to a x:Int):Bool:= !rightG g|| !inB fr 0 11|| !inB to 0 11||decide (fr=to)|| !inB a 1 1125899906842624|| !inB x 1 1048576
def bestR (g:List Gsp.Edge)(m:MF)(fr to a x:Int):List Gsp.Edge×Fr×Int:=
  if badR g fr to a x=true then([],⟨0,0⟩,1)
  else if(lookR g m fr to a x 9 [] to noFnd).way=[]then([],⟨0,0⟩,19)
  else((lookR g m fr to a x 9 [] to noFnd).way,(lookR g m fr to a x 9 [] to noFnd).odds,0)
theorem accO_ok (m:MF)(xs:List Gsp.Edge)(s:List Int):∀k,okF (accO m xs s k)
  |0=>okF_low (by decide)
  |k+1=>okF_low (Nat.mul_pos (takF_ok _).1 (takF_ok _).1)
theorem oddsM_len {m:MF}(hm:GoodM m)(e:Gsp.Edge)(a:Int):(digs (oddsM m e a).n).length<=2/\(digs (oddsM m e a).d).length<=2:=by
  unfold oddsM
  split
  · rename_i h
    simp only[goesM,Bool.and_eq_true,decide_eq_true_eq]at h
    have hb:=bndM_ok hm h.1.1
    have hr:=mayM_T h.1.1
    have c:(oddN m e a).toNat<18446744073709551616:=by unfold oddN;omega
    have f:(oddD m e).toNat<18446744073709551616:=by unfold oddD;omega
    have b:=lowF_le (oddN m e a).toNat (oddD m e).toNat
    exact⟨Nat.le_trans (digs_len_mono b.1) (digs_len_pow 2 c),Nat.le_trans (digs_len_mono b.2) (digs_len_pow 2 f)⟩
  · simp only[digs_zero]
    exact⟨Nat.zero_le _,Nat.zero_le _⟩
theorem accO_len {m:MF}(hm:GoodM m)(xs:List Gsp.Edge)(s:List Int):∀k,(digs (accO m xs s k).n).length<=4*k+1/\(digs (accO m xs s k).d).length<=4*k+1
  |0=>⟨Nat.le_trans (digs_len_mono (lowF_le 1 1).1) (digs_len_one (by decide)),Nat.le_trans (digs_len_mono (lowF_le 1 1).2) (digs_len_one (by decide))⟩
  |k+1=>by
    have h0:=accO_len hm xs s k
    have f:=takF_len (oddsM m (xs.getD k noEdge) (s.getD k 0))
    have h:=oddsM_len hm (xs.getD k noEdge) (s.getD k 0)
    have c:=takF_id (accO_ok m xs s k)
    have e:accO m xs s (k+1)=lowF ((accO m xs s k).n*(takF (oddsM m (xs.getD k noEdge) (s.getD k 0))).n) ((accO m xs s k).d*(takF (oddsM m (xs.getD k noEdge) (s.getD k 0))).d):=by show mulF _ _=_;rw[c];rfl
    have i:=digs_mul_len (accO m xs s k).n (takF (oddsM m (xs.getD k noEdge) (s.getD k 0))).n
    have j:=digs_mul_len (accO m xs s k).d (takF (oddsM m (xs.getD k noEdge) (s.getD k 0))).d
    have b:=lowF_le ((accO m xs s k).n*(takF (oddsM m (xs.getD k noEdge) (s.getD k 0))).n) ((accO m xs s k).d*(takF (oddsM m (xs.getD k noEdge) (s.getD k 0))).d)
    rw[e]
    have l:=digs_len_mono b.1
    have o:=digs_len_mono b.2
    omega
theorem oddsR_len {m:MF}(hm:GoodM m)(xs:List Gsp.Edge)(a x:Int):(digs (oddsR m xs a x).1.n).length<=100/\(digs (oddsR m xs a x).1.d).length<=100:=by
  unfold oddsR
  split
  · rename_i h
    have hw:=(costG_inv h).1
    have:=wayG_len hw
    have:=accO_len hm xs (costG xs a x).1 xs.length
    simp only
    omega
  · simp only[digs_zero]
    exact⟨Nat.zero_le _,Nat.zero_le _⟩
end Go.Rtp

namespace Go.Proofs.YtocheaahlpiajaaGreatDoor
open Tryz
open Go Go.Sx Go.Num Go.Gsp Go.Nsp Go.Msp Go.Rtp
set_option maxRecDepth 20000
theorem rodds_ok {base gp:Nat}{F:Nat->Prop}{m:MF}(a x:Int){A:Option Addr}{n c:Nat}{xs:List Gsp.Edge}(w:World)(hP:MPool w base gp F m)(hV:Vec w edgeV 9 A n xs)(hn:n<=1000000):Calls prog 116 #[.pointer (some ⟨gp,0,none⟩),.slice A n c,.int .i64 (a),.int .i64 (x)] w fun r w'=>∃A1 c1 A2 c2,r= .returned (.tuple #[.agg #[.slice A1 (digs (oddsR m xs a x).1.n).length c1,.slice A2 (digs (oddsR m xs a x).1.d).length c2],.int .i64 (oddsR m xs a x).2.1,.int .i64 (oddsR m xs a x).2.2])/\OVec w' w.heap.size 273 dv 1 A1 (digs (oddsR m xs a x).1.n).length c1 (digs (oddsR m xs a x).1.n)/\OVec w' w.heap.size 273 dv 1 A2 (digs (oddsR m xs a x).1.d).length c2 (digs (oddsR m xs a x).1.d)/\Le w w':=by
 have hl:=hV.1
 have hgm:=hP.good
 refine enter func116 rfl rfl ?_
 have L0:=Le.refl w
 refine Sr (W.ef rfl rfl rfl (Ef.allocA z61 fun X Y aH (C:Blk Y X 61 #[.slice none 0 0,.slice none 0 0]) Z=>?_))
 have L1:=L0.trans Z
 refine Wn 2 rfl (Nx (Sr (Wn 3 rfl (W.cl go38 rfl rfl (cost_ok a x Y (hV.le L1) (by omega)) ?_))))
 rintro _ I ⟨ah,ai,bQ,bR,rfl,R,bS,j⟩
 have L2:=L1.trans j
 refine Wn 7 rfl (Nx (Sq (Sr (Wn 2 rfl (Nx ?_)))))
 by_cases c0:((costG xs a x).2.2)≠0
 ·refine Cy rfl (dT c0) (Sr (Wa (.buildP [.slice none 0 0,.slice none 0 0] pl61 z61 rfl rfl) rfl (Wn 1 rfl (W.sA sz61 rfl rfl (C.le j) ?_))))
  intro bp aj bq
  have aj:Blk bp X 61 #[.slice none 0 0,.slice none 0 0]:=aj
  have L4:=L2.tb bq L0 aH
  refine Wn 2 rfl (Nx (Rt (E.thenR (E.retG3 rfl (resA rfl aj ag61 (by rfl)) rfl rfl ?_))))
  have hod:oddsR m xs a x=(⟨0,0⟩,0,(costG xs a x).2.2):=if_neg (by assumption)
  rw[hod]
  exact⟨none,0,none,0,by simp only[digs_zero];rfl,by simp only[digs_zero];exact OVec.nil _ _ _ _ _ _,by simp only[digs_zero];exact OVec.nil _ _ _ _ _ _,L4⟩
 refine Cn rfl (dF c0) ?_
 have hcl:=costG_lens (Decidable.not_not.1 (by assumption):(costG xs a x).2.2=0)
 have hwl:=wayG_len (costG_inv (Decidable.not_not.1 (by assumption):(costG xs a x).2.2=0)).1
 refine Sn (Sr (W.cl go39 rfl rfl (fof_ok 1 1 I (by omega) (by omega) (by omega)) ?_))
 rintro _ bT ⟨ak,al,am,an,rfl,aI,aJ,h⟩
 have L5:=L2.trans h
 refine Wn 1 rfl (Wa (.extract (v:= .agg #[.slice ak ((digs ((lowF 1 1).n)).length) al,.slice am ((digs ((lowF 1 1).d)).length) an]) rfl rfl) rfl (Wn 1 rfl (W.ef rfl rfl rfl (Ef.allocA z61 fun J bs S (bt:Blk bs J 61 #[.slice none 0 0,.slice none 0 0]) D=>(W.sA sz61 rfl rfl bt ?_)))))
 intro aK ao H
 have ao:Blk aK J 61 #[.slice ak ((digs ((lowF 1 1).n)).length) al,.slice am ((digs ((lowF 1 1).d)).length) an]:=ao
 refine Wn 1 rfl (Nx (Sq (Sr (Wn 1 rfl (Wr (.len underlying32 rfl) rfl (Wn 1 rfl (Nx (WC.block ?_))))))))
 have bu:=((hP.le (Z.trans (j.trans (h.trans D)))).ch H (fun q hqq hF=>by cases hqq;have:=hP.lt hF;have:=Z.size;have:=j.size;have:=h.size;have:=S;omega))
 refine WC.loop (ι:=Nat×((Option Addr))×Nat×((Option Addr))×Nat) (fun⟨k,Ax,cx,Ay,cy⟩=>[(0,.pointer (some ⟨gp,0,none⟩)),(8,.pointer (some ⟨X,0,none⟩)),(11,.slice ah ((costG xs a x).1.length) ai),(14,.pointer (some ⟨J,0,none⟩)),(36,.slice A n c),(37,.int .i64 (((n:Nat):Int))),(38,.int .i64 (((k:Nat):Int)))]) (fun⟨k,Ax,cx,Ay,cy⟩ s=>(k<=n)/\Le w s/\aK.heap.size<=s.heap.size/\MPool s base gp F m/\Blk s X 61 #[.slice none 0 0,.slice none 0 0]/\OVec s Y.heap.size 3 iv 1 ah ((costG xs a x).1.length) ai ((costG xs a x).1)/\Blk s J 61 #[.slice Ax ((digs (accO m xs (costG xs a x).1 k).n).length) cx,.slice Ay ((digs (accO m xs (costG xs a x).1 k).d).length) cy]/\OVec s I.heap.size 273 dv 1 Ax ((digs (accO m xs (costG xs a x).1 k).n).length) cx (digs (accO m xs (costG xs a x).1 k).n)/\OVec s I.heap.size 273 dv 1 Ay ((digs (accO m xs (costG xs a x).1 k).d).length) cy (digs (accO m xs (costG xs a x).1 k).d)) (fun⟨k,Ax,cx,Ay,cy⟩=>n-k) (0,ak,al,am,an) ?_ ?_ ?_
 ·exact .of rfl
 ·exact⟨Nat.zero_le _,((L5.trans D).tb H L5 S),Nat.le_refl _,bu,((C.le (j.trans (h.trans D))).cn H (by have:=C.lt;have:=j.size;have:=h.size;omega)),((R.le (h.trans D)).cb H (R.rn (by have:=h.size;omega))),ao,((aI.le D).cb H (aI.rn (by omega))),((aJ.le D).cb H (aJ.rn (by omega)))⟩
 rintro⟨k,Ax,cx,Ay,cy⟩ s ⟨hk,ad,aL,aa,K,ap,L,N,O⟩
 have bU:Y.heap.size<=s.heap.size:=by have:=j.size;have:=h.size;have:=D.size;have:=H.size;omega
 have bV:I.heap.size<=s.heap.size:=by have:=h.size;have:=D.size;have:=H.size;omega
 have bW:I.heap.size<=s.heap.size:=by have:=h.size;have:=D.size;have:=H.size;omega
 have hal:=accO_len hgm xs (costG xs a x).1 k
 have hol:=oddsM_len hgm (xs.getD k noEdge) ((costG xs a x).1.getD k 0)
 refine Sr (Wn 1 rfl (Nx (Sq ?_)))
 by_cases c1:((k:Nat):Int)<((n:Nat):Int)
 ·refine Cy rfl (dT c1) (Sn (Sq (WC.block (Sr (Wn 1 rfl (Wa (.idxS (k) underlying32 sz81 rfl rfl (hV.isSome edgeV_row (by omega)) (rfl) (by omega)) rfl (Wr (.vload ag81 rfl (hV.le ad) edgeV_row (getS xs noEdge (by omega))) rfl (W.ef rfl rfl rfl (Ef.allocA z81 ?_)))))))))
  intro aM bv aq ar e
  have ar:Blk bv aM 81 (edgeV noEdge).toArray:=ar
  refine Wn 1 rfl (W.ef0 rfl rfl (Ef.storeAll sz81 (by rfl) rfl rfl ar (by simp only[List.size_toArray,edgeV_row.len]) (edgeV_row.one (xs.getD k noEdge)) ?_))
  intro bw au f
  have au:Blk bw aM 81 (edgeV (xs.getD k noEdge)).toArray:=au
  refine Nx (Sq (WC.drawT (fun o=>(app o [0,1,2,3,4,5] (.br (app o [6,7,8,9,10,11,12] .nil) (app o [10,6,7,8,9,11,12] .nil)))) mixed (by kernel_rfl) fun w8 b=>?_))
  have av:=((ad.trans e).tb f ad aq).trans b
  refine GT.app (Gn 1 rfl (Gd rfl (.loadAll ag81 (by rfl) rfl (au.le b)) ?_))
  refine Gn 2 rfl (Ga rfl (.idxS (k) underlying23 sz3 rfl rfl (R.vec.isSome iv_row (by omega)) (rfl) (by omega)) ?_)
  have ab:=(((ap.le e).cb f (ap.rn (by omega))).le b)
  refine Gd rfl (.vone (v:= .int .i64 ((((costG xs a x).1).getD k 0))) na3 rfl ab.vec iv_row (getS ((costG xs a x).1) 0 (by first|omega|(simp only[List.length_cons,List.length_nil];omega))) rfl) ?_
  refine G.nil (GT.br ?_ ?_)
  ·refine GT.last ?_
   have aw:=(((aa.le e).ch f (fun q hqq hF=>by cases hqq;have:=aa.lt hF;have:=aq;omega)).le b)
   refine G.ef rfl rfl rfl rfl rfl (Ef.call go44 rfl rfl (odds_mind (xs.getD k noEdge) (((costG xs a x).1).getD k 0) aw) ?_)
   rintro _ bX ⟨aO,aP,aQ,aR,rfl,aS,aT,i⟩
   refine⟨_,rfl,?_⟩
   refine⟨fun _=>i,?_⟩
   have aU:=av.trans i
   refine Gn 1 rfl (Ga rfl (.extract (v:= .agg #[.slice aO ((digs ((oddsM m (xs.getD k noEdge) (((costG xs a x).1).getD k 0)).n)).length) aP,.slice aQ ((digs ((oddsM m (xs.getD k noEdge) (((costG xs a x).1).getD k 0)).d)).length) aR]) rfl rfl) (Gn 1 rfl (G.ef rfl rfl rfl rfl rfl (Ef.allocA z61 fun aV bx aW (bz:Blk bx aV 61 #[.slice none 0 0,.slice none 0 0]) l=>⟨fun _=>l,?_⟩))))
   refine G.ef0 rfl rfl rfl rfl (Ef.storeAll sz61 (by rfl) rfl rfl bz (by rfl) (by simp[Value.oneCell']) ?_)
   intro aX ax t
   refine noT (by kernel_rfl) ?_
   have ax:Blk aX aV 61 #[.slice aO ((digs ((oddsM m (xs.getD k noEdge) (((costG xs a x).1).getD k 0)).n)).length) aP,.slice aQ ((digs ((oddsM m (xs.getD k noEdge) (((costG xs a x).1).getD k 0)).d)).length) aR]:=ax
   refine Gn 1 rfl (G.nil (E.thenN (WC.region ?_)))
   have ae:=((((L.le e).cn f (by have:=L.lt;omega)).le (b.trans (i.trans l))).cn t (by have:=L.lt;have:=e.size;have:=f.size;have:=b.size;have:=i.size;omega))
   refine Wr (.loadAll ag61 (by rfl) rfl ae) rfl ?_
   refine Wr (.loadAll ag61 (by rfl) rfl ax) rfl ?_
   refine W.cl go88 rfl rfl (frcmul_ok aX ((((N.le e).cb f (N.rn (by omega))).le (b.trans (i.trans l))).cb t (N.rn (by have:=e.size;have:=f.size;have:=b.size;have:=i.size;omega))).vec ((((O.le e).cb f (O.rn (by omega))).le (b.trans (i.trans l))).cb t (O.rn (by have:=e.size;have:=f.size;have:=b.size;have:=i.size;omega))).vec (by omega) (by omega) ((aS.le l).cb t (aS.rn (by omega))).vec ((aT.le l).cb t (aT.rn (by omega))).vec (by omega) (by omega)) ?_
   rintro _ bY ⟨aY,aZ,a0,a1,rfl,a2,a3,T⟩
   refine W.sA sz61 rfl rfl (ae.le T) ?_
   intro bA ay P
   have ay:Blk bA J 61 #[.slice aY ((digs ((mulF (takF (⟨((accO m xs (costG xs a x).1 k).n),((accO m xs (costG xs a x).1 k).d)⟩:Fr)) (takF (⟨((oddsM m (xs.getD k noEdge) (((costG xs a x).1).getD k 0)).n),((oddsM m (xs.getD k noEdge) (((costG xs a x).1).getD k 0)).d)⟩:Fr))).n)).length) aZ,.slice a0 ((digs ((mulF (takF (⟨((accO m xs (costG xs a x).1 k).n),((accO m xs (costG xs a x).1 k).d)⟩:Fr)) (takF (⟨((oddsM m (xs.getD k noEdge) (((costG xs a x).1).getD k 0)).n),((oddsM m (xs.getD k noEdge) (((costG xs a x).1).getD k 0)).d)⟩:Fr))).d)).length) a1]:=ay
   refine W.nil (E.blkN (E.thenN (WC.region (Wa (.add rfl rfl (by omega)) rfl (Wn 1 rfl (W.nil ?_))))))
   have bB:=((((aw.le (i.trans l)).ch t (fun q hqq hF=>by cases hqq;have:=aw.lt hF;have:=i.size;have:=aW;omega)).le T).ch P (fun q hqq hF=>by cases hqq;have:=hP.lt hF;have:=Z.size;have:=j.size;have:=h.size;have:=S;omega))
   have bC:=((((((K.le e).cn f (by have:=K.lt;omega)).le (b.trans (i.trans l))).cn t (by have:=K.lt;have:=e.size;have:=f.size;have:=b.size;have:=i.size;omega)).le T).cn P (by have:=C.lt;have:=j.size;have:=h.size;omega))
   have bD:=((((ab.le (i.trans l)).cb t (ab.rn (by have:=i.size;omega))).le T).cb P (R.rn (by have:=h.size;omega)))
   have bE:=(a2.cb P (a2.rl (by have:=ae.lt;omega)))
   have bF:=(a3.cb P (a3.rl (by have:=ae.lt;omega)))
   refine E.again (k+1,aY,aZ,a0,a1) (.of rfl) ?_ ?_
   ·exact⟨by omega,((((aU.trans l).tb t aU aW).trans T).tb P L5 S),by have:=aL;have:=e.size;have:=f.size;have:=b.size;have:=i.size;have:=l.size;have:=t.size;have:=T.size;have:=P.size;omega,bB,bC,bD,ay,(bE.mono (by have:=e.size;have:=f.size;have:=b.size;have:=i.size;have:=l.size;have:=t.size;omega)),(bF.mono (by have:=e.size;have:=f.size;have:=b.size;have:=i.size;have:=l.size;have:=t.size;omega))⟩
   first|omega|(simp only[];omega)
  refine GT.last (G.ef rfl rfl rfl rfl rfl (Ef.allocA z61 fun a4 bG a5 (az:Blk bG a4 61 #[.slice none 0 0,.slice none 0 0]) z=>⟨fun _=>z,?_⟩))
  have a6:=(((aa.le e).ch f (fun q hqq hF=>by cases hqq;have:=aa.lt hF;have:=aq;omega)).le (b.trans z))
  refine G.ef rfl rfl rfl rfl rfl (Ef.call go44 rfl rfl (odds_mind (xs.getD k noEdge) (((costG xs a x).1).getD k 0) a6) ?_)
  rintro _ bZ ⟨a7,a8,a9,ba,rfl,bb,bc,u⟩
  refine⟨_,rfl,?_⟩
  refine⟨fun _=>u,?_⟩
  refine Gn 1 rfl (Ga rfl (.extract (v:= .agg #[.slice a7 ((digs ((oddsM m (xs.getD k noEdge) (((costG xs a x).1).getD k 0)).n)).length) a8,.slice a9 ((digs ((oddsM m (xs.getD k noEdge) (((costG xs a x).1).getD k 0)).d)).length) ba]) rfl rfl) (Gn 1 rfl (G.ef0 rfl rfl rfl rfl (Ef.storeAll sz61 (by rfl) rfl rfl (az.le u) (by rfl) (by simp[Value.oneCell']) ?_))))
  intro bd aA y
  refine noT (by kernel_rfl) ?_
  have aA:Blk bd a4 61 #[.slice a7 ((digs ((oddsM m (xs.getD k noEdge) (((costG xs a x).1).getD k 0)).n)).length) a8,.slice a9 ((digs ((oddsM m (xs.getD k noEdge) (((costG xs a x).1).getD k 0)).d)).length) ba]:=aA
  refine Gn 1 rfl (G.nil (E.thenN (WC.region ?_)))
  have af:=((((L.le e).cn f (by have:=L.lt;omega)).le (b.trans (z.trans u))).cn y (by have:=L.lt;have:=e.size;have:=f.size;have:=b.size;omega))
  refine Wr (.loadAll ag61 (by rfl) rfl af) rfl ?_
  refine Wr (.loadAll ag61 (by rfl) rfl aA) rfl ?_
  refine W.cl go88 rfl rfl (frcmul_ok bd ((((N.le e).cb f (N.rn (by omega))).le (b.trans (z.trans u))).cb y (N.rn (by have:=e.size;have:=f.size;have:=b.size;omega))).vec ((((O.le e).cb f (O.rn (by omega))).le (b.trans (z.trans u))).cb y (O.rn (by have:=e.size;have:=f.size;have:=b.size;omega))).vec (by omega) (by omega) (bb.cb y (bb.rl (by have:=az.lt;omega))).vec (bc.cb y (bc.rl (by have:=az.lt;omega))).vec (by omega) (by omega)) ?_
  rintro _ b0 ⟨be,bf,bg,bh,rfl,bi,bj,U⟩
  refine W.sA sz61 rfl rfl (af.le U) ?_
  intro bH aB Q
  have aB:Blk bH J 61 #[.slice be ((digs ((mulF (takF (⟨((accO m xs (costG xs a x).1 k).n),((accO m xs (costG xs a x).1 k).d)⟩:Fr)) (takF (⟨((oddsM m (xs.getD k noEdge) (((costG xs a x).1).getD k 0)).n),((oddsM m (xs.getD k noEdge) (((costG xs a x).1).getD k 0)).d)⟩:Fr))).n)).length) bf,.slice bg ((digs ((mulF (takF (⟨((accO m xs (costG xs a x).1 k).n),((accO m xs (costG xs a x).1 k).d)⟩:Fr)) (takF (⟨((oddsM m (xs.getD k noEdge) (((costG xs a x).1).getD k 0)).n),((oddsM m (xs.getD k noEdge) (((costG xs a x).1).getD k 0)).d)⟩:Fr))).d)).length) bh]:=aB
  have bI:=((((av.trans z).trans u).tb y av a5).trans U).tb Q L5 S
  refine W.nil (E.blkN (E.thenN (WC.region (Wa (.add rfl rfl (by omega)) rfl (Wn 1 rfl (W.nil ?_))))))
  have bJ:=((((a6.le u).ch y (fun q hqq hF=>by cases hqq;have:=aa.lt hF;have:=e.size;have:=f.size;have:=b.size;have:=a5;omega)).le U).ch Q (fun q hqq hF=>by cases hqq;have:=hP.lt hF;have:=Z.size;have:=j.size;have:=h.size;have:=S;omega))
  have bK:=((((((K.le e).cn f (by have:=K.lt;omega)).le (b.trans (z.trans u))).cn y (by have:=K.lt;have:=e.size;have:=f.size;have:=b.size;omega)).le U).cn Q (by have:=C.lt;have:=j.size;have:=h.size;omega))
  have bL:=((((ab.le (z.trans u)).cb y (ab.rn (by omega))).le U).cb Q (R.rn (by have:=h.size;omega)))
  have bM:=(bi.cb Q (bi.rl (by have:=af.lt;omega)))
  have bN:=(bj.cb Q (bj.rl (by have:=af.lt;omega)))
  refine E.again (k+1,be,bf,bg,bh) (.of rfl) ?_ ?_
  ·exact⟨by omega,bI,by have:=aL;have:=e.size;have:=f.size;have:=b.size;have:=z.size;have:=u.size;have:=y.size;have:=U.size;have:=Q.size;omega,bJ,bK,bL,aB,(bM.mono (by have:=e.size;have:=f.size;have:=b.size;have:=z.size;have:=u.size;have:=y.size;omega)),(bN.mono (by have:=e.size;have:=f.size;have:=b.size;have:=z.size;have:=u.size;have:=y.size;omega))⟩
  first|omega|(simp only[];omega)
 refine Cn rfl (dF c1) (WC.exit (E.thenX (E.thenX (E.blkH (E.thenN (Sq (WC.drawS (fun bO w'=>Le w w'/\Blk w' J 61 #[.slice Ax ((digs (accO m xs (costG xs a x).1 k).n).length) cx,.slice Ay ((digs (accO m xs (costG xs a x).1 k).d).length) cy]/\OVec w' I.heap.size 273 dv 1 Ax ((digs (accO m xs (costG xs a x).1 k).n).length) cx (digs (accO m xs (costG xs a x).1 k).n)/\OVec w' I.heap.size 273 dv 1 Ay ((digs (accO m xs (costG xs a x).1 k).d).length) cy (digs (accO m xs (costG xs a x).1 k).d)/\OVec w' Y.heap.size 3 iv 1 ah ((costG xs a x).1.length) ai ((costG xs a x).1)) [0,1,2,3,4,5,6] mixed (by kernel_rfl) fun bO V=>?_)))))))
 have bk:=ad.trans V
 have bl:=(L.le V)
 have aC:=(N.le V)
 have aE:=(O.le V)
 have aF:=(ap.le V)
 refine⟨⟨bk,bl,aC,aE,aF⟩,?_⟩
 refine GS.rd rfl rfl (fun w' hs=> .loadAll ag61 (by rfl) rfl hs.2.1) rfl rfl rfl ?_
 refine GS.any rfl rfl (.move rfl) rfl rfl rfl (GS.any rfl rfl (.idxS (0) underlying23 sz3 rfl rfl (R.vec.isSome iv_row (by omega)) (rfl) (by omega)) rfl rfl rfl (GS.rd rfl rfl (fun w' hs=> .vone (v:= .int .i64 ((((costG xs a x).1).getD 0 0))) na3 rfl hs.2.2.2.2.vec iv_row (getS ((costG xs a x).1) 0 (by first|omega|(simp only[List.length_cons,List.length_nil];omega))) rfl) rfl rfl rfl ?_))
 refine GS.ef0 rfl rfl rfl rfl (Ef.storeAll sz61 (by rfl) rfl rfl (K.le V) (by rfl) (by simp[Value.oneCell']) ?_)
 intro bP aG ac
 have aG:Blk bP X 61 #[.slice Ax ((digs (accO m xs (costG xs a x).1 k).n).length) cx,.slice Ay ((digs (accO m xs (costG xs a x).1 k).d).length) cy]:=aG
 have bm:=bk.tb ac L0 aH
 have bn:=(aC.cb ac (aC.rl (by have:=C.lt;have:=j.size;omega)))
 have bo:=(aE.cb ac (aE.rl (by have:=C.lt;have:=j.size;omega)))
 refine⟨⟨bm,(bl.cn ac (by have:=C.lt;have:=j.size;have:=h.size;omega)),bn,bo,(aF.cb ac (aF.rl (by have:=C.lt;omega)))⟩,?_⟩
 refine GS.any rfl rfl (.assign rfl) rfl rfl rfl (GS.any rfl rfl (.assign rfl) rfl rfl rfl (GS.nil (E.thenN (Rt (E.retG3 rfl (resA rfl aG ag61 (by rfl)) rfl rfl ?_)))))
 have hkn:k=n:=(by omega)
 subst hkn
 have hod:oddsR m xs a x=(accO m xs (costG xs a x).1 xs.length,(costG xs a x).1.getD 0 0,0):=if_pos (Decidable.not_not.1 (by assumption))
 rw[hod,hl]
 exact⟨_,_,_,_,rfl,(bn.mono L2.size),(bo.mono L2.size),bm⟩

end Go.Proofs.YtocheaahlpiajaaGreatDoor

namespace Go.Proofs.YtocheaahlpiajaaGreatDoor
open Tryz
open Go Go.Sx Go.Num Go.Gsp Go.Nsp Go.Msp Go.Rtp
set_option maxRecDepth 20000
theorem rowsC_at {xs ys:List Gsp.Edge}{k:Nat}(h1:k<xs.length)(h2:k<ys.length):rowsC (xs.drop k) (ys.drop k)=if cmpI (xs.getD k noEdge).c (ys.getD k noEdge).c≠0 then cmpI (xs.getD k noEdge).c (ys.getD k noEdge).c else rowsC (xs.drop (k+1)) (ys.drop (k+1)):=by
  rw[List.drop_eq_getElem_cons h1,List.drop_eq_getElem_cons h2,rowsC]
  simp[List.getD,h1,h2]
theorem rowsC_long {xs ys:List Gsp.Edge}{k:Nat}(h1:k<xs.length)(h2:ys.length<=k):rowsC (xs.drop k) (ys.drop k)=1:=by
  rw[List.drop_eq_getElem_cons h1,List.drop_of_length_le h2,rowsC]
theorem rowsC_short {xs ys:List Gsp.Edge}{k:Nat}(h1:xs.length<=k)(h2:k<ys.length):rowsC (xs.drop k) (ys.drop k)= -1:=by
  rw[List.drop_eq_getElem_cons h2,List.drop_of_length_le h1,rowsC]
theorem rowsC_even {xs ys:List Gsp.Edge}{k:Nat}(h1:xs.length<=k)(h2:ys.length<=k):rowsC (xs.drop k) (ys.drop k)=0:=by
  rw[List.drop_of_length_le h2,List.drop_of_length_le h1,rowsC]
theorem betc_ok (x y:Gsp.Edge)(w:World):Calls prog 218 #[.agg (edgeV x).toArray,.agg (edgeV y).toArray] w fun r w'=>r= .returned (.int .i64 (cmpI x.c y.c))/\Le w w':=by
 refine enter func218 rfl rfl (Sr (W.ef rfl rfl rfl (Ef.boxA rfl fun e f m (h:Blk f e 81 (edgeV x).toArray) i=>(W.ef rfl rfl rfl (Ef.boxA rfl fun j b n (k:Blk b j 81 (edgeV y).toArray) d=>(Wn 1 rfl (Nx (Sr ?_))))))))
 refine Wa (.field0 fa81_2 rfl) rfl (Wr (.loadB (v:= .int .i64 (x.c)) na3 rfl (h.le d) rfl) rfl (Wa (.field0 fa81_2 rfl) rfl (Wr (.loadB (v:= .int .i64 (y.c)) na3 rfl k rfl) rfl (W.cl go212 rfl rfl (comparei_ok x.c y.c b) ?_))))
 rintro _ o ⟨rfl,l⟩
 refine Wn 1 rfl (Nx (Rt (E.retG1 rfl rfl ?_)))
 exact⟨rfl,((((Le.refl w).trans i).trans d).trans l)⟩

theorem rtwithin_ok (n lo hi:Int)(w:World):Calls prog 114 #[.int .i64 (n),.int .i64 (lo),.int .i64 (hi)] w fun r w'=>r= .returned (.bool (inB n lo hi))/\Le w w':=by
 refine enter func114 rfl rfl ?_
 have c:=Le.refl w
 refine Sr (Wn 1 rfl (Nx (Sr (Wn 3 rfl ?_))))
 by_cases b:lo<=n
 ·refine Dt b rfl rfl (Wn 5 rfl (Nx (Rt (E.retG1 rfl rfl ?_))))
  exact⟨rB (by simp[inB,b]),c⟩
 refine Df b rfl rfl (Wn 5 rfl (Nx (Rt (E.retG1 rfl rfl ?_))))
 exact⟨rB (by simp[inB,b]),c⟩

theorem cmprows_ok {A A2:Option Addr}{n c n2 c2:Nat}{xs ys:List Gsp.Edge}(w:World)(hV:Vec w edgeV 9 A n xs)(hW:Vec w edgeV 9 A2 n2 ys)(hn:n<=1000000)(hn2:n2<=1000000):Calls prog 217 #[.slice A n c,.slice A2 n2 c2,.func (.func 218) #[] #[]] w fun r w'=>r= .returned (.int .i64 (rowsC xs ys))/\Le w w':=by
 have hl:=hV.1;have O:=hW.1
 refine enter func217 rfl rfl (Sr (Wn 1 rfl (Nx (Sq (Sr (Wn 1 rfl (Wr (.len underlying32 rfl) rfl (Wn 1 rfl (Nx (WC.block (WC.loop (ι:=Nat) (fun k=>[(0,.slice A n c),(1,.slice A2 n2 c2),(2,.func (.func 218) #[] #[]),(11,.slice A n c),(12,.int .i64 (((n:Nat):Int))),(13,.int .i64 (((k:Nat):Int)))]) (fun k f=>(k<=n)/\(k<=n2\/k<=n)/\(rowsC xs ys=rowsC (xs.drop k) (ys.drop k))/\Le w f/\w.heap.size<=f.heap.size) (fun k=>n-k) 0 ?_ ?_ ?_)))))))))))
 ·exact .of rfl
 ·exact⟨Nat.zero_le _,Or.inl (Nat.zero_le _),rfl,(Le.refl w),Nat.le_refl _⟩
 rintro k f ⟨hk,P,hrc,b,H⟩
 refine Sr (Wn 1 rfl (Nx (Sq ?_)))
 by_cases o:((k:Nat):Int)<((n:Nat):Int)
 ·refine Cy rfl (dT o) (Sn (Sq (WC.block (Sr (Wn 1 rfl (Wa (.idxS (k) underlying32 sz81 rfl rfl (hV.isSome edgeV_row (by omega)) (rfl) (by omega)) rfl (Wr (.vload ag81 rfl (hV.le b) edgeV_row (getS xs noEdge (by omega))) rfl (W.ef rfl rfl rfl (Ef.allocA z81 ?_)))))))))
  intro s I J h t
  have h:Blk I s 81 (edgeV noEdge).toArray:=h
  refine Wn 1 rfl (W.ef0 rfl rfl (Ef.storeAll sz81 (by rfl) rfl rfl h (by simp only[List.size_toArray,edgeV_row.len]) (edgeV_row.one (xs.getD k noEdge)) ?_))
  intro K d u
  have d:Blk K s 81 (edgeV (xs.getD k noEdge)).toArray:=d
  have e:=(b.trans t).tb u b J
  refine Nx (Sq (Sr (Wn 2 rfl (Wr (.len underlying32 rfl) rfl (Wn 1 rfl (Nx ?_))))))
  by_cases x:((n2:Nat):Int)<=((k:Nat):Int)
  ·refine Cy rfl (dT x) (Sr (Wn 1 rfl (Nx (Rt (E.thenR (E.blkR (E.thenR (E.thenR (E.blkR (E.thenR (E.retG1 rfl rfl ?_)))))))))))
   exact⟨congrArg (fun v=>Ending.returned (Value.int .i64 v)) (hrc.trans (rowsC_long (by omega) (by omega))).symm,e⟩
  refine Cn rfl (dF x) (Sn (Sr (Wn 2 rfl (Wa (.idxS (k) underlying32 sz81 rfl rfl (hW.isSome edgeV_row (by omega)) (rfl) (by omega)) rfl (Wr (.vload ag81 rfl (hW.le e) edgeV_row (getS ys noEdge (by omega))) rfl (W.ef rfl rfl rfl (Ef.allocA z81 ?_)))))))
  intro y L N i j
  have i:Blk L y 81 (edgeV noEdge).toArray:=i
  refine W.ef0 rfl rfl (Ef.storeAll sz81 (by rfl) rfl rfl i (by simp only[List.size_toArray,edgeV_row.len]) (edgeV_row.one (ys.getD k noEdge)) ?_)
  intro z l m
  have l:Blk z y 81 (edgeV (ys.getD k noEdge)).toArray:=l
  refine Nx (Sr (Wn 1 rfl (Wr (.loadAll ag81 (by rfl) rfl ((d.le j).cn m (by have:=d.lt;omega))) rfl ?_)))
  refine Wr (.loadAll ag81 (by rfl) rfl l) rfl ?_
  refine W.cl go218 rfl rfl (betc_ok (xs.getD k noEdge) (ys.getD k noEdge) z) ?_
  rintro _ Q ⟨rfl,C⟩
  have D:=((e.trans j).tb m e N).trans C
  refine Wn 1 rfl (Nx (Sr (Wn 2 rfl (Nx ?_))))
  by_cases c2:(cmpI (xs.getD k noEdge).c (ys.getD k noEdge).c)≠0
  ·refine Cy rfl (dT c2) (Sr (Wn 2 rfl (Nx (Rt (E.blkR (E.thenR (E.thenR (E.blkR (E.thenR (E.retG1 rfl rfl ?_))))))))))
   exact⟨congrArg (fun v=>Ending.returned (Value.int .i64 v)) (hrc.trans (by rw[rowsC_at (by omega) (by omega),if_pos (by assumption)])).symm,D⟩
  refine Cn rfl (dF c2) (WC.skip (E.blkN (E.thenN (WC.region (Wa (.add rfl rfl (by omega)) rfl (Wn 1 rfl (W.nil (E.again (k+1) (.of rfl) ?_ ?_))))))))
  ·exact⟨by omega,by omega,by rw[hrc,rowsC_at (by omega) (by omega),if_neg (by assumption)],D,by have:=H;have:=t.size;have:=u.size;have:=j.size;have:=m.size;have:=C.size;omega⟩
  first|omega|(simp only[];omega)
 refine Cn rfl (dF o) (WC.exit (E.thenX (E.thenX (E.blkH (E.thenN (Sq (Sr (Wn 1 rfl (Wr (.len underlying32 rfl) rfl (Wn 1 rfl (Wr (.len underlying32 rfl) rfl (Wn 1 rfl (Nx ?_)))))))))))))
 by_cases F:((n:Nat):Int)<((n2:Nat):Int)
 ·refine Cy rfl (dT F) (Sr (Wn 1 rfl (Nx (Rt (E.thenR (E.retG1 rfl rfl ?_))))))
  exact⟨congrArg (fun v=>Ending.returned (Value.int .i64 v)) (hrc.trans (rowsC_short (by omega) (by omega))).symm,b⟩
 refine Cn rfl (dF F) (Sn (Sr (Wn 1 rfl (Nx (Rt (E.retG1 rfl rfl ?_))))))
 exact⟨congrArg (fun v=>Ending.returned (Value.int .i64 v)) (hrc.trans (rowsC_even (by omega) (by omega))).symm,b⟩

theorem better_ok {Aw1 An1 Ad1:Option Addr}{nw1 cw1 nn1 cn1 nd1 cd1 p1 q1:Nat}{ws1:List Gsp.Edge}{s1:Int}{Aw2 An2 Ad2:Option Addr}{nw2 cw2 nn2 cn2 nd2 cd2 p2 q2:Nat}{ws2:List Gsp.Edge}{s2:Int}(w:World)(hw1:Vec w edgeV 9 Aw1 nw1 ws1)(hn1:Vec w dv 1 An1 nn1 (digs p1))(hd1:Vec w dv 1 Ad1 nd1 (digs q1))(bw1:nw1<=10000)(bn1:nn1<=10000)(bd1:nd1<=10000)(hw2:Vec w edgeV 9 Aw2 nw2 ws2)(hn2:Vec w dv 1 An2 nn2 (digs p2))(hd2:Vec w dv 1 Ad2 nd2 (digs q2))(bw2:nw2<=10000)(bn2:nn2<=10000)(bd2:nd2<=10000):Calls prog 117 #[.agg #[.slice Aw1 nw1 cw1,.slice An1 nn1 cn1,.slice Ad1 nd1 cd1,.int .i64 (s1)],.agg #[.slice Aw2 nw2 cw2,.slice An2 nn2 cn2,.slice Ad2 nd2 cd2,.int .i64 (s2)]] w fun r w'=>r= .returned (.bool (betterR (⟨ws1,⟨p1,q1⟩,s1⟩:Fnd) (⟨ws2,⟨p2,q2⟩,s2⟩:Fnd)))/\Le w w':=by
 have L:=hw1.1;have N:=hn1.1;have O:=hd1.1
 have P:=hw2.1;have Q:=hn2.1;have R:=hd2.1
 refine enter func117 rfl rfl (Sr (W.ef rfl rfl rfl (Ef.boxA rfl fun y z S (A:Blk z y 190 #[.slice Aw1 nw1 cw1,.slice An1 nn1 cn1,.slice Ad1 nd1 cd1,.int .i64 (s1)]) C=>(W.ef rfl rfl rfl (Ef.boxA rfl fun D i T (j:Blk i D 190 #[.slice Aw2 nw2 cw2,.slice An2 nn2 cn2,.slice Ad2 nd2 cd2,.int .i64 (s2)]) k=>?_)))))
 have c:=((Le.refl w).trans C).trans k
 refine Wn 1 rfl (Nx (Sr (Wa (.field0 fa190_0 rfl) rfl ?_)))
 have l:=(A.le k)
 refine Wr (.loadB (v:= .slice Aw1 nw1 cw1) na32 rfl l rfl) rfl (Wa (.field0 fa190_0 rfl) rfl (Wr (.loadB (v:= .slice Aw2 nw2 cw2) na32 rfl j rfl) rfl (W.cl go217 rfl rfl (cmprows_ok i (hw1.le c) (hw2.le c) (by omega) (by omega)) ?_)))
 rintro _ U ⟨rfl,d⟩
 refine Wn 1 rfl (Nx (Sq (WC.draw [0,1,2,3,5,6,7,8,10,4,9,11,12,13,14] mixed (by kernel_rfl) fun F e=>?_)))
 have b:=(c.trans d).trans e
 refine Ga rfl (.field0 fa190_1 rfl) ?_
 have m:=(j.le (d.trans e))
 refine Gd rfl (.bpart [.slice An2 nn2 cn2,.slice Ad2 nd2 cd2] ag61 rfl (by decide) rfl m rfl) (Ga rfl (.field0 fa190_1 rfl) ?_)
 have n:=(l.le (d.trans e))
 refine Gd rfl (.bpart [.slice An1 nn1 cn1,.slice Ad1 nd1 cd1] ag61 rfl (by decide) rfl n rfl) (Ga rfl (.field0 fa190_2 rfl) (Gd rfl (.loadB (v:= .int .i64 (s1)) na3 rfl n rfl) (Ga rfl (.field0 fa190_2 rfl) (Gd rfl (.loadB (v:= .int .i64 (s2)) na3 rfl m rfl) (Gn 1 rfl ?_)))))
 refine G.ef rfl rfl rfl rfl rfl (Ef.call go41 rfl rfl (fcmp_ok F (hn2.le b) (hd2.le b) (by omega) (by omega) (hn1.le b) (hd1.le b) (by omega) (by omega)) ?_)
 rintro _ H ⟨rfl,o⟩
 refine⟨_,rfl,?_⟩
 refine⟨fun _=>o,?_⟩
 refine G.ef rfl rfl rfl rfl rfl (Ef.call go212 rfl rfl (comparei_ok s1 s2 H) ?_)
 rintro _ I ⟨rfl,s⟩
 refine⟨_,rfl,?_⟩
 refine⟨fun _=>s,?_⟩
 refine G.ef rfl rfl rfl rfl rfl (Ef.buildSliceV (len:=3) [_,_,_] underlying23 el3 rfl (by simp[Value.cells]) rfl (by decide) (by decide) ?_)
 intro t f J h u
 refine⟨fun _=>u,?_⟩
 have h:Blk f t 3 (([(cmpF (takF (⟨p2,q2⟩:Fr)) (takF (⟨p1,q1⟩:Fr))),(cmpZ s1 s2),(rowsC ws1 ws2)]).map iv).flatten.toArray:=h
 have K:OVec f I.heap.size 3 iv 1 (some ⟨t,0,none⟩) 3 3 ([(cmpF (takF (⟨p2,q2⟩:Fr)) (takF (⟨p1,q1⟩:Fr))),(cmpZ s1 s2),(rowsC ws1 ws2)]):=h.ovec J iv_row rfl rfl (by decide)
 refine G.ef rfl rfl rfl rfl rfl (Ef.call go219 rfl rfl (or2_ok f K.vec (by decide)) ?_)
 rintro _ V ⟨rfl,x⟩
 refine⟨_,rfl,?_⟩
 refine⟨fun _=>x,?_⟩
 refine Gn 2 rfl (G.nil (E.thenN (Rt (E.retG1 rfl rfl ?_))))
 exact⟨rfl,((((b.trans o).trans s).trans u).trans x)⟩
end Go.Proofs.YtocheaahlpiajaaGreatDoor

