/- LedgerSplices: for every input the law answers true and leaves its arguments as they were. -/
import Derived.Test.YtcaehidaejhdfaaGreatLedgerSplicesF
import Derived.Laws.StructEq
set_option linter.unusedVariables false
set_option linter.unusedSimpArgs false
namespace Go.Sx
open Go Go.RowKit
section
variable {P:Program}{w:World}
def Apart (A:Option Addr)(c:Nat)(B:Option Addr)(d:Nat):Prop:=∀g,rowOf A c=some g->rowOf B d≠some g
theorem Apart.symm {A B:Option Addr}{c d:Nat}(h:Apart A c B d):Apart B d A c:=fun g b e=>h g e b
theorem Apart.zero (A B:Option Addr)(d:Nat):Apart A 0 B d:=fun g h=>by rw[lC]at h;cases h
theorem Apart.step {A A' B:Option Addr}{c c' d:Nat}(h:Apart A c B d)(ht:At w A c A' c')(hb:∀g,rowOf B d=some g->g<w.heap.size):Apart A' c' B d:=fun g f b=>by
  rcases ht g f with e|e
  · exact h g e b
  · have:=hb g b;omega
theorem Apart.new {A B:Option Addr}{c d g:Nat}(hA:A=some ⟨g,0,none⟩)(hg:w.heap.size<=g)(hb:∀g,rowOf B d=some g->g<w.heap.size):Apart A c B d:=fun g' b e=>by
  subst hA
  have:=qY b
  have:=hb g' e
  omega
def Ed (xs ys:List Value):List (IntKind×Nat)->Bool
  |[]=>true
  |(_,o)::fs=>(match xs[o]?,ys[o]? with |some (.int _ a),some (.int _ b)=>decide (a=b)|_,_=>false)&&Ed xs ys fs
def Ee (P:Program)(xs ys:List Value):List Field->List (IntKind×Nat)->Prop
  |[],[]=>True
  |f::fs,(k,o)::ks=>f.name≠ "_" /\f.offset=o/\P.underlying f.type=some (.int k)/\(∃a b:Int,xs[o]? =some (.int k a)/\ys[o]? =some (.int k b))/\Ee P xs ys fs ks
  |_,_=>False
theorem AO (d:Nat)(xs ys:List Value):∀(fs:List Field) (ks:List (IntKind×Nat)),Ee P xs ys fs ks->∀w:World,(Op.eqFields (d+1) xs.toArray ys.toArray fs).run P w= .ok (Ed xs ys ks) w
  |[],[],_,w=>by simp[Op.eqFields,Ed]
  |f::fs,(k,o)::ks,h,w=>by
    obtain⟨h1,h2,h3,⟨a,b,ha,hb⟩,h4⟩:=h
    have ih:=AO d xs ys fs ks h4 w
    have c:=mr (P:=P) (e:=f.type) (xs:=xs.toArray) (o:=o) (v:= .int k a) ⟨_,h3,rfl⟩ (by simpa using ha) w
    have i:=mr (P:=P) (e:=f.type) (xs:=ys.toArray) (o:=o) (v:= .int k b) ⟨_,h3,rfl⟩ (by simpa using hb) w
    have j:=run_equalIn_int (P:=P) w d f.type k k a b h3
    simp only[Op.eqFields,Ed,ha,hb]
    rw[if_pos h1,h2]
    simp only[Sem.run_bind,c,i,j,Result.andThen_ok]
    by_cases hab:a=b
    · subst hab;simp[ih]
    · have:(a==b)=false:=by simpa using hab
      simp[this,hab]
  |[],_::_,h,_=>h.elim
  |_::_,[],h,_=>h.elim
theorem Ad.ints {d t:Nat}(xs ys:List Value)(ks:List (IntKind×Nat))(ht:P.underlying t=some (.struct (P.fieldsOf t)))(hp:P.stoodInHeld t=false)(hf:Ee P xs ys (P.fieldsOf t).toList ks):Ad P (d+2) t (.agg xs.toArray) (.agg ys.toArray) (Ed xs ys ks):=fun w=>by
  rw[run_equalIn_struct w (d+1) t _ _ ht hp]
  exact AO d xs ys _ ks hf w
end
end Go.Sx

namespace Go.Sx
open Go Go.RowKit
section
variable {P:Program}{env:Env}{n:Nat}{d:Option Nat}{T:TypeId}{p:String}{af:Array Edge}{g:Option (Nat×Bool)}{w w':World}{K:Value->World->Prop}{α:Type}
structure oz (f:α->List Value)(s:Nat):Prop where
  len:∀x,(f x).length=s
  one:∀x,∀v∈f x,v.oneCell'=true
  pos:0<s
theorem lF {α:Type}(xs:List α)(z:α){k:Nat}(h:k<xs.length):xs[k]? =some (xs.getD k z):=by simp[h,List.getD]
theorem Pq {α:Type}{xs ys:List α}{z:α}(hl:xs.length=ys.length)(h:∀j,j<xs.length->xs.getD j z=ys.getD j z):xs=ys:=by
  apply List.ext_getElem hl
  intro i b c
  have:=h i b
  simpa[List.getD,b,c]using this
theorem Eg {f:α->List Value}{s:Nat}(hf:oz f s)(xs:List α){j o:Nat}{x:α}{v:Value}(hx:xs[j]? =some x)(hv:(f x)[o]? =some v):(xs.map f).flatten[j*s+o]? =some v:=
  Ha (xs.map f) (fun r hr=>by obtain⟨y,_,rfl⟩:=List.mem_map.1 hr;exact hf.len y) j (f x) (by simp[hx]) o v hv
theorem FY {f:α->List Value}{s:Nat}(hf:oz f s)(xs:List α):(xs.map f).flatten.length=xs.length*s:=by
  rw[CU (k:=s) _ (fun r hr=>by obtain⟨y,_,rfl⟩:=List.mem_map.1 hr;exact hf.len y),List.length_map]
theorem Jd {f:α->List Value}{s:Nat}(hf:oz f s)(xs:List α):∀v∈(xs.map f).flatten,v.oneCell'=true:=fun v hv=>by
  obtain⟨r,hr,hv⟩:=List.mem_flatten.1 hv
  obtain⟨y,_,rfl⟩:=List.mem_map.1 hr
  exact hf.one y v hv
def Vec (w:World)(f:α->List Value)(s:Nat)(A:Option Addr)(m:Nat)(xs:List α):Prop:=xs.length=m/\Sl w s A m (xs.map f).flatten
def jO (w:World)(base e:Nat)(f:α->List Value)(s:Nat)(A:Option Addr)(m c:Nat)(xs:List α):Prop:=xs.length=m/\Own w base e s A m c (xs.map f).flatten
variable {f:α->List Value}{s:Nat}{A:Option Addr}{m c:Nat}{xs:List α}{base e:Nat}
theorem Vec.le (h:Vec w f s A m xs)(hl:Le w w'):Vec w' f s A m xs:=⟨h.1,h.2.le hl⟩
theorem Vec.isSome (h:Vec w f s A m xs)(hf:oz f s)(hm:0<m):A.isSome=true:=h.2.isSome (j:=0) hm hf.pos
theorem Vec.nil (w:World)(f:α->List Value)(s:Nat)(A:Option Addr):Vec w f s A 0 []:=⟨rfl,Sl.nil _ _ _⟩
theorem Vec.rws (h:Vec w f s A m xs)(hf:oz f s):OO w s A m (xs.map f):=⟨by simp[h.1],fun r hr=>by obtain⟨y,_,rfl⟩:=List.mem_map.1 hr;exact hf.len y,h.2⟩
theorem OO.vec (h:OO w s A m (xs.map f)):Vec w f s A m xs:=⟨by simpa using h.1,h.2.2⟩
theorem vS {g1:α->Value}:∀xs:List α,(xs.map fun x=>[g1 x]).flatten=xs.map g1
  |[]=>rfl
  |x::xs=>by simp[vS xs]
theorem Vec.sl {g1:α->Value}(h:Vec w (fun x=>[g1 x]) 1 A m xs):Sl w 1 A m (xs.map g1):=by rw[<-vS];exact h.2
theorem Sl.vec {g1:α->Value}(h:Sl w 1 A m (xs.map g1)):Vec w (fun x=>[g1 x]) 1 A m xs:=⟨by have:=h.1;simpa using this,by rw[vS];exact h⟩
theorem Vec.cast {m':Nat}{ys:List α}(h:Vec w f s A m xs)(hm:m=m')(hx:xs=ys):Vec w f s A m' ys:=by subst hm hx;exact h
theorem jO.vec (h:jO w base e f s A m c xs):Vec w f s A m xs:=⟨h.1,h.2.sl⟩
theorem jO.le (h:jO w base e f s A m c xs)(hl:Le w w'):jO w' base e f s A m c xs:=⟨h.1,h.2.le hl⟩
theorem jO.ch {r:Option Nat}(h:jO w base e f s A m c xs)(hc:Ch w w' r)(hne:∀g,r=some g->rowOf A c≠some g):jO w' base e f s A m c xs:=⟨h.1,h.2.ch hc hne⟩
theorem jO.row (h:jO w base e f s A m c xs){g:Nat}(hg:rowOf A c=some g):base<=g/\g<w.heap.size:=h.2.row hg
theorem jO.cap (h:jO w base e f s A m c xs):m<=c/\c<=maxLen:=h.2.cap
theorem jO.mono {base':Nat}(h:jO w base e f s A m c xs)(hb:base'<=base):jO w base' e f s A m c xs:=⟨h.1,h.2.mono hb⟩
theorem jO.nil (w:World)(base e:Nat)(f:α->List Value)(s:Nat)(A:Option Addr):jO w base e f s A 0 0 []:=⟨rfl,Own.nil _ _ _ _ _⟩
theorem jO.cast {m':Nat}{ys:List α}(h:jO w base e f s A m c xs)(hm:m=m')(hx:xs=ys):jO w base e f s A m' c ys:=by subst hm hx;exact h
theorem jO.own {g1:α->Value}(h:jO w base e (fun x=>[g1 x]) 1 A m c xs):Own w base e 1 A m c (xs.map g1):=by rw[<-vS];exact h.2
theorem Own.pQ {g1:α->Value}(h:Own w base e 1 A m c (xs.map g1)):jO w base e (fun x=>[g1 x]) 1 A m c xs:=⟨by have:=h.1;simpa using this,by rw[vS];exact h⟩
theorem Rd.tH {t j:Nat}{x:Operand}{a:α}(hu:mq P t s)(hx:ev env x=some (ptr A (j*s)))(hV:Vec w f s A m xs)(hf:oz f s)(hj:xs[j]? =some a):Rd P w env n ⟨d,.load t x,T,p,af,g⟩ (.agg (f a).toArray):=
  Rd.Xi hu hx (hV.rws hf) (by simp[hj]) hf.pos
theorem Rd.AP {t j o:Nat}{x:Operand}{a:α}{v:Value}(hu:lV P t)(hx:ev env x=some (ptr A (j*s+o)))(hV:Vec w f s A m xs)(hf:oz f s)(hj:xs[j]? =some a)(ho:(f a)[o]? =some v):Rd P w env n ⟨d,.load t x,T,p,af,g⟩ v:=
  Rd.lG hu hx hV.2 (Eg hf xs hj ho)
theorem Rd.pg {t j:Nat}{x:Operand}{a:α}{v:Value}(hu:lV P t)(hx:ev env x=some (ptr A (j*s)))(hV:Vec w f s A m xs)(hf:oz f s)(hj:xs[j]? =some a)(ho:(f a)[0]? =some v):Rd P w env n ⟨d,.load t x,T,p,af,g⟩ v:=
  Rd.lG hu hx hV.2 (by have:=Eg hf xs hj ho;simpa using this)
theorem SG {cs fx:List Value}{o k:Nat}(hc:(fx.drop o).take k=cs):∀i u,cs[i]? =some u->fx[o+i]? =some u:=fun i u hu=>by
  rw[<-hc,List.getElem?_take]at hu
  split at hu
  · rwa [List.getElem?_drop]at hu
  · cases hu
theorem Rd.mV {t o k gb:Nat}{tb:TypeId}{x:Operand}{cells:Array Value}(cs:List Value)(hu:mq P t k)(hk:cs.length=k)(hp:0<k)(hx:ev env x=some (.pointer (some ⟨gb,o,none⟩)))(hB:jL w gb tb cells)(hc:(cells.toList.drop o).take k=cs):
    Rd P w env n ⟨d,.load t x,T,p,af,g⟩ (.agg cs.toArray):=by
  have hS:=hB.sl (s:=1) (n:=cells.size) (by omega)
  refine Rd.Pg (A:=some ⟨gb,0,none⟩) (j:=o) cs (by rw[hk];exact hu) (by rw[hx];simp[ptr,add_lit]) hS (fun i u hi=>SG hc i u hi) (by omega)
theorem Any.qy {t i off:Nat}{x:Operand}{j:Nat}(hf:pE P t i off)(hA:A.isSome=true)(hx:ev env x=some (ptr A j)):Any P env n ⟨d,.fieldAddr t x i,T,p,af,g⟩ (ptr A (j+off)):=fun a ha w=>by
  obtain⟨fs,f,s,b,c,e,k,m⟩:=hf
  obtain⟨ad,rfl⟩:=Option.isSome_iff_exists.1 hA
  have l:¬s=0:=by omega
  simp[execOp,ha.eval hx,Instr.fieldAt,run_underlying b,c,Instr.sureAddr,fieldPlace,k.run,l,e,ptr,add_add]
theorem Any.mg {t i off:Nat}{x:Operand}{gb o:Nat}(hf:pE P t i off)(hx:ev env x=some (.pointer (some ⟨gb,o,none⟩))):Any P env n ⟨d,.fieldAddr t x i,T,p,af,g⟩ (.pointer (some ⟨gb,o+off,none⟩)):=Any.fieldAddr hf hx
theorem Vec.cut (h:Vec w f s A m xs)(cap l k:Nat)(hl:l<=k)(hm:k<=m)(hc:m<=cap)(hf:oz f s):Vec w f s (uq A cap l s) (k-l) ((xs.drop l).take (k-l)):=by
  refine⟨by have:=h.1;simp;omega,?_⟩
  have b:=h.2.cut cap l k hl hm hc
  have e:(((xs.map f).flatten.drop (l*s)).take ((k-l)*s))=(((xs.drop l).take (k-l)).map f).flatten:=by
    have hd:∀(ys:List α) (q:Nat),(ys.map f).flatten.drop (q*s)=((ys.drop q).map f).flatten:=by
      intro ys
      induction ys with
      |nil=>intro q;simp
      |cons y ys ih=>
        intro q
        cases q with
        |zero=>simp
        |succ q=>
          rw[List.map_cons,List.flatten_cons,List.drop_succ_cons,Nat.succ_mul,Nat.add_comm,<-List.drop_drop,List.drop_left' (hf.len y),ih]
    have ht:∀(ys:List α) (q:Nat),(ys.map f).flatten.take (q*s)=((ys.take q).map f).flatten:=by
      intro ys
      induction ys with
      |nil=>intro q;simp
      |cons y ys ih=>
        intro q
        cases q with
        |zero=>simp
        |succ q=>
          rw[List.map_cons,List.flatten_cons,List.take_succ_cons,List.map_cons,List.flatten_cons,Nat.succ_mul,Nat.add_comm,List.take_add,List.take_left' (hf.len y),List.drop_left' (hf.len y),ih]
    rw[hd,ht]
  rw[e]at b
  exact b
theorem Vec.sI (h:Vec w f s A m xs)(cap l:Nat)(hl:l<=m)(hc:m<=cap)(hf:oz f s):Vec w f s (uq A cap l s) (m-l) (xs.drop l):=by
  have:=h.cut cap l m hl (Nat.le_refl _) hc hf
  rwa [List.take_of_length_le (by have:=h.1;simp;omega)]at this
theorem Vec.Fz (h:Vec w f s A m xs)(k:Nat)(hk:k<=m)(hf:oz f s):Vec w f s A k (xs.take k):=by
  have:=h.cut m 0 k (Nat.zero_le _) hk (Nat.le_refl _) hf
  rwa [yz,Nat.sub_zero,List.drop_zero]at this
theorem jL.pQ {gb:Nat}{cs:Array Value}(h:jL w gb e cs)(hb:base<=gb)(hf:oz f s)(hc:cs.toList=(xs.map f).flatten)(hl:xs.length=m)(hm:m<=maxLen):jO w base e f s (some ⟨gb,0,none⟩) m m xs:=by
  refine⟨hl,?_⟩
  rw[<-hc]
  exact h.own hb (by rw[<-Array.length_toList,hc,FY hf,hl]) hm
theorem Ef.xw {t tx b:Nat}{z:Value}{x y:Operand}{gb:Nat}{e2:TypeId}{a:α}(ht:P.underlying t=some (.slice e))(hel:El P e s b z)(htx:P.underlying tx=some (.slice e2))(hf:oz f s)(hx:ev env x=some (.slice A m c))(hO:jO w base e f s A m c xs)
    (hy:ev env y=some (.slice (some ⟨gb,0,none⟩) 1 1))(hB:jL w gb e2 (f a).toArray)(hb:(m+1)*b<=140737488355328)(hl:m+1<=maxLen)(hbase:base<=w.heap.size)
    (h:∀A' c' w',jO w' base e f s A' (m+1) c' (xs++[a])->Ch w w' (rowOf A c)->At w A c A' c'->K (.slice A' (m+1) c') w'):
    Ef P env n ⟨d,.call ⟨.builtin .append,#[x,y],#[t,tx]⟩,T,p,af,g⟩ w K:=
  Ef.append ht hel hx hO.2 hy (hB.Z4 htx (by simpa using hf.len a) hf.pos (by simpa using hf.one a)) hb hl hbase (fun A' c' w' i j k=>h A' c' w' ⟨by simp[hO.1],by simpa using i⟩ j k)
theorem Ef.Ps {t tx b:Nat}{z:Value}{x y:Operand}{e2:TypeId}{B:Option Addr}{k c2:Nat}{ys:List α}(ht:P.underlying t=some (.slice e))(hel:El P e s b z)(htx:P.underlying tx=some (.slice e2))(hf:oz f s)(hx:ev env x=some (.slice A m c))(hO:jO w base e f s A m c xs)
    (hy:ev env y=some (.slice B k c2))(hB:Vec w f s B k ys)(hb:(m+k)*b<=140737488355328)(hl:m+k<=maxLen)(hbase:base<=w.heap.size)
    (h:∀A' c' w',jO w' base e f s A' (m+k) c' (xs++ys)->Ch w w' (rowOf A c)->At w A c A' c'->K (.slice A' (m+k) c') w'):
    Ef P env n ⟨d,.call ⟨.builtin .append,#[x,y],#[t,tx]⟩,T,p,af,g⟩ w K:=
  Ef.append ht hel hx hO.2 hy (hB.2.src htx hf.pos c2 (Jd hf ys)) hb hl hbase (fun A' c' w' i j l=>h A' c' w' ⟨by simp[hO.1,hB.1],by simpa using i⟩ j l)
theorem Nc (z:α)(hf:oz f s)(cs:Array Value)(hz:cs.toList=f z):∀k:Nat,(madeCells cs (k*s)).toList=((List.replicate k z).map f).flatten:=by
  intro k
  have hlen:(madeCells cs (k*s)).toList.length=((List.replicate k z).map f).flatten.length:=by rw[FY hf,List.length_replicate];simp[madeCells]
  apply List.ext_getElem?
  intro i
  by_cases hi:i<k*s
  · have hsz:cs.size=s:=by rw[<-Array.length_toList,hz,hf.len]
    have hm:i%s<s:=Nat.mod_lt _ hf.pos
    have hx:(List.replicate k z)[i/s]? =some z:=by
      have:i/s<k:=by rw[Nat.div_lt_iff_lt_mul hf.pos];exact hi
      simp[List.getElem?_replicate,this]
    have hv:(f z)[i%s]? =some ((f z)[i%s]'(by rw[hf.len];exact hm)):=List.getElem?_eq_getElem _
    have b:=Eg hf (List.replicate k z) hx hv
    rw[Nat.mul_comm,Nat.div_add_mod]at b
    rw[b]
    have c:cs.size≠0:=by have:=hf.pos;omega
    have:(madeCells cs (k*s)).toList[i]? =cs[i%cs.size]? :=by
      simp[madeCells,hi]
      rw[Array.getElem?_eq_getElem (by rw[hsz];exact hm)]
      simp[Array.getElem!_eq_getD,Array.getD_eq_getD_getElem?,Array.getElem?_eq_getElem (show i%cs.size<cs.size by rw[hsz];exact hm)]
    rw[this,hsz,<-Array.getElem?_toList,hz]
    exact hv
  · rw[List.getElem?_eq_none (by simp[madeCells];omega),List.getElem?_eq_none (by rw[<-hlen];simp[madeCells];omega)]
theorem Ef.Xm {t b:Nat}{zv:Value}{x y:Operand}{k k':IntKind}{i i':Int}(z:α)(m:Nat)(ht:P.underlying t=some (.slice e))(hel:El P e s b zv)(hf:oz f s)(hz:zv.cells.toList=f z)(hx:ev env x=some (.int k i))(hi:i=(m:Int))(hy:ev env y=some (.int k' i'))(hi':i'=(m:Int))
    (hb:m*b<=140737488355328)(hc:m<=maxLen)(h:∀gb w',w.heap.size<=gb->jO w' w.heap.size e f s (some ⟨gb,0,none⟩) m m (List.replicate m z)->Le w w'->K (.slice (some ⟨gb,0,none⟩) m m) w'):
    Ef P env n ⟨d,.makeSlice t x y,T,p,af,g⟩ w K:=
  Ef.makeSlice m m ht hel hx hi hy hi' (Nat.le_refl _) hb hc (fun gb w' c j l=>h gb w' c (j.pQ c hf (Nc z hf _ hz m) (by simp) hc) l)
theorem Je {s:Nat}{f:α->List Value}(hf:oz f s):∀(xs:List α) (j o:Nat) (a b:α) (v:Value),xs[j]? =some a->o<s->f b=(f a).set o v->((xs.set j b).map f).flatten=(xs.map f).flatten.set (j*s+o) v
  |[],j,o,a,b,v,h,_,_=>by simp at h
  |x::xs,0,o,a,b,v,h,ho,hb=>by
    simp at h
    subst h
    simp only[List.set_cons_zero,List.map_cons,List.flatten_cons,Nat.zero_mul,Nat.zero_add]
    rw[List.set_append_left _ _ (by rw[hf.len];exact ho),hb]
  |x::xs,j+1,o,a,b,v,h,ho,hb=>by
    simp only[List.set_cons_succ,List.map_cons,List.flatten_cons]
    rw[Je hf xs j o a b v (by simpa using h) ho hb,List.set_append_right _ _ (by rw[hf.len,Nat.succ_mul];omega),hf.len]
    congr 2
    rw[Nat.succ_mul];omega
theorem Own.Z7 {e:Nat}{gb k c:Nat}{ys:List Value}(h:Own w base e s (some ⟨gb,0,none⟩) k c ys)(hk:0<k)(j:Nat)(hj:j<k*s)(u:Value):Own (w.setCell ⟨gb,j,none⟩ u) base e s (some ⟨gb,0,none⟩) k c (ys.set j u):=by
  rcases h.2 with⟨rfl,_⟩|⟨g',cur,hv,hb,hg,hnc,hcm,hcs,htake⟩
  · omega
  · injection hv with hA
    injection hA with hA
    subst hA
    refine⟨by simpa using h.1,.inr ⟨gb,cur.setIfInBounds j u,rfl,hb,heap_setCell_same w gb j cur e u hg,hnc,hcm,by simpa using hcs,?_⟩⟩
    rw[Array.toList_setIfInBounds,List.take_set,htake]
theorem Ef.Jf {t j o q:Nat}{x y:Operand}{a:α}{v:Value}(b:α)(hs:Sz P t 1)(hx:ev env x=some (ptr A q))(hq:q=j*s+o)(hy:ev env y=some v)(hO:jO w base e f s A m c xs)(hf:oz f s)(hj:xs[j]? =some a)(ho:o<s)(hb:f b=(f a).set o v)(hv:v.oneCell'=true)
    (h:∀w',jO w' base e f s A m c (xs.set j b)->Ch w w' (rowOf A c)->K undef w'):Ef P env n ⟨d,.store t x y,T,p,af,g⟩ w K:=by
  subst hq
  have hjl:j<m:=by rw[<-hO.1];exact(List.getElem?_eq_some_iff.1 hj).1
  obtain⟨gb,rfl,hbg,hlt,hrow⟩:=hO.2.lit (by omega)
  obtain⟨cur,hB,hcs,_⟩:=hO.2.block (by omega)
  have hcap:=hO.2.cap
  have hjs:j*s+o<m*s:=by
    have:(j+1)*s<=m*s:=Nat.mul_le_mul_right _ hjl
    rw[Nat.succ_mul]at this
    omega
  have hin:j*s+o<cur.size:=by rw[hcs];exact Nat.lt_of_lt_of_le hjs (Nat.mul_le_mul_right _ hcap.1)
  have hr:=vw (P:=P) hs hB (j:=j*s+o) hin hv
  refine .uU (w':=w.setCell ⟨gb,j*s+o,none⟩ v) (fun a' ha=>by simp[execOp,ha.eval hx,ha.eval hy,ptr,add_lit,Instr.storeAt,Instr.sureAddr,hr]) (h _ ⟨by simp[hO.1],?_⟩ (by rw[hrow];exact Ch.setCell w gb (j*s+o) v))
  rw[Je hf xs j o a b v hj ho hb]
  exact hO.2.Z7 (by omega) _ hjs v
def puts (pl:List (Nat×Nat)):List Value->List (Nat×Value)->Option (List Value)
  |zs,[]=>some zs
  |zs,(i,v)::rest=>match pl[i]? with
    |none=>none
    |some (off,size)=>match Nat.beq v.cells.toList.length size&&Nat.ble (off+size) zs.length with
      |true=>puts pl (zs.take off++v.cells.toList++zs.drop (off+size)) rest
      |false=>none
theorem FZ (pl:List (Nat×Nat)):∀(vs:List (Nat×Value)) (zs cs:List Value),puts pl zs vs=some cs->Instr.fill (pl.toArray[·]?) zs.toArray vs=some cs.toArray
  |[],zs,cs,h=>by simp[puts]at h;subst h;rfl
  |(i,v)::rest,zs,cs,h=>by
    rw[puts]at h
    split at h
    · cases h
    · rename_i off size hpl
      split at h
      · rename_i hb
        rw[Bool.and_eq_true]at hb
        have h1:v.cells.toList.length=size:=Nat.eq_of_beq_eq_true hb.1
        have b:off+size<=zs.length:=Nat.le_of_ble_eq_true hb.2
        have ih:=FZ pl rest _ cs h
        have hs:v.cells.size=size:=by simpa using h1
        rw[Instr.fill]
        have hpl':pl.toArray[i]? =some (off,size):=by simpa using hpl
        simp only[hpl']
        rw[if_neg (by simp[hs];omega)]
        have hf:=xM v.cells.toList 0 off (zs.take off) (zs.drop off) (by simp;omega) (by simp;omega)
        rw[List.take_append_drop]at hf
        have hf':Array.foldl (fun cs x=>match x with |(c,j)=>cs.setIfInBounds (off+j) c) zs.toArray v.cells.zipIdx=(zs.take off++v.cells.toList++(zs.drop off).drop v.cells.toList.length).toArray:=by
          rw[<-hf,<-Array.foldl_toList];simp
        rw[hf',List.drop_drop,h1]
        exact ih
      · cases h
theorem Any.kK {t:Nat}{z:Value}{pl:List (Nat×Nat)}{parts:Array (Nat×Operand)}{vs:List (Nat×Value)}(cs:List Value)(hu:FX P t pl)(hz:Zr P t z)(hp:Pk env parts.toList=some vs)(hf:puts pl z.cells.toList vs=some cs):Any P env n ⟨d,.build t parts,T,p,af,g⟩ (.agg cs.toArray):=
  Any.Vm hu hz hp (by have:=FZ pl vs _ cs hf;simpa using this)
def Eh (P:Program)(d:Nat)(xs ys:Array Value):List Field->List (Nat×Value×Value×Bool)->Prop
  |[],[]=>True
  |f::fs,(o,u,v,b)::ks=>f.name≠ "_" /\f.offset=o/\(∀w:World,(part f.type xs o).run P w= .ok u w)/\(∀w:World,(part f.type ys o).run P w= .ok v w)/\Ad P d f.type u v b/\Eh P d xs ys fs ks
  |_,_=>False
theorem y7 (d:Nat)(xs ys:Array Value):∀(fs:List Field) (ks:List (Nat×Value×Value×Bool)),Eh P d xs ys fs ks->∀w:World,(Op.eqFields d xs ys fs).run P w= .ok (ks.all fun k=>k.2.2.2) w
  |[],[],_,w=>by simp[Op.eqFields]
  |f::fs,(o,u,v,b)::ks,h,w=>by
    obtain⟨h1,h2,h3,h4,h5,h6⟩:=h
    have ih:=y7 d xs ys fs ks h6 w
    simp only[Op.eqFields]
    rw[if_pos h1,h2]
    simp only[Sem.run_bind,h3,h4,Result.andThen_ok,h5 w]
    cases b<;>simp[ih]
  |[],_::_,h,_=>h.elim
  |_::_,[],h,_=>h.elim
theorem Ad.struct {d t:Nat}(xs ys:Array Value)(ks:List (Nat×Value×Value×Bool))(ht:P.underlying t=some (.struct (P.fieldsOf t)))(hp:P.stoodInHeld t=false)(hf:Eh P d xs ys (P.fieldsOf t).toList ks):Ad P (d+1) t (.agg xs) (.agg ys) (ks.all fun k=>k.2.2.2):=fun w=>by
  rw[run_equalIn_struct w d t _ _ ht hp]
  exact y7 d xs ys _ ks hf w
theorem Ce {e s:Nat}{xs:Array Value}{o:Nat}(cs:List Value)(he:mq P e s)(hl:cs.length=s)(hv:(xs.toList.drop o).take s=cs)(w:World):(part e xs o).run P w= .ok (.agg cs.toArray) w:=by
  have hag:=he.run w
  obtain⟨dd,c,d,b⟩:=he
  have hx:xs.extract o (o+s)=cs.toArray:=by
    apply Array.ext'
    rw[Array.toList_extract,List.extract_eq_drop_take']
    simp
    rw[<-hv]
    simp[List.drop_take]
  have hsz:o+s<=xs.size\/s=0:=by
    have:=congrArg List.length hv
    rw[hl,List.length_take,List.length_drop,Array.length_toList]at this
    omega
  simp[part,hag,b.run,hx]
theorem Rd.min2 {t T0:TypeId}{x y:Operand}{a b:Int}(hx:ev env x=some (.int .i64 a))(hy:ev env y=some (.int .i64 b)):Rd P w env n ⟨d,.call ⟨.builtin .min,#[x,y],#[t,T0]⟩,T,p,af,g⟩ (.int .i64 (min a b)):=fun ac ha w' _=>by
  simp[execOp,resolve,invoke,builtin,Builtin.min_,Builtin.min2,ha.eval hx,ha.eval hy]
  split<;>omega
theorem Rd.max2 {t T0:TypeId}{x y:Operand}{a b:Int}(hx:ev env x=some (.int .i64 a))(hy:ev env y=some (.int .i64 b)):Rd P w env n ⟨d,.call ⟨.builtin .max,#[x,y],#[t,T0]⟩,T,p,af,g⟩ (.int .i64 (max a b)):=fun ac ha w' _=>by
  simp[execOp,resolve,invoke,builtin,Builtin.max_,Builtin.max2,ha.eval hx,ha.eval hy]
  split<;>omega
def vT (P:Program)(w:World)(env:Env):ResultVar->Value->Prop
  | .tmp t,v=>look env t=some v
  | .cell t ty,v=>∃ad,look env t=some (.pointer (some ad))/\(loadVar ty ad).run P w= .ok v w
theorem lS {t ty sz gb:Nat}{tb:TypeId}{cs:Array Value}(hv:look env t=some (.pointer (some ⟨gb,0,none⟩)))(hB:jL w gb tb cs)(hu:mq P ty sz)(hs:cs.size=sz):vT P w env (.cell t ty) (.agg cs):=by
  subst hs
  obtain⟨dd,b,d,c⟩:=hu
  exact⟨_,hv,run_loadVar_row (P:=P) w gb tb ty cs (0,0) dd hB b (by cases dd<;>simp_all) c⟩
def He (tmps:Array Value):ResultVar->Sem Value
  | .tmp t=>pure (tmps.getD t undef)
  | .cell a t=>do loadVar t (<-asAddr (tmps.getD a undef))
theorem vT.run {r:ResultVar}{v:Value}{a:Act}(h:vT P w env r v)(ha:tK a n env):(He a.tmps r).run P w= .ok v w:=by
  cases r with
  |tmp t=>simp[He,ha.2.2 t v h]
  |cell t ty=>obtain⟨ad,b,c⟩:=h;simp[He,ha.2.2 t _ b,asAddr,c]
theorem uX (fn:Func)(tmps:Array Value):results fn tmps=(do let vs <-fn.results.mapM (He tmps);pure (if h:vs.size=1 then vs[0]else .tuple vs)):=by
  unfold results
  congr 1
theorem E.jI {fn:Func}{R:Ending->World->Prop}{r1:ResultVar}{v1:Value}(hr:fn.results=#[r1])(h1:vT P w env r1 v1)(h:R (.returned v1) w):E (bodyPost P fn R) n .ret env w:=fun a ha=>
  bodyPost_ret (v:=v1) (by rw[uX,hr];simp[h1.run ha]) ha.1 h
theorem E.mI {fn:Func}{R:Ending->World->Prop}{r1 r2:ResultVar}{v1 v2:Value}(hr:fn.results=#[r1,r2])(h1:vT P w env r1 v1)(h2:vT P w env r2 v2)(h:R (.returned (.tuple #[v1,v2])) w):E (bodyPost P fn R) n .ret env w:=fun a ha=>
  bodyPost_ret (v:= .tuple #[v1,v2]) (by rw[uX,hr];simp[h1.run ha,h2.run ha]) ha.1 h
theorem E.Pt {fn:Func}{R:Ending->World->Prop}{r1 r2 r3:ResultVar}{v1 v2 v3:Value}(hr:fn.results=#[r1,r2,r3])(h1:vT P w env r1 v1)(h2:vT P w env r2 v2)(h3:vT P w env r3 v3)(h:R (.returned (.tuple #[v1,v2,v3])) w):E (bodyPost P fn R) n .ret env w:=fun a ha=>
  bodyPost_ret (v:= .tuple #[v1,v2,v3]) (by rw[uX,hr];simp[h1.run ha,h2.run ha,h3.run ha]) ha.1 h
theorem E.CW {fn:Func}{R:Ending->World->Prop}{r1 r2 r3 r4:ResultVar}{v1 v2 v3 v4:Value}(hr:fn.results=#[r1,r2,r3,r4])(h1:vT P w env r1 v1)(h2:vT P w env r2 v2)(h3:vT P w env r3 v3)(h4:vT P w env r4 v4)(h:R (.returned (.tuple #[v1,v2,v3,v4])) w):E (bodyPost P fn R) n .ret env w:=fun a ha=>
  bodyPost_ret (v:= .tuple #[v1,v2,v3,v4]) (by rw[uX,hr];simp[h1.run ha,h2.run ha,h3.run ha,h4.run ha]) ha.1 h
variable {Q:Exit->Act->World->Prop}
theorem WC.Xn {cnd:Operand}{x y:Code}{b:Bool}(hc:ev env cnd=some (.bool b))(hb:b=true)(ht:WC P Q n x env w):WC P Q n (.cond cnd x y) env w:= .jS (by rw[hc,hb]) ht
theorem WC.Xo {cnd:Operand}{x y:Code}{b:Bool}(hc:ev env cnd=some (.bool b))(hb:b=false)(hf:WC P Q n y env w):WC P Q n (.cond cnd x y) env w:= .kF (by rw[hc,hb]) hf
theorem Z8 {gb:Nat}{tb:TypeId}{l:List α}{f1:α->Value}{j:Nat}{a:α}(h:jL w gb tb ((l.map f1).toArray.setIfInBounds j (f1 a))):jL w gb tb ((l.set j a).map f1).toArray:=h.cast (by simp[List.map_set])
end
end Go.Sx

namespace Go.Sx
open Go
def gets (e:Env):Env->List (Option Value)
  |[]=>[]
  |p::r=>look e p.1::gets e r
def vals:Env->List (Option Value)
  |[]=>[]
  |p::r=>some p.2::vals r
theorem Sub.of {e' e:Env}(h:gets e e'=vals e'):Sub e' e:=by
  induction e' with
  |nil=>exact .nil _
  |cons p r ih=>
    injection h with h1 h2
    exact .cons h1 (ih h2)
def slot (o:Oper)(n:Nat):Option Nat:=match o.guard with
  |none=>match o.dst with
    |some d=>bif Nat.blt d n then some d else none
    |none=>none
  |some _=>none
theorem Hf {o:Oper}{n d:Nat}(h:slot o n=some d):o.guard=none/\o.dst=some d/\Nat.blt d n=true:=by
  unfold slot at h
  split at h
  · split at h
    · rename_i e1 _ d' e2
      cases hb:Nat.blt d' n
      · rw[hb]at h;cases h
      · rw[hb]at h;cases h;exact⟨e1,e2,hb⟩
    · cases h
  · cases h
def Jg (ops:Array Oper)(env:Env)(n:Nat)(o:Oper):Option Nat:=match o.guard with
  |none=>none
  |some p=>match(ops[p.1]?).bind (·.dst)with
    |none=>none
    |some dj=>match look env dj with
      |some (.bool b)=>bif b==p.2 then(match o.dst with
        |some d=>bif Nat.blt d n then some d else none
        |none=>none)else none
      |_=>none
theorem Hg {ops:Array Oper}{env:Env}{o:Oper}{n d:Nat}(h:Jg ops env n o=some d):∃j want dj b,o.guard=some (j,want)/\(ops[j]?).bind (·.dst)=some dj/\look env dj=some (.bool b)/\b=want/\o.dst=some d/\Nat.blt d n=true:=by
  unfold Jg at h
  split at h
  · cases h
  · rename_i p e1
    split at h
    · cases h
    · rename_i dj e2
      split at h
      · rename_i b e3
        cases hb:b==p.2
        · rw[hb]at h;cases h
        · rw[hb]at h
          simp only[cond_true]at h
          split at h
          · rename_i d' e4
            cases hd:Nat.blt d' n
            · rw[hd]at h;cases h
            · rw[hd]at h;cases h;exact⟨p.1,p.2,dj,b,e1,e2,e3,eq_of_beq hb,e4,hd⟩
          · cases h
      · cases h
def opAt (ops:Array Oper)(i k:Nat)(f:Oper->Option Nat):Option (Oper×Nat):=match ops[i]? with
  |some o=>bif Nat.beq (kd o.op) k then(match f o with
    |some d=>some (o,d)
    |none=>none)else none
  |none=>none
theorem Hl {ops:Array Oper}{i k d:Nat}{f:Oper->Option Nat}{o:Oper}(h:opAt ops i k f=some (o,d)):ops[i]? =some o/\kd o.op=k/\f o=some d:=by
  unfold opAt at h
  split at h
  · rename_i o' e1
    cases hb:Nat.beq (kd o'.op) k
    · rw[hb]at h;cases h
    · rw[hb]at h
      simp only[cond_true]at h
      split at h
      · rename_i d' e2
        cases h
        exact⟨e1,Nat.eq_of_beq_eq_true hb,e2⟩
      · cases h
  · cases h
section
variable {P:Program}{ops:Array Oper}{Q:Exit->Act->World->Prop}{n:Nat}{env:Env}{w:World}
theorem Wn (k:Nat){rest l:List Oper}{env e:Env}(h:Sw ops n k rest env=some (l,e))(hw:W P ops Q n l e w):W P ops Q n rest env w:=W.run k h hw
theorem Gn (k:Nat){plan l:List Nat}{env e:Env}(h:SA ops n k plan env=some (l,e))(hw:G P ops Q n l e w):G P ops Q n plan env w:=G.run k h hw
theorem Sr {id:Nat}{l:List Oper}{y:Code}(h:W P l.toArray (Exit.then (y.wp P Q) Q) n l env w):WC P Q n (.seq (.region id l.toArray false) y) env w:=WC.sr h
theorem Nx {y:Code}{Q Q':Exit->Act->World->Prop}(h:WC P Q n y env w):W P ops (Exit.then (y.wp P Q) Q') n [] env w:=W.nx h
theorem Sn {y:Code}{Q':Exit->Act->World->Prop}(h:WC P Q n y env w):WC P (Exit.then (y.wp P Q) Q') n .skip env w:=WC.sn h
theorem Dt {rest:List Oper}{d:Nat}{x:Operand}{T:TypeId}{pp:String}{af:Array Edge}{p:Prop}[Decidable p](hp:p)(hx:ev env x=some (.bool (decide p)))(hn:Nat.blt d n=true)(h:W P ops Q n rest ((d,.bool true)::env) w):W P ops Q n (⟨some d,.move x,T,pp,af,none⟩::rest) env w:=W.dt hp hx hn h
theorem Df {rest:List Oper}{d:Nat}{x:Operand}{T:TypeId}{pp:String}{af:Array Edge}{p:Prop}[Decidable p](hp:¬p)(hx:ev env x=some (.bool (decide p)))(hn:Nat.blt d n=true)(h:W P ops Q n rest ((d,.bool false)::env) w):W P ops Q n (⟨some d,.move x,T,pp,af,none⟩::rest) env w:=W.df hp hx hn h
theorem Sq {x y:Code}(h:WC P (Exit.then (y.wp P Q) Q) n x env w):WC P Q n (.seq x y) env w:=WC.seq h
theorem Rt (h:E Q n .ret env w):WC P Q n .ret env w:=WC.ret h
theorem Cy {cnd:Operand}{x y:Code}{b:Bool}(hc:ev env cnd=some (.bool b))(hb:b=true)(ht:WC P Q n x env w):WC P Q n (.cond cnd x y) env w:=WC.Xn hc hb ht
theorem Cn {cnd:Operand}{x y:Code}{b:Bool}(hc:ev env cnd=some (.bool b))(hb:b=false)(hf:WC P Q n y env w):WC P Q n (.cond cnd x y) env w:=WC.Xo hc hb hf
theorem Wa {o:Oper}{rest:List Oper}{v:Value}{d:Nat}(hr:Any P env n o v)(hd:slot o n=some d)(h:W P ops Q n rest ((d,v)::env) w):W P ops Q n (o::rest) env w:=have t:=Hf hd;W.any hr t.1 t.2.1 t.2.2 h
theorem Wr {o:Oper}{rest:List Oper}{v:Value}{d:Nat}(hr:Rd P w env n o v)(hd:slot o n=some d)(h:W P ops Q n rest ((d,v)::env) w):W P ops Q n (o::rest) env w:=have t:=Hf hd;W.rd hr t.1 t.2.1 t.2.2 h
theorem Wg {o:Oper}{rest:List Oper}{v:Value}{d:Nat}(hr:Rd P w env n o v)(hd:Jg ops env n o=some d)(h:W P ops Q n rest ((d,v)::env) w):W P ops Q n (o::rest) env w:=by
  obtain⟨j,want,dj,b,c,e,f,i,k,l⟩:=Hg hd
  exact W.Dl hr c e f i k l h
theorem Ga {i:Nat}{o:Oper}{plan:List Nat}{v:Value}{d:Nat}(ho:opAt ops i 0 (slot · n)=some (o,d))(hr:Any P env n o v)(h:G P ops Q n plan ((d,v)::env) w):G P ops Q n (i::plan) env w:=have t:=Hl ho;have u:=Hf t.2.2;G.any t.1 t.2.1 hr u.1 u.2.1 u.2.2 h
theorem Gd {i:Nat}{o:Oper}{plan:List Nat}{v:Value}{d:Nat}(ho:opAt ops i 1 (slot · n)=some (o,d))(hr:Rd P w env n o v)(h:G P ops Q n plan ((d,v)::env) w):G P ops Q n (i::plan) env w:=have t:=Hl ho;have u:=Hf t.2.2;G.rd t.1 t.2.1 hr u.1 u.2.1 u.2.2 h
theorem oJ {i:Nat}{o:Oper}{plan:List Nat}{v:Value}{d:Nat}(ho:opAt ops i 0 (Jg ops env n)=some (o,d))(hr:Any P env n o v)(h:G P ops Q n plan ((d,v)::env) w):G P ops Q n (i::plan) env w:=by
  have t:=Hl ho
  obtain⟨j,want,dj,b,c,e,f,k,l,m⟩:=Hg t.2.2
  exact G.Na t.1 t.2.1 hr c e f k l m h
theorem uw {i:Nat}{o:Oper}{plan:List Nat}{v:Value}{d:Nat}(ho:opAt ops i 1 (Jg ops env n)=some (o,d))(hr:Rd P w env n o v)(h:G P ops Q n plan ((d,v)::env) w):G P ops Q n (i::plan) env w:=by
  have t:=Hl ho
  obtain⟨j,want,dj,b,c,e,f,k,l,m⟩:=Hg t.2.2
  exact G.Dl t.1 t.2.1 hr c e f k l m h
end
section
variable {α:Type}{f:α->List Value}{w w':World}{base e s c m:Nat}{A:Option Addr}{xs:List α}
theorem jO.cb {k:Nat}(h:jO w base e f s A m c xs)(hc:Ch w w' (some k))(hne:rowOf A c≠some k):jO w' base e f s A m c xs:=h.ch hc fun q hq=>by cases hq;exact hne
theorem jO.rn (h:jO w base e f s A m c xs){g:Nat}(hg:w.heap.size<=g):rowOf A c≠some g:=fun he=>by have:=(h.row he).2;omega
theorem jO.rl (h:jO w base e f s A m c xs){g:Nat}(hg:g<base):rowOf A c≠some g:=fun he=>by have:=(h.row he).1;omega
theorem Own.cb {ys:List Value}{k:Nat}(h:Own w base e s A m c ys)(hc:Ch w w' (some k))(hne:rowOf A c≠some k):Own w' base e s A m c ys:=h.ch hc fun q hq=>by cases hq;exact hne
theorem Own.rn {ys:List Value}(h:Own w base e s A m c ys){g:Nat}(hg:w.heap.size<=g):rowOf A c≠some g:=fun he=>by have:=(h.row he).2;omega
theorem Own.rl {ys:List Value}(h:Own w base e s A m c ys){g:Nat}(hg:g<base):rowOf A c≠some g:=fun he=>by have:=(h.row he).1;omega
end
end Go.Sx

namespace Go.Proofs.YtcaehidaejhdfaaGreat
open Go Go.Sx
def iv (x:Int):List Value:=[.int .i64 x]
theorem kr:oz iv 1:=⟨fun _=>rfl,fun x v hv=>by simp[iv]at hv;subst hv;rfl,by decide⟩
def pv (k:Nat):Value:= .int .u64 (k:Nat)
def uN (x:Nat):List Value:=[pv x]
theorem kU:oz uN 1:=⟨fun _=>rfl,fun x v hv=>by simp[uN]at hv;subst hv;rfl,by decide⟩
def kL (b:BitVec 8):List Value:=[lD b]
theorem kY:oz kL 1:=⟨fun _=>rfl,fun x v hv=>by simp[kL]at hv;subst hv;rfl,by decide⟩
theorem vU (l:List (BitVec 8)):(l.map kL).flatten=l.map lD:=by
  induction l with
  |nil=>rfl
  |cons a l ih=>simp[kL,ih]
theorem Cf {w:World}{base e:Nat}{A:Option Addr}{n c:Nat}{xs:List (BitVec 8)}(h:Sx.Own w base e 1 A n c (xs.map lD)):jO w base e kL 1 A n c xs:=⟨by have:=h.1;simpa using this,by rw[vU];exact h⟩
theorem tN {w:World}{A:Option Addr}{n:Nat}{xs:List (BitVec 8)}(h:Vec w kL 1 A n xs):Sb w A n xs:=by
  have:=h.2
  rw[vU]at this
  exact this
end Go.Proofs.YtcaehidaejhdfaaGreat

namespace Go.Sx
open Go Go.RowKit
section
variable {P:Program}{env:Env}{n:Nat}{d:Option Nat}{T:TypeId}{p:String}{af:Array Edge}{g:Option (Nat×Bool)}{w w':World}{K:Value->World->Prop}
theorem Ef.uh {t sz:TypeId}{x y:Operand}{gb o:Nat}{tb:TypeId}{cs:Array Value}{vs:Array Value}(cs2:List Value)(hs:Sz P t sz)(hsz:vs.size=sz)(hx:ev env x=some (.pointer (some ⟨gb,o,none⟩)))(hy:ev env y=some (.agg vs))(hB:jL w gb tb cs)(hl:o+vs.size<=cs.size)
    (hv:∀v∈vs.toList,v.oneCell'=true)(hc:cs.toList.take o++vs.toList++cs.toList.drop (o+vs.size)=cs2)(h:∀w',jL w' gb tb cs2.toArray->Ch w w' (some gb)->K undef w'):Ef P env n ⟨d,.store t x y,T,p,af,g⟩ w K:=
  .uU (w':=w.setRow gb cs2.toArray) (fun a ha=>by
    subst hsz
    have hst:=run_storeCells_at P gb o tb vs.toList 0 cs w hB (by simpa using hl) hv
    have e1:(cs.toList.take (o+0)++vs.toList++cs.toList.drop (o+0+vs.toList.length)).toArray=cs2.toArray:=by
      rw[Nat.add_zero,Array.length_toList,hc]
    rw[e1]at hst
    simp[execOp,ha.eval hx,ha.eval hy,Instr.storeAt,Instr.sureAddr,storeVar,hs.run,Value.cells,hst])
    (h _ (setRow_heap w gb cs cs2.toArray tb (0,0) hB) ⟨rfl,rfl,rfl,by simp,fun k _ hk=>setRow_other w gb k cs2.toArray (fun e=>hk (by simp[e]))⟩)
end
end Go.Sx

