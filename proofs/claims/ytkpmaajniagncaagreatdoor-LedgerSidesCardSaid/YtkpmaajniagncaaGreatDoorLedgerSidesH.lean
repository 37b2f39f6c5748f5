/- LedgerSides: for every input the law answers true and leaves its arguments as they were. -/
import Derived.Test.YtkpmaajniagncaaGreatDoorLedgerSidesG
import Derived.Laws.StructEq
set_option linter.unusedVariables false
set_option linter.unusedSimpArgs false
namespace Go.Sx
open Go Go.RowKit
section
variable {P:Program}{w:World}
def Apart (A:Option Addr)(c:Nat)(B:Option Addr)(d:Nat):Prop:=∀g,rowOf A c=some g->rowOf B d≠some g
variable {A B:Option Addr}{c d:Nat}
theorem Apart.symm (h:Apart A c B d):Apart B d A c:=fun g e f=>h g f e
theorem Apart.zero (A B:Option Addr)(d:Nat):Apart A 0 B d:=fun g h=>by rw[jI]at h;cases h
theorem Apart.step {A':Option Addr}{c':Nat}(h:Apart A c B d)(ht:At w A c A' c')(hb:∀g,rowOf B d=some g->g<w.heap.size):Apart A' c' B d:=fun g i e=>by
 rcases ht g i with f|f
 ·exact h g f e
 ·have:=hb g e;omega
theorem Apart.new {g:Nat}(hA:A=some ⟨g,0,none⟩)(hg:w.heap.size<=g)(hb:∀g,rowOf B d=some g->g<w.heap.size):Apart A c B d:=fun g' e f=>by
 subst hA
 have:=ru e
 have:=hb g' f
 omega
def BZ (xs ys:List Value):List (IntKind×Nat)->Bool
 |[]=>true
 |(_,o)::fs=>(match xs[o]?,ys[o]? with |some (.int _ a),some (.int _ b)=>decide (a=b)|_,_=>false)&&BZ xs ys fs
def G7 (P:Program)(xs ys:List Value):List Field->List (IntKind×Nat)->Prop
 |[],[]=>True
 |f::fs,(k,o)::ks=>f.name≠ "_" /\f.offset=o/\P.underlying f.type=some (.int k)/\(∃a b:Int,xs[o]? =some (.int k a)/\ys[o]? =some (.int k b))/\G7 P xs ys fs ks
 |_,_=>False
theorem Ca (d:Nat)(xs ys:List Value):∀(fs:List Field) (ks:List (IntKind×Nat)),G7 P xs ys fs ks->∀w:World,(Op.eqFields (d+1) xs.toArray ys.toArray fs).run P w= .ok (BZ xs ys ks) w
 |[],[],_,w=>by simp[Op.eqFields,BZ]
 |f::fs,(k,o)::ks,h,w=>by
  obtain⟨h1,h2,h3,⟨a,b,ha,hb⟩,h4⟩:=h
  have ih:=Ca d xs ys fs ks h4 w
  have c:=kR (P:=P) (e:=f.type) (xs:=xs.toArray) (o:=o) (v:= .int k a) ⟨_,h3,rfl⟩ (by simpa using ha) w
  have i:=kR (P:=P) (e:=f.type) (xs:=ys.toArray) (o:=o) (v:= .int k b) ⟨_,h3,rfl⟩ (by simpa using hb) w
  have j:=run_equalIn_int (P:=P) w d f.type k k a b h3
  simp only[Op.eqFields,BZ,ha,hb]
  rw[if_pos h1,h2]
  simp only[Sem.run_bind,c,i,j,Result.andThen_ok]
  by_cases hab:a=b
  ·subst hab;simp[ih]
  ·have:(a==b)=false:=by simpa using hab
   simp[this,hab]
 |[],_::_,h,_=>h.elim
 |_::_,[],h,_=>h.elim
theorem yU.ints {t:Nat}(xs ys:List Value)(ks:List (IntKind×Nat))(ht:P.underlying t=some (.struct (P.fieldsOf t)))(hp:P.stoodInHeld t=false)(hf:G7 P xs ys (P.fieldsOf t).toList ks):yU P (d+2) t (.agg xs.toArray) (.agg ys.toArray) (BZ xs ys ks):=fun w=>by
 rw[run_equalIn_struct w (d+1) t _ _ ht hp]
 exact Ca d xs ys _ ks hf w
end
section
variable {P:Program}{env:Env}{n:Nat}{d:Option Nat}{T:TypeId}{p:String}{af:Array Edge}{g:Option (Nat×Bool)}{w w':World}{K:Value->World->Prop}{α:Type}
structure kM (f:α->List Value)(s:Nat):Prop where
 len:∀x,(f x).length=s
 one:∀x,∀v∈f x,v.oneCell'=true
 pos:0<s
theorem jN (xs:List α)(z:α){k:Nat}(h:k<xs.length):xs[k]? =some (xs.getD k z):=by simp[h,List.getD]
variable {ys:List α}
theorem V7 {xs:List α}{z:α}(hl:xs.length=ys.length)(h:∀j,j<xs.length->xs.getD j z=ys.getD j z):xs=ys:=by
 apply List.ext_getElem hl
 intro i c d
 have:=h i c
 simpa[List.getD,c,d]using this
variable {f:α->List Value}{s:Nat}
theorem G8 (hf:kM f s)(xs:List α){j o:Nat}{x:α}{v:Value}(hx:xs[j]? =some x)(hv:(f x)[o]? =some v):(xs.map f).flatten[j*s+o]? =some v:=
 KY (xs.map f) (fun r hr=>by obtain⟨y,_,rfl⟩:=List.mem_map.1 hr;exact hf.len y) j (f x) (by simp[hx]) o v hv
theorem zO (hf:kM f s)(xs:List α):(xs.map f).flatten.length=xs.length*s:=by
 rw[EX (k:=s) _ (fun r hr=>by obtain⟨y,_,rfl⟩:=List.mem_map.1 hr;exact hf.len y),List.length_map]
theorem G9 (hf:kM f s)(xs:List α):∀v∈(xs.map f).flatten,v.oneCell'=true:=fun v hv=>by
 obtain⟨r,hr,hv⟩:=List.mem_flatten.1 hv
 obtain⟨y,_,rfl⟩:=List.mem_map.1 hr
 exact hf.one y v hv
def Vec (w:World)(f:α->List Value)(s:Nat)(A:Option Addr)(m:Nat)(xs:List α):Prop:=xs.length=m/\Sl w s A m (xs.map f).flatten
def iy (w:World)(base e:Nat)(f:α->List Value)(s:Nat)(A:Option Addr)(m c:Nat)(xs:List α):Prop:=xs.length=m/\Own w base e s A m c (xs.map f).flatten
variable {f:α->List Value}{s:Nat}{A:Option Addr}{m c:Nat}{xs:List α}{base e:Nat}
theorem Vec.le (h:Vec w f s A m xs)(hl:Le w w'):Vec w' f s A m xs:=⟨h.1,h.2.le hl⟩
theorem Vec.isSome (h:Vec w f s A m xs)(hf:kM f s)(hm:0<m):A.isSome=true:=h.2.isSome (j:=0) hm hf.pos
theorem Vec.nil (w:World)(f:α->List Value)(s:Nat)(A:Option Addr):Vec w f s A 0 []:=⟨rfl,Sl.nil _ _ _⟩
theorem Vec.rws (h:Vec w f s A m xs)(hf:kM f s):Vo w s A m (xs.map f):=⟨by simp[h.1],fun r hr=>by obtain⟨y,_,rfl⟩:=List.mem_map.1 hr;exact hf.len y,h.2⟩
theorem Vo.vec (h:Vo w s A m (xs.map f)):Vec w f s A m xs:=⟨by simpa using h.1,h.2.2⟩
variable {g1:α->Value}
theorem wQ:∀xs:List α,(xs.map fun x=>[g1 x]).flatten=xs.map g1
 |[]=>rfl
 |x::xs=>by simp[wQ xs]
theorem Vec.sl (h:Vec w (fun x=>[g1 x]) 1 A m xs):Sl w 1 A m (xs.map g1):=by rw[<-wQ];exact h.2
theorem Sl.vec (h:Sl w 1 A m (xs.map g1)):Vec w (fun x=>[g1 x]) 1 A m xs:=⟨by have:=h.1;simpa using this,by rw[wQ];exact h⟩
variable {m':Nat}
theorem Vec.cast (h:Vec w f s A m xs)(hm:m=m')(hx:xs=ys):Vec w f s A m' ys:=by subst hm hx;exact h
theorem iy.vec (h:iy w base e f s A m c xs):Vec w f s A m xs:=⟨h.1,h.2.sl⟩
theorem iy.le (h:iy w base e f s A m c xs)(hl:Le w w'):iy w' base e f s A m c xs:=⟨h.1,h.2.le hl⟩
theorem iy.ch {r:Option Nat}(h:iy w base e f s A m c xs)(hc:Ch w w' r)(hne:∀g,r=some g->rowOf A c≠some g):iy w' base e f s A m c xs:=⟨h.1,h.2.ch hc hne⟩
theorem iy.row (h:iy w base e f s A m c xs){g:Nat}(hg:rowOf A c=some g):base<=g/\g<w.heap.size:=h.2.row hg
theorem iy.cap (h:iy w base e f s A m c xs):m<=c/\c<=maxLen:=h.2.cap
theorem iy.mono {base':Nat}(h:iy w base e f s A m c xs)(hb:base'<=base):iy w base' e f s A m c xs:=⟨h.1,h.2.mono hb⟩
theorem iy.nil (w:World)(base e:Nat)(f:α->List Value)(s:Nat)(A:Option Addr):iy w base e f s A 0 0 []:=⟨rfl,Own.nil _ _ _ _ _⟩
theorem iy.cast (h:iy w base e f s A m c xs)(hm:m=m')(hx:xs=ys):iy w base e f s A m' c ys:=by subst hm hx;exact h
theorem iy.own (h:iy w base e (fun x=>[g1 x]) 1 A m c xs):Own w base e 1 A m c (xs.map g1):=by rw[<-wQ];exact h.2
theorem Own.j4 (h:Own w base e 1 A m c (xs.map g1)):iy w base e (fun x=>[g1 x]) 1 A m c xs:=⟨by have:=h.1;simpa using this,by rw[wQ];exact h⟩
variable {t j:Nat}{x:Operand}
theorem Rd.lX {a:α}(hu:ky P t s)(hx:ev env x=some (ptr A (j*s)))(hV:Vec w f s A m xs)(hf:kM f s)(hj:xs[j]? =some a):Rd P w env n ⟨d,.load t x,T,p,af,g⟩ (.agg (f a).toArray):=
 Rd.aeN hu hx (hV.rws hf) (by simp[hj]) hf.pos
variable {v:Value}
theorem Rd.o9 {a:α}(hu:mY P t)(hx:ev env x=some (ptr A (j*s)))(hV:Vec w f s A m xs)(hf:kM f s)(hj:xs[j]? =some a)(ho:(f a)[0]? =some v):Rd P w env n ⟨d,.load t x,T,p,af,g⟩ v:=
 Rd.j3 hu hx hV.2 (by have:=G8 hf xs hj ho;simpa using this)
variable {o k:Nat}
theorem Q9 {cs fx:List Value}(hc:(fx.drop o).take k=cs):∀i u,cs[i]? =some u->fx[o+i]? =some u:=fun i u hu=>by
 rw[<-hc,List.getElem?_take]at hu
 split at hu
 ·rwa [List.getElem?_drop]at hu
 ·cases hu
theorem Rd.aeX {a:α}(cs:List Value)(hu:ky P t k)(hk:cs.length=k)(hp:0<k)(hx:ev env x=some (ptr A (j*s+o)))(hV:Vec w f s A m xs)(hf:kM f s)(hj:xs[j]? =some a)(hc:((f a).drop o).take k=cs):
  Rd P w env n ⟨d,.load t x,T,p,af,g⟩ (.agg cs.toArray):=
 Rd.Pv cs (by rw[hk];exact hu) hx hV.2 (fun i u hi=>by rw[Nat.add_assoc];exact G8 hf xs hj (Q9 hc i u hi)) (by omega)
variable {gb:Nat}
theorem Rd.Ha {tb:TypeId}{cells:Array Value}(cs:List Value)(hu:ky P t k)(hk:cs.length=k)(hp:0<k)(hx:ev env x=some (.pointer (some ⟨gb,o,none⟩)))(hB:ik w gb tb cells)(hc:(cells.toList.drop o).take k=cs):
  Rd P w env n ⟨d,.load t x,T,p,af,g⟩ (.agg cs.toArray):=by
 have hS:=hB.sl (s:=1) (n:=cells.size) (by omega)
 refine Rd.Pv (A:=some ⟨gb,0,none⟩) (j:=o) cs (by rw[hk];exact hu) (by rw[hx];simp[ptr,add_lit]) hS (fun i u hi=>Q9 hc i u hi) (by omega)
variable {i:Nat}
theorem Any.Hd {off:Nat}(hf:F4 P t i off)(hA:A.isSome=true)(hx:ev env x=some (ptr A j)):Any P env n ⟨d,.fieldAddr t x i,T,p,af,g⟩ (ptr A (j+off)):=fun a ha w=>by
 obtain⟨fs,f,s,c,e,k,l,o⟩:=hf
 obtain⟨ad,rfl⟩:=Option.isSome_iff_exists.1 hA
 have m:¬s=0:=by omega
 simp[execOp,ha.eval hx,Instr.fieldAt,run_underlying c,e,Instr.sureAddr,fieldPlace,l.run,m,k,ptr,add_add]
theorem Any.V8 {off:Nat}(hf:F4 P t i off)(hx:ev env x=some (.pointer (some ⟨gb,o,none⟩))):Any P env n ⟨d,.fieldAddr t x i,T,p,af,g⟩ (.pointer (some ⟨gb,o+off,none⟩)):=Any.fieldAddr hf hx
theorem Vec.cut (h:Vec w f s A m xs)(cap l k:Nat)(hl:l<=k)(hm:k<=m)(hc:m<=cap)(hf:kM f s):Vec w f s (mZ A cap l s) (k-l) ((xs.drop l).take (k-l)):=by
 refine⟨by have:=h.1;simp;omega,?_⟩
 have c:=h.2.cut cap l k hl hm hc
 have e:(((xs.map f).flatten.drop (l*s)).take ((k-l)*s))=(((xs.drop l).take (k-l)).map f).flatten:=by
  have hd:∀(ys:List α) (q:Nat),(ys.map f).flatten.drop (q*s)=((ys.drop q).map f).flatten:=by
   intro ys
   induction ys with
   |nil=>intro q;simp
   |cons y ys ih=>
    intro q
    cases q with
    |zero=>simp
    |succ q=>
     rw[List.map_cons,List.flatten_cons,List.drop_succ_cons,Nat.succ_mul,Nat.add_comm,<-List.drop_drop,List.drop_left' (hf.len y),ih]
  have ht:∀(ys:List α) (q:Nat),(ys.map f).flatten.take (q*s)=((ys.take q).map f).flatten:=by
   intro ys
   induction ys with
   |nil=>intro q;simp
   |cons y ys ih=>
    intro q
    cases q with
    |zero=>simp
    |succ q=>
     rw[List.map_cons,List.flatten_cons,List.take_succ_cons,List.map_cons,List.flatten_cons,Nat.succ_mul,Nat.add_comm,List.take_add,List.take_left' (hf.len y),List.drop_left' (hf.len y),ih]
  rw[hd,ht]
 rw[e]at c
 exact c
theorem Vec.uP (h:Vec w f s A m xs)(cap l:Nat)(hl:l<=m)(hc:m<=cap)(hf:kM f s):Vec w f s (mZ A cap l s) (m-l) (xs.drop l):=by
 have:=h.cut cap l m hl (Nat.le_refl _) hc hf
 rwa [List.take_of_length_le (by have:=h.1;simp;omega)]at this
theorem Vec.Fy (h:Vec w f s A m xs)(k:Nat)(hk:k<=m)(hf:kM f s):Vec w f s A k (xs.take k):=by
 have:=h.cut m 0 k (Nat.zero_le _) hk (Nat.le_refl _) hf
 rwa [zN,Nat.sub_zero,List.drop_zero]at this
theorem ik.j4 {cs:Array Value}(h:ik w gb e cs)(hb:base<=gb)(hf:kM f s)(hc:cs.toList=(xs.map f).flatten)(hl:xs.length=m)(hm:m<=maxLen):iy w base e f s (some ⟨gb,0,none⟩) m m xs:=by
 refine⟨hl,?_⟩
 rw[<-hc]
 exact h.own hb (by rw[<-Array.length_toList,hc,zO hf,hl]) hm
variable {tx:Nat}{y:Operand}
theorem Ef.vJ {b:Nat}{z:Value}{e2:TypeId}{a:α}(ht:P.underlying t=some (.slice e))(hel:El P e s b z)(htx:P.underlying tx=some (.slice e2))(hf:kM f s)(hx:ev env x=some (.slice A m c))(hO:iy w base e f s A m c xs)
  (hy:ev env y=some (.slice (some ⟨gb,0,none⟩) 1 1))(hB:ik w gb e2 (f a).toArray)(hb:(m+1)*b<=140737488355328)(hl:m+1<=maxLen)(hbase:base<=w.heap.size)
  (h:∀A' c' w',iy w' base e f s A' (m+1) c' (xs++[a])->Ch w w' (rowOf A c)->At w A c A' c'->K (.slice A' (m+1) c') w'):
  Ef P env n ⟨d,.call ⟨.builtin .append,#[x,y],#[t,tx]⟩,T,p,af,g⟩ w K:=
 Ef.append ht hel hx hO.2 hy (hB.aeO htx (by simpa using hf.len a) hf.pos (by simpa using hf.one a)) hb hl hbase (fun A' c' w' i j k=>h A' c' w' ⟨by simp[hO.1],by simpa using i⟩ j k)
theorem Ef.adb {b:Nat}{z:Value}{e2:TypeId}{B:Option Addr}{c2:Nat}(ht:P.underlying t=some (.slice e))(hel:El P e s b z)(htx:P.underlying tx=some (.slice e2))(hf:kM f s)(hx:ev env x=some (.slice A m c))(hO:iy w base e f s A m c xs)
  (hy:ev env y=some (.slice B k c2))(hB:Vec w f s B k ys)(hb:(m+k)*b<=140737488355328)(hl:m+k<=maxLen)(hbase:base<=w.heap.size)
  (h:∀A' c' w',iy w' base e f s A' (m+k) c' (xs++ys)->Ch w w' (rowOf A c)->At w A c A' c'->K (.slice A' (m+k) c') w'):
  Ef P env n ⟨d,.call ⟨.builtin .append,#[x,y],#[t,tx]⟩,T,p,af,g⟩ w K:=
 Ef.append ht hel hx hO.2 hy (hB.2.src htx hf.pos c2 (G9 hf ys)) hb hl hbase (fun A' c' w' i j l=>h A' c' w' ⟨by simp[hO.1,hB.1],by simpa using i⟩ j l)
theorem Tu (z:α)(hf:kM f s)(cs:Array Value)(hz:cs.toList=f z):∀k:Nat,(madeCells cs (k*s)).toList=((List.replicate k z).map f).flatten:=by
 intro k
 have hlen:(madeCells cs (k*s)).toList.length=((List.replicate k z).map f).flatten.length:=by rw[zO hf,List.length_replicate];simp[madeCells]
 apply List.ext_getElem?
 intro i
 by_cases hi:i<k*s
 ·have hsz:cs.size=s:=by rw[<-Array.length_toList,hz,hf.len]
  have hm:i%s<s:=Nat.mod_lt _ hf.pos
  have hx:(List.replicate k z)[i/s]? =some z:=by
   have:i/s<k:=by rw[Nat.div_lt_iff_lt_mul hf.pos];exact hi
   simp[List.getElem?_replicate,this]
  have hv:(f z)[i%s]? =some ((f z)[i%s]'(by rw[hf.len];exact hm)):=List.getElem?_eq_getElem _
  have c:=G8 hf (List.replicate k z) hx hv
  rw[Nat.mul_comm,Nat.div_add_mod]at c
  rw[c]
  have d:cs.size≠0:=by have:=hf.pos;omega
  have:(madeCells cs (k*s)).toList[i]? =cs[i%cs.size]? :=by
   simp[madeCells,hi]
   rw[Array.getElem?_eq_getElem (by rw[hsz];exact hm)]
   simp[Array.getElem!_eq_getD,Array.getD_eq_getD_getElem?,Array.getElem?_eq_getElem (show i%cs.size<cs.size by rw[hsz];exact hm)]
  rw[this,hsz,<-Array.getElem?_toList,hz]
  exact hv
 ·rw[List.getElem?_eq_none (by simp[madeCells];omega),List.getElem?_eq_none (by rw[<-hlen];simp[madeCells];omega)]
theorem Ef.aeY {b:Nat}{zv:Value}{k k':IntKind}{i i':Int}(z:α)(m:Nat)(ht:P.underlying t=some (.slice e))(hel:El P e s b zv)(hf:kM f s)(hz:zv.cells.toList=f z)(hx:ev env x=some (.int k i))(hi:i=(m:Int))(hy:ev env y=some (.int k' i'))(hi':i'=(m:Int))
  (hb:m*b<=140737488355328)(hc:m<=maxLen)(h:∀gb w',w.heap.size<=gb->iy w' w.heap.size e f s (some ⟨gb,0,none⟩) m m (List.replicate m z)->Le w w'->K (.slice (some ⟨gb,0,none⟩) m m) w'):
  Ef P env n ⟨d,.makeSlice t x y,T,p,af,g⟩ w K:=
 Ef.makeSlice m m ht hel hx hi hy hi' (Nat.le_refl _) hb hc (fun gb w' c j l=>h gb w' c (j.j4 c hf (Tu z hf _ hz m) (by simp) hc) l)
theorem M4 (hf:kM f s):∀(xs:List α) (j o:Nat) (a b:α) (v:Value),xs[j]? =some a->o<s->f b=(f a).set o v->((xs.set j b).map f).flatten=(xs.map f).flatten.set (j*s+o) v
 |[],j,o,a,b,v,h,_,_=>by simp at h
 |x::xs,0,o,a,b,v,h,ho,hb=>by
  simp at h
  subst h
  simp only[List.set_cons_zero,List.map_cons,List.flatten_cons,Nat.zero_mul,Nat.zero_add]
  rw[List.set_append_left _ _ (by rw[hf.len];exact ho),hb]
 |x::xs,j+1,o,a,b,v,h,ho,hb=>by
  simp only[List.set_cons_succ,List.map_cons,List.flatten_cons]
  rw[M4 hf xs j o a b v (by simpa using h) ho hb,List.set_append_right _ _ (by rw[hf.len,Nat.succ_mul];omega),hf.len]
  congr 2
  rw[Nat.succ_mul];omega
theorem Own.ahh {ys:List Value}(h:Own w base e s (some ⟨gb,0,none⟩) k c ys)(hk:0<k)(j:Nat)(hj:j<k*s)(u:Value):Own (w.setCell ⟨gb,j,none⟩ u) base e s (some ⟨gb,0,none⟩) k c (ys.set j u):=by
 rcases h.2 with⟨rfl,_⟩|⟨g',cur,hv,hb,hg,hnc,hcm,hcs,htake⟩
 ·omega
 ·injection hv with hA
  injection hA with hA
  subst hA
  refine⟨by simpa using h.1,.inr ⟨gb,cur.setIfInBounds j u,rfl,hb,heap_setCell_same w gb j cur e u hg,hnc,hcm,by simpa using hcs,?_⟩⟩
  rw[Array.toList_setIfInBounds,List.take_set,htake]
theorem Ef.Tv {q:Nat}{a:α}(b:α)(hs:Sz P t 1)(hx:ev env x=some (ptr A q))(hq:q=j*s+o)(hy:ev env y=some v)(hO:iy w base e f s A m c xs)(hf:kM f s)(hj:xs[j]? =some a)(ho:o<s)(hb:f b=(f a).set o v)(hv:v.oneCell'=true)
  (h:∀w',iy w' base e f s A m c (xs.set j b)->Ch w w' (rowOf A c)->K undef w'):Ef P env n ⟨d,.store t x y,T,p,af,g⟩ w K:=by
 subst hq
 have hjl:j<m:=by rw[<-hO.1];exact(List.getElem?_eq_some_iff.1 hj).1
 obtain⟨gb,rfl,hbg,hlt,hrow⟩:=hO.2.lit (by omega)
 obtain⟨cur,hB,hcs,_⟩:=hO.2.block (by omega)
 have hcap:=hO.2.cap
 have hjs:j*s+o<m*s:=by
  have:(j+1)*s<=m*s:=Nat.mul_le_mul_right _ hjl
  rw[Nat.succ_mul]at this
  omega
 have hin:j*s+o<cur.size:=by rw[hcs];exact Nat.lt_of_lt_of_le hjs (Nat.mul_le_mul_right _ hcap.1)
 have hr:=vX (P:=P) hs hB (j:=j*s+o) hin hv
 refine .rR (w':=w.setCell ⟨gb,j*s+o,none⟩ v) (fun a' ha=>by simp[execOp,ha.eval hx,ha.eval hy,ptr,add_lit,Instr.storeAt,Instr.sureAddr,hr]) (h _ ⟨by simp[hO.1],?_⟩ (by rw[hrow];exact Ch.setCell w gb (j*s+o) v))
 rw[M4 hf xs j o a b v hj ho hb]
 exact hO.2.ahh (by omega) _ hjs v
theorem M5 (hf:kM f s):∀(xs:List α) (j:Nat) (b:α),j<xs.length->((xs.set j b).map f).flatten=(xs.map f).flatten.take (j*s)++f b++(xs.map f).flatten.drop (j*s+(f b).length)
 |[],j,b,h=>by simp at h
 |x::xs,0,b,h=>by
  simp only[List.set_cons_zero,List.map_cons,List.flatten_cons,Nat.zero_mul,Nat.zero_add,List.take_zero,List.nil_append]
  rw[List.drop_left' (by rw[hf.len,hf.len])]
 |x::xs,j+1,b,h=>by
  simp only[List.set_cons_succ,List.map_cons,List.flatten_cons]
  rw[M5 hf xs j b (by simpa using h),Nat.succ_mul,Nat.add_comm (j*s) s,List.take_add,List.take_left' (hf.len x),List.drop_left' (hf.len x),Nat.add_assoc,<-List.drop_drop (l:=f x++_),List.drop_left' (hf.len x)]
  simp
theorem Ef.aeZ {q:Nat}(b:α)(hs:Sz P t s)(hx:ev env x=some (ptr A q))(hq:q=j*s)(hy:ev env y=some (.agg (f b).toArray))(hO:iy w base e f s A m c xs)(hf:kM f s)(hj:j<m)
  (h:∀w',iy w' base e f s A m c (xs.set j b)->Ch w w' (rowOf A c)->K undef w'):Ef P env n ⟨d,.store t x y,T,p,af,g⟩ w K:=by
 subst hq
 obtain⟨gb,rfl,hbg,hlt,hrow⟩:=hO.2.lit (by omega)
 obtain⟨cur,hB,hcs,htake⟩:=hO.2.block (by omega)
 have hcap:=hO.2.cap
 have hlb:(f b).length=s:=hf.len b
 have hjs:j*s+s<=m*s:=by rw[<-Nat.succ_mul];exact Nat.mul_le_mul_right _ hj
 have hms:m*s<=cur.size:=by rw[hcs];exact Nat.mul_le_mul_right _ hcap.1
 have hst:=run_storeCells_at P gb (j*s) e (f b) 0 cur w hB (by simp;omega) (hf.one b)
 simp only[Nat.add_zero]at hst
 refine .rR (w':=w.setRow gb (cur.toList.take (j*s)++f b++cur.toList.drop (j*s+(f b).length)).toArray) (fun a' ha=>by
  simp[execOp,ha.eval hx,ha.eval hy,ptr,add_lit,Instr.storeAt,Instr.sureAddr,storeVar,hs.run,Value.cells,hlb]
  simp only[hlb]at hst
  simp[hst]) (h _ ⟨by simp[hO.1],?_⟩ (by rw[hrow];exact⟨rfl,rfl,rfl,by simp,fun k _ hk=>setRow_other w gb k _ (fun e=>hk (by simp[e]))⟩))
 refine⟨by rw[zO hf];simp[hO.1],.inr ⟨gb,_,rfl,hbg,setRow_heap w gb cur _ e (0,0) hB,hcap.1,hcap.2,?_,?_⟩⟩
 ·simp;omega
 ·rw[M5 hf xs j b (by rw[hO.1];exact hj),<-htake]
  simp only[List.take_take,Nat.min_eq_left (show j*s<=m*s by omega)]
  rw[List.take_append,List.length_append,List.length_take,Array.length_toList,Nat.min_eq_left (by omega),hlb,List.take_of_length_le (by simp;omega),List.drop_take]
def puts (pl:List (Nat×Nat)):List Value->List (Nat×Value)->Option (List Value)
 |zs,[]=>some zs
 |zs,(i,v)::rest=>match pl[i]? with
  |none=>none
  |some (off,size)=>match Nat.beq v.cells.toList.length size&&Nat.ble (off+size) zs.length with
   |true=>puts pl (zs.take off++v.cells.toList++zs.drop (off+size)) rest
   |false=>none
theorem JG (pl:List (Nat×Nat)):∀(vs:List (Nat×Value)) (zs cs:List Value),puts pl zs vs=some cs->Instr.fill (pl.toArray[·]?) zs.toArray vs=some cs.toArray
 |[],zs,cs,h=>by simp[puts]at h;subst h;rfl
 |(i,v)::rest,zs,cs,h=>by
  rw[puts]at h
  split at h
  ·cases h
  ·rename_i off size hpl
   split at h
   ·rename_i hb
    rw[Bool.and_eq_true]at hb
    have h1:v.cells.toList.length=size:=Nat.eq_of_beq_eq_true hb.1
    have d:off+size<=zs.length:=Nat.le_of_ble_eq_true hb.2
    have ih:=JG pl rest _ cs h
    have hs:v.cells.size=size:=by simpa using h1
    rw[Instr.fill]
    have hpl':pl.toArray[i]? =some (off,size):=by simpa using hpl
    simp only[hpl']
    rw[if_neg (by simp[hs];omega)]
    have hf:=yS v.cells.toList 0 off (zs.take off) (zs.drop off) (by simp;omega) (by simp;omega)
    rw[List.take_append_drop]at hf
    have hf':Array.foldl (fun cs x=>match x with |(c,j)=>cs.setIfInBounds (off+j) c) zs.toArray v.cells.zipIdx=(zs.take off++v.cells.toList++(zs.drop off).drop v.cells.toList.length).toArray:=by
     rw[<-hf,<-Array.foldl_toList];simp
    rw[hf',List.drop_drop,h1]
    exact ih
   ·cases h
theorem Any.iF {z:Value}{pl:List (Nat×Nat)}{parts:Array (Nat×Operand)}{vs:List (Nat×Value)}(cs:List Value)(hu:Bf P t pl)(hz:Zr P t z)(hp:VW env parts.toList=some vs)(hf:puts pl z.cells.toList vs=some cs):Any P env n ⟨d,.build t parts,T,p,af,g⟩ (.agg cs.toArray):=
 Any.ac8 hu hz hp (by have:=JG pl vs _ cs hf;simpa using this)
theorem Any.ahi {t ty:TypeId}{i j:Int}(a b c:Nat)(hx:ev env x=some (J i))(hi:i=(a:Int))(hy:ev env y=some (J j))(hj:j=(b:Int))(ha:a<9223372036854775808)(hb:b<9223372036854775808)(h:a&&&b=c):
  Any P env n ⟨d,.binOp .and t x y ty,T,p,af,g⟩ (J (c:Int)):= .int hx hy fun w=>by
 subst hi hj h
 have hle:a&&&b<=a:=Nat.and_le_left
 have h:IntKind.i64.wrap ((BitVec.ofInt 64 (a:Int)&&&BitVec.ofInt 64 (b:Int)).toNat:Int)=((a&&&b:Nat):Int):=by
  rw[BitVec.toNat_and,ou a (by omega),ou b (by omega)];exact IntWalk.i64_in _ (by omega)
 simp only[binOp,Op.intBits,IntKind.bits,ne_eq,not_true_eq_false,if_false]
 exact congrArg (fun i=>Result.ok (Value.int .i64 i) w) h
def He (P:Program)(d:Nat)(xs ys:Array Value):List Field->List (Nat×Value×Value×Bool)->Prop
 |[],[]=>True
 |f::fs,(o,u,v,b)::ks=>f.name≠ "_" /\f.offset=o/\(∀w:World,(part f.type xs o).run P w= .ok u w)/\(∀w:World,(part f.type ys o).run P w= .ok v w)/\yU P d f.type u v b/\He P d xs ys fs ks
 |_,_=>False
theorem AX (d:Nat)(xs ys:Array Value):∀(fs:List Field) (ks:List (Nat×Value×Value×Bool)),He P d xs ys fs ks->∀w:World,(Op.eqFields d xs ys fs).run P w= .ok (ks.all fun k=>k.2.2.2) w
 |[],[],_,w=>by simp[Op.eqFields]
 |f::fs,(o,u,v,b)::ks,h,w=>by
  obtain⟨h1,h2,h3,h4,h5,h6⟩:=h
  have ih:=AX d xs ys fs ks h6 w
  simp only[Op.eqFields]
  rw[if_pos h1,h2]
  simp only[Sem.run_bind,h3,h4,Result.andThen_ok,h5 w]
  cases b<;>simp[ih]
 |[],_::_,h,_=>h.elim
 |_::_,[],h,_=>h.elim
theorem yU.struct {d:Nat}(xs ys:Array Value)(ks:List (Nat×Value×Value×Bool))(ht:P.underlying t=some (.struct (P.fieldsOf t)))(hp:P.stoodInHeld t=false)(hf:He P d xs ys (P.fieldsOf t).toList ks):yU P (d+1) t (.agg xs) (.agg ys) (ks.all fun k=>k.2.2.2):=fun w=>by
 rw[run_equalIn_struct w d t _ _ ht hp]
 exact AX d xs ys _ ks hf w
theorem Dz {xs:Array Value}(cs:List Value)(he:ky P e s)(hl:cs.length=s)(hv:(xs.toList.drop o).take s=cs)(w:World):(part e xs o).run P w= .ok (.agg cs.toArray) w:=by
 have hag:=he.run w
 obtain⟨dd,d,f,c⟩:=he
 have hx:xs.extract o (o+s)=cs.toArray:=by
  apply Array.ext'
  rw[Array.toList_extract,List.extract_eq_drop_take']
  simp
  rw[<-hv]
  simp[List.drop_take]
 have hsz:o+s<=xs.size\/s=0:=by
  have:=congrArg List.length hv
  rw[hl,List.length_take,List.length_drop,Array.length_toList]at this
  omega
 simp[part,hag,c.run,hx]
variable {T0:TypeId}
theorem Rd.min2 {t:TypeId}{a b:Int}(hx:ev env x=some (J a))(hy:ev env y=some (J b)):Rd P w env n ⟨d,.call ⟨.builtin .min,#[x,y],#[t,T0]⟩,T,p,af,g⟩ (J (min a b)):=fun ac ha w' _=>by
 simp[execOp,resolve,invoke,builtin,Builtin.min_,Builtin.min2,ha.eval hx,ha.eval hy]
 split<;>omega
theorem Rd.max2 {t:TypeId}{a b:Int}(hx:ev env x=some (J a))(hy:ev env y=some (J b)):Rd P w env n ⟨d,.call ⟨.builtin .max,#[x,y],#[t,T0]⟩,T,p,af,g⟩ (J (max a b)):=fun ac ha w' _=>by
 simp[execOp,resolve,invoke,builtin,Builtin.max_,Builtin.max2,ha.eval hx,ha.eval hy]
 split<;>omega
def yn (P:Program)(w:World)(env:Env):ResultVar->Value->Prop
 | .tmp t,v=>look env t=some v
 | .cell t ty,v=>∃ad,look env t=some (.pointer (some ad))/\(loadVar ty ad).run P w= .ok v w
theorem lV {ty sz:Nat}{tb:TypeId}{cs:Array Value}(hv:look env t=some (.pointer (some ⟨gb,0,none⟩)))(hB:ik w gb tb cs)(hu:ky P ty sz)(hs:cs.size=sz):yn P w env (.cell t ty) (.agg cs):=by
 subst hs
 obtain⟨dd,c,e,d⟩:=hu
 exact⟨_,hv,run_loadVar_row (P:=P) w gb tb ty cs (0,0) dd hB c (by cases dd<;>simp_all) d⟩
def K5 (tmps:Array Value):ResultVar->Sem Value
 | .tmp t=>pure (tmps.getD t undef)
 | .cell a t=>do loadVar t (<-asAddr (tmps.getD a undef))
theorem yn.run {r:ResultVar}{a:Act}(h:yn P w env r v)(ha:sM a n env):(K5 a.tmps r).run P w= .ok v w:=by
 cases r with
 |tmp t=>simp[K5,ha.2.2 t v h]
 |cell t ty=>obtain⟨ad,c,d⟩:=h;simp[K5,ha.2.2 t _ c,asAddr,d]
theorem yX (fn:Func)(tmps:Array Value):results fn tmps=(do let vs <-fn.results.mapM (K5 tmps);pure (if h:vs.size=1 then vs[0]else .tuple vs)):=by
 unfold results
 congr 1
variable {fn:Func}{R:Ending->World->Prop}{r1:ResultVar}{v1:Value}
theorem E.iC (hr:fn.results=#[r1])(h1:yn P w env r1 v1)(h:R (.returned v1) w):E (bodyPost P fn R) n .ret env w:=fun a ha=>
 bodyPost_ret (v:=v1) (by rw[yX,hr];simp[h1.run ha]) ha.1 h
variable {r2:ResultVar}{v2:Value}
theorem E.lD (hr:fn.results=#[r1,r2])(h1:yn P w env r1 v1)(h2:yn P w env r2 v2)(h:R (.returned (.tuple #[v1,v2])) w):E (bodyPost P fn R) n .ret env w:=fun a ha=>
 bodyPost_ret (v:= .tuple #[v1,v2]) (by rw[yX,hr];simp[h1.run ha,h2.run ha]) ha.1 h
theorem E.V9 {r3:ResultVar}{v3:Value}(hr:fn.results=#[r1,r2,r3])(h1:yn P w env r1 v1)(h2:yn P w env r2 v2)(h3:yn P w env r3 v3)(h:R (.returned (.tuple #[v1,v2,v3])) w):E (bodyPost P fn R) n .ret env w:=fun a ha=>
 bodyPost_ret (v:= .tuple #[v1,v2,v3]) (by rw[yX,hr];simp[h1.run ha,h2.run ha,h3.run ha]) ha.1 h
variable {Q:Exit->Act->World->Prop}{cnd:Operand}
theorem WC.ae0 {x y:Code}{b:Bool}(hc:ev env cnd=some (.bool b))(hb:b=true)(ht:WC P Q n x env w):WC P Q n (.cond cnd x y) env w:= .ab2 (by rw[hc,hb]) ht
theorem WC.ae1 {x y:Code}{b:Bool}(hc:ev env cnd=some (.bool b))(hb:b=false)(hf:WC P Q n y env w):WC P Q n (.cond cnd x y) env w:= .ab3 (by rw[hc,hb]) hf
variable {f1:α->Value}
theorem ade {tb:TypeId}{l:List α}{a:α}(h:ik w gb tb ((l.map f1).toArray.setIfInBounds j (f1 a))):ik w gb tb ((l.set j a).map f1).toArray:=h.cast (by simp[List.map_set])
theorem ahj (l:List α)(z:α){k:Nat}(h:k<l.length):(l.map f1).toArray[k]? =some (f1 (l.getD k z)):=by simp[h,List.getD]
end
def gets (e:Env):Env->List (Option Value)
 |[]=>[]
 |p::r=>look e p.1::gets e r
def vals:Env->List (Option Value)
 |[]=>[]
 |p::r=>some p.2::vals r
theorem Sub.of {e' e:Env}(h:gets e e'=vals e'):Sub e' e:=by
 induction e' with
 |nil=>exact .nil _
 |cons p r ih=>
  injection h with h1 h2
  exact .cons h1 (ih h2)
def slot (o:Oper)(n:Nat):Option Nat:=match o.guard with
 |none=>match o.dst with
  |some d=>bif Nat.blt d n then some d else none
  |none=>none
 |some _=>none
variable {o:Oper}{n d:Nat}
theorem yY (h:slot o n=some d):o.guard=none/\o.dst=some d/\Nat.blt d n=true:=by
 unfold slot at h
 split at h
 ·split at h
  ·rename_i e1 _ d' e2
   cases hb:Nat.blt d' n
   ·rw[hb]at h;cases h
   ·rw[hb]at h;cases h;exact⟨e1,e2,hb⟩
  ·cases h
 ·cases h
def JH (ops:Array Oper)(env:Env)(n:Nat)(o:Oper):Option Nat:=match o.guard with
 |none=>none
 |some p=>match(ops[p.1]?).bind (·.dst)with
  |none=>none
  |some dj=>match look env dj with
   |some (.bool b)=>bif b==p.2 then(match o.dst with
    |some d=>bif Nat.blt d n then some d else none
    |none=>none)else none
   |_=>none
variable {ops:Array Oper}
theorem xM {env:Env}(h:JH ops env n o=some d):∃j want dj b,o.guard=some (j,want)/\(ops[j]?).bind (·.dst)=some dj/\look env dj=some (.bool b)/\b=want/\o.dst=some d/\Nat.blt d n=true:=by
 unfold JH at h
 split at h
 ·cases h
 ·rename_i p e1
  split at h
  ·cases h
  ·rename_i dj e2
   split at h
   ·rename_i b e3
    cases hb:b==p.2
    ·rw[hb]at h;cases h
    ·rw[hb]at h
     simp only[cond_true]at h
     split at h
     ·rename_i d' e4
      cases hd:Nat.blt d' n
      ·rw[hd]at h;cases h
      ·rw[hd]at h;cases h;exact⟨p.1,p.2,dj,b,e1,e2,e3,eq_of_beq hb,e4,hd⟩
     ·cases h
   ·cases h
def opAt (ops:Array Oper)(i k:Nat)(f:Oper->Option Nat):Option (Oper×Nat):=match ops[i]? with
 |some o=>bif Nat.beq (kd o.op) k then(match f o with
  |some d=>some (o,d)
  |none=>none)else none
 |none=>none
theorem K6 {i k:Nat}{f:Oper->Option Nat}(h:opAt ops i k f=some (o,d)):ops[i]? =some o/\kd o.op=k/\f o=some d:=by
 unfold opAt at h
 split at h
 ·rename_i o' e1
  cases hb:Nat.beq (kd o'.op) k
  ·rw[hb]at h;cases h
  ·rw[hb]at h
   simp only[cond_true]at h
   split at h
   ·rename_i d' e2
    cases h
    exact⟨e1,Nat.eq_of_beq_eq_true hb,e2⟩
   ·cases h
 ·cases h
section
variable {P:Program}{ops:Array Oper}{Q:Exit->Act->World->Prop}{n:Nat}{env:Env}{w:World}
theorem Wn (k:Nat){rest l:List Oper}{env e:Env}(h:Z7 ops n k rest env=some (l,e))(hw:W P ops Q n l e w):W P ops Q n rest env w:=W.run k h hw
theorem Gn (k:Nat){plan l:List Nat}{env e:Env}(h:Z8 ops n k plan env=some (l,e))(hw:G P ops Q n l e w):G P ops Q n plan env w:=G.run k h hw
variable {y:Code}
theorem Sr {id:Nat}{l:List Oper}(h:W P l.toArray (Exit.then (y.wp P Q) Q) n l env w):WC P Q n (.seq (.region id l.toArray false) y) env w:=WC.sr h
variable {Q':Exit->Act->World->Prop}
theorem Nx (h:WC P Q n y env w):W P ops (Exit.then (y.wp P Q) Q') n [] env w:=W.nx h
theorem Sn (h:WC P Q n y env w):WC P (Exit.then (y.wp P Q) Q') n .skip env w:=WC.sn h
variable {pp:String}{af:Array Edge}
theorem Dt {rest:List Oper}{x:Operand}{T:TypeId}{p:Prop}[Decidable p](hp:p)(hx:ev env x=some (.bool (decide p)))(hn:Nat.blt d n=true)(h:W P ops Q n rest ((d,.bool true)::env) w):W P ops Q n (⟨some d,.move x,T,pp,af,none⟩::rest) env w:=W.dt hp hx hn h
theorem Df {rest:List Oper}{x:Operand}{T:TypeId}{p:Prop}[Decidable p](hp:¬p)(hx:ev env x=some (.bool (decide p)))(hn:Nat.blt d n=true)(h:W P ops Q n rest ((d,.bool false)::env) w):W P ops Q n (⟨some d,.move x,T,pp,af,none⟩::rest) env w:=W.df hp hx hn h
variable {x:Code}
theorem Sq (h:WC P (Exit.then (y.wp P Q) Q) n x env w):WC P Q n (.seq x y) env w:=WC.seq h
theorem Rt (h:E Q n .ret env w):WC P Q n .ret env w:=WC.ret h
variable {cnd:Operand}
theorem Cy {b:Bool}(hc:ev env cnd=some (.bool b))(hb:b=true)(ht:WC P Q n x env w):WC P Q n (.cond cnd x y) env w:=WC.ae0 hc hb ht
theorem Cn {b:Bool}(hc:ev env cnd=some (.bool b))(hb:b=false)(hf:WC P Q n y env w):WC P Q n (.cond cnd x y) env w:=WC.ae1 hc hb hf
variable {v:Value}
theorem Wa {rest:List Oper}(hr:Any P env n o v)(hd:slot o n=some d)(h:W P ops Q n rest ((d,v)::env) w):W P ops Q n (o::rest) env w:=have t:=yY hd;W.any hr t.1 t.2.1 t.2.2 h
theorem Wr {rest:List Oper}(hr:Rd P w env n o v)(hd:slot o n=some d)(h:W P ops Q n rest ((d,v)::env) w):W P ops Q n (o::rest) env w:=have t:=yY hd;W.rd hr t.1 t.2.1 t.2.2 h
theorem Wg {rest:List Oper}(hr:Rd P w env n o v)(hd:JH ops env n o=some d)(h:W P ops Q n rest ((d,v)::env) w):W P ops Q n (o::rest) env w:=by
 obtain⟨j,want,dj,b,c,e,f,i,k,l⟩:=xM hd
 exact W.Fx hr c e f i k l h
variable {i:Nat}{plan:List Nat}
theorem Ga (ho:opAt ops i 0 (slot · n)=some (o,d))(hr:Any P env n o v)(h:G P ops Q n plan ((d,v)::env) w):G P ops Q n (i::plan) env w:=have t:=K6 ho;have u:=yY t.2.2;G.any t.1 t.2.1 hr u.1 u.2.1 u.2.2 h
theorem Gd (ho:opAt ops i 1 (slot · n)=some (o,d))(hr:Rd P w env n o v)(h:G P ops Q n plan ((d,v)::env) w):G P ops Q n (i::plan) env w:=have t:=K6 ho;have u:=yY t.2.2;G.rd t.1 t.2.1 hr u.1 u.2.1 u.2.2 h
theorem F7 (ho:opAt ops i 0 (JH ops env n)=some (o,d))(hr:Any P env n o v)(h:G P ops Q n plan ((d,v)::env) w):G P ops Q n (i::plan) env w:=by
 have t:=K6 ho
 obtain⟨j,want,dj,b,c,e,f,k,l,m⟩:=xM t.2.2
 exact G.VQ t.1 t.2.1 hr c e f k l m h
theorem Gdg (ho:opAt ops i 1 (JH ops env n)=some (o,d))(hr:Rd P w env n o v)(h:G P ops Q n plan ((d,v)::env) w):G P ops Q n (i::plan) env w:=by
 have t:=K6 ho
 obtain⟨j,want,dj,b,c,e,f,k,l,m⟩:=xM t.2.2
 exact G.Fx t.1 t.2.1 hr c e f k l m h
end
section
variable {α:Type}{f:α->List Value}{w w':World}{base e s c m:Nat}{A:Option Addr}{xs:List α}{k:Nat}
theorem iy.cb (h:iy w base e f s A m c xs)(hc:Ch w w' (some k))(hne:rowOf A c≠some k):iy w' base e f s A m c xs:=h.ch hc fun q hq=>by cases hq;exact hne
theorem iy.rn (h:iy w base e f s A m c xs){g:Nat}(hg:w.heap.size<=g):rowOf A c≠some g:=fun he=>by have:=(h.row he).2;omega
theorem iy.rl (h:iy w base e f s A m c xs){g:Nat}(hg:g<base):rowOf A c≠some g:=fun he=>by have:=(h.row he).1;omega
variable {ys:List Value}
theorem Own.cb (h:Own w base e s A m c ys)(hc:Ch w w' (some k))(hne:rowOf A c≠some k):Own w' base e s A m c ys:=h.ch hc fun q hq=>by cases hq;exact hne
theorem Own.rn (h:Own w base e s A m c ys){g:Nat}(hg:w.heap.size<=g):rowOf A c≠some g:=fun he=>by have:=(h.row he).2;omega
theorem Own.rl (h:Own w base e s A m c ys){g:Nat}(hg:g<base):rowOf A c≠some g:=fun he=>by have:=(h.row he).1;omega
end
end Go.Sx
namespace Go.Proofs.YtkpmaajniagncaaGreatDoor
open Go Go.Sx
def iv (x:Int):List Value:=[J x]
theorem iQ:kM iv 1:=⟨fun _=>rfl,fun x v hv=>by simp[iv]at hv;subst hv;rfl,by decide⟩
def pv (k:Nat):Value:= .int .u64 (k:Nat)
def su (x:Nat):List Value:=[pv x]
theorem iT:kM su 1:=⟨fun _=>rfl,fun x v hv=>by simp[su]at hv;subst hv;rfl,by decide⟩
def jv (b:BitVec 8):List Value:=[jf b]
theorem kE:kM jv 1:=⟨fun _=>rfl,fun x v hv=>by simp[jv]at hv;subst hv;rfl,by decide⟩
theorem wR (l:List (BitVec 8)):(l.map jv).flatten=l.map jf:=by
 induction l with
 |nil=>rfl
 |cons a l ih=>simp[jv,ih]
variable {w:World}{A:Option Addr}{n:Nat}{xs:List (BitVec 8)}
theorem DC {base e:Nat}{c:Nat}(h:Sx.Own w base e 1 A n c (xs.map jf)):iy w base e jv 1 A n c xs:=⟨by have:=h.1;simpa using this,by rw[wR];exact h⟩
theorem tC (h:Vec w jv 1 A n xs):Sb w A n xs:=by
 have:=h.2
 rw[wR]at this
 exact this
end Go.Proofs.YtkpmaajniagncaaGreatDoor
namespace Go.Sx
open Go
set_option linter.unusedSectionVars false
inductive Ty where
 |na|sl (e s:Nat)|ar (l e s z:Nat)|st (os:List Nat) (z:Nat)
def Bh:List (Nat×Ty)->Nat->Option Ty
 |[],_=>none
 |p::r,t=>bif Nat.beq t p.1 then some p.2 else Bh r t
def Wd:List Nat->Nat->Bool
 |[],_=>false
 |p::r,t=>bif Nat.beq t p then true else Wd r t
def JI (P:Program)(e s:Nat):Bool:=match P.info? e with
 |some i=>Nat.beq i.size s
 |none=>false
def M6 (P:Program):List Nat->List Field->Bool
 |[],[]=>true
 |o::os,f::fs=>Nat.beq f.offset o&&(match P.info? f.type with
  |some i=>Nat.blt 0 i.size
  |none=>false)&&M6 P os fs
 |_,_=>false
def Hf (P:Program)(t:Nat):Ty->Bool
 | .na=>match P.underlying t with
  |some (.struct _)=>false
  |some (.array _ _)=>false
  |some _=>true
  |none=>false
 | .sl e s=>match P.underlying t with
  |some (.slice e')=>Nat.beq e' e&&JI P e s
  |_=>false
 | .ar l e s z=>match P.underlying t with
  |some (.array l' e')=>Nat.beq l' l&&Nat.beq e' e&&JI P e s&&JI P t z
  |_=>false
 | .st os z=>match P.underlying t with
  |some (.struct fs)=>M6 P os fs.toList&&JI P t z
  |_=>false
def We (P:Program)(f:Nat):Bool:=match P.funcs[f]? with
 |some fn=> !fn.body.isNone&& !(fn.name== "runtime.NumGoroutine")
 |none=>false
structure TbS (P:Program) where
 T:List (Nat×Ty)
 G:List Nat
 ok:(T.all fun p=>Hf P p.1 p.2)=true
 go:(G.all (We P))=true
abbrev Tb.T (P:Program)[b:Inhabited (TbS P)]:List (Nat×Ty):=b.default.T
abbrev Tb.G (P:Program)[b:Inhabited (TbS P)]:List Nat:=b.default.G
variable {P:Program}
theorem Tb.ok [b:Inhabited (TbS P)]:((Tb.T P).all fun p=>Hf P p.1 p.2)=true:=b.default.ok
theorem Tb.go [b:Inhabited (TbS P)]:((Tb.G P).all (We P))=true:=b.default.go
theorem F8 {e s:Nat}(h:JI P e s=true):Sz P e s:=by
 unfold JI at h
 split at h
 ·rename_i i hi;unfold Sz;rw[hi];exact congrArg some (Nat.eq_of_beq_eq_true h)
 ·cases h
variable {t:Nat}
theorem adf {T:List (Nat×Ty)}{y:Ty}(h:Bh T t=some y):(t,y)∈T:=by
 induction T with
 |nil=>cases h
 |cons p r ih=>
  unfold Bh at h
  cases hb:Nat.beq t p.1
  ·rw[hb]at h;exact List.mem_cons_of_mem _ (ih h)
  ·rw[hb]at h
   have e:p.2=y:=Option.some.inj h
   rw[<-e,Nat.eq_of_beq_eq_true hb];exact List.mem_cons_self ..
theorem adg {G:List Nat}(h:Wd G t=true):t∈G:=by
 induction G with
 |nil=>cases h
 |cons p r ih=>
  unfold Wd at h
  cases hb:Nat.beq t p
  ·rw[hb]at h;exact List.mem_cons_of_mem _ (ih h)
  ·rw[Nat.eq_of_beq_eq_true hb];exact List.mem_cons_self ..
section
variable {P:Program}[b:Inhabited (TbS P)]
theorem aae {y:Ty}(h:Bh (Tb.T P) t=some y):Hf P t y=true:=List.all_eq_true.1 (Tb.ok (P:=P)) _ (adf h)
theorem ahk {f:Nat}(h:Wd (Tb.G P) f=true):o8 P f:=by
 have h:=List.all_eq_true.1 (Tb.go (P:=P)) _ (adg h)
 unfold We at h
 split at h
 ·rename_i fn hf
  simp only[Bool.and_eq_true,Bool.not_eq_true']at h
  exact⟨fn,hf,h.1,h.2⟩
 ·cases h
variable {e s:Nat}
theorem aaf (h:Bh (Tb.T P) t=some (.sl e s)):P.underlying t=some (.slice e)/\Sz P e s:=by
 have h:=aae h
 simp only[Hf]at h
 split at h
 ·rename_i e' hu
  simp only[Bool.and_eq_true]at h
  rw[Nat.eq_of_beq_eq_true h.1]at hu
  exact⟨hu,F8 h.2⟩
 ·cases h
theorem adh {l z:Nat}(h:Bh (Tb.T P) t=some (.ar l e s z)):P.underlying t=some (.array l e)/\Sz P e s/\Sz P t z:=by
 have h:=aae h
 simp only[Hf]at h
 split at h
 ·rename_i l' e' hu
  simp only[Bool.and_eq_true]at h
  rw[Nat.eq_of_beq_eq_true h.1.1.1,Nat.eq_of_beq_eq_true h.1.1.2]at hu
  exact⟨hu,F8 h.1.2,F8 h.2⟩
 ·cases h
variable {os:List Nat}
theorem aag {fs:List Field}(h:M6 P os fs=true){i off:Nat}(ho:os[i]? =some off):∃f s,fs[i]? =some f/\f.offset=off/\Sz P f.type s/\0<s:=by
 induction os generalizing fs i with
 |nil=>cases ho
 |cons o os ih=>
  cases fs with
  |nil=>cases h
  |cons f fs=>
   unfold M6 at h
   simp only[Bool.and_eq_true]at h
   cases i with
   |zero=>
    have e:o=off:=by simpa using ho
    have d:=h.1.2
    split at d
    ·rename_i j hj
     exact⟨f,j.size,by simp,(Nat.eq_of_beq_eq_true h.1.1).trans e,by unfold Sz;rw[hj];rfl,by simpa[Nat.blt_eq]using d⟩
    ·cases d
   |succ i=>obtain⟨f',s,a,c⟩:=ih h.2 (i:=i) (by simpa using ho);exact⟨f',s,by simpa using a,c⟩
theorem ae2 {z:Nat}(h:Bh (Tb.T P) t=some (.st os z)):∃fs,P.underlying t=some (.struct fs)/\M6 P os fs.toList=true/\Sz P t z:=by
 have h:=aae h
 simp only[Hf]at h
 split at h
 ·rename_i fs hu
  simp only[Bool.and_eq_true]at h
  exact⟨fs,hu,h.1,F8 h.2⟩
 ·cases h
theorem adi {i off z:Nat}(h:Bh (Tb.T P) t=some (.st os z))(ho:os[i]? =some off):F4 P t i off:=by
 obtain⟨fs,hu,hf,_⟩:=ae2 h
 obtain⟨f,s,c,d,e,j⟩:=aag hf ho
 exact⟨fs,f,s,hu,by simpa using c,d,e,j⟩
def naB (T:List (Nat×Ty))(t:Nat):Bool:=match Bh T t with
 |some .na=>true
 |some (.sl _ _)=>true
 |_=>false
theorem ahl (h:naB (Tb.T P) t=true):mY P t:=by
 unfold naB at h
 split at h
 ·rename_i h1
  have h:=aae h1
  simp only[Hf]at h
  split at h
  ·cases h
  ·cases h
  ·rename_i d n1 n2 hu
   exact⟨d,hu,by cases d<;>first|rfl|exact(n1 _ Z).elim|exact(n2 _ _ Z).elim⟩
  ·cases h
 ·rename_i e s h1;exact⟨_,(aaf h1).1,rfl⟩
 ·cases h
def agB (T:List (Nat×Ty))(t:Nat):Option Nat:=match Bh T t with
 |some (.ar _ _ _ z)=>some z
 |some (.st _ z)=>some z
 |_=>none
theorem ae3 {z:Nat}(h:agB (Tb.T P) t=some z):ky P t z:=by
 unfold agB at h
 split at h
 ·rename_i c;cases h;obtain⟨d,f,e⟩:=adh c;exact⟨_,d,rfl,e⟩
 ·rename_i c;cases h;obtain⟨fs,d,_,e⟩:=ae2 c;exact⟨_,d,rfl,e⟩
 ·cases h
end
def adj (T:List (Nat×Ty))(env:Env)(op:Op):Option Value:=match op with
 | .nilCheck x=>match ev env x with
  |some (.pointer (some ad))=>some (.pointer (some ad))
  |_=>none
 | .fieldAddr t x i=>match Bh T t with
  |some (.st os _)=>match os[i]? with
   |some off=>match ev env x with
    |some (.pointer (some ⟨g,0,none⟩))=>some (.pointer (some ⟨g,off,none⟩))
    |some (.pointer (some ⟨g,o+1,none⟩))=>some (.pointer (some ⟨g,o+1+off,none⟩))
    |_=>none
   |none=>none
  |_=>none
 | .call ⟨.builtin .len,xs,ts⟩=>match xs.toList,ts.toList with
  |[x],[t]=>match Bh T t with
   |some (.sl _ _)=>match ev env x with
    |some (.slice _ len _)=>some (.int .i64 len)
    |_=>none
   |_=>none
  |_,_=>none
 |op=>MS env op
section
variable {P:Program}[b:Inhabited (TbS P)]{ops:Array Oper}{Q:Exit->Act->World->Prop}{n:Nat}{env:Env}{w:World}{v:Value}
theorem Wh {op:Op}(h:adj (Tb.T P) env op=some v):
  (kd op=0/\∀d T p af g,Any P env n ⟨d,op,T,p,af,g⟩ v)\/(kd op=1/\∀d T p af g,Rd P w env n ⟨d,op,T,p,af,g⟩ v):=by
 unfold adj at h
 split at h
 ·split at h
  ·rename_i hx;cases h;exact .inl ⟨rfl,fun d T p af g=> .nilCheck hx⟩
  ·cases h
 ·split at h
  ·rename_i ht
   split at h
   ·rename_i ho
    split at h
    ·rename_i hx;cases h;exact .inl ⟨rfl,fun d T p af g=> .nU (adi ht ho) hx⟩
    ·rename_i hx;cases h;exact .inl ⟨rfl,fun d T p af g=> .fieldAddr (adi ht ho) hx⟩
    ·cases h
   ·cases h
  ·cases h
 ·rename_i xs ts
  split at h
  ·rename_i x t hxs hts
   split at h
   ·rename_i ht
    split at h
    ·rename_i hx
     cases h
     have e1:xs=#[x]:=Array.toList_inj.1 hxs
     have e2:ts=#[t]:=Array.toList_inj.1 hts
     subst e1;subst e2
     exact .inr ⟨rfl,fun d T p af g=> .len (aaf ht).1 hx⟩
    ·cases h
   ·cases h
  ·cases h
 ·exact .inl ⟨FX h,fun d T p af g=>uQ h⟩
def nV (ops:Array Oper)(env:Env)(n:Nat)(o:Oper):Option Nat:=match o.guard with
 |none=>slot o n
 |some _=>JH ops env n o
def Ra (T:List (Nat×Ty))(ops:Array Oper)(n:Nat)(env:Env)(o:Oper):Option Env:=match nV ops env n o with
 |some d=>match adj T env o.op with
  |some v=>some ((d,v)::env)
  |none=>none
 |none=>GX ops n env o
variable {o:Oper}{d:Nat}
theorem Yr {rest:List Oper}(hd:nV ops env n o=some d)(hr:Rd P w env n o v)(h:W P ops Q n rest ((d,v)::env) w):W P ops Q n (o::rest) env w:=by
 unfold nV at hd
 split at hd
 ·exact Wr hr hd h
 ·exact Wg hr hd h
theorem Ye {rest:List Oper}(hd:nV ops env n o=some d)(h:Ef P env n o w fun v w'=>W P ops Q n rest ((d,v)::env) w'):W P ops Q n (o::rest) env w:=by
 unfold nV at hd
 split at hd
 ·have t:=yY hd;exact W.ef t.1 t.2.1 t.2.2 h
 ·obtain⟨j,want,dj,b,c,e,f,i,k,l⟩:=xM hd
  exact W.MN c e f i k l h
variable {i:Nat}{plan:List Nat}
theorem Xa (ho:ops[i]? =some o)(hk:kd o.op=0)(hd:nV ops env n o=some d)(hr:Any P env n o v)(h:G P ops Q n plan ((d,v)::env) w):G P ops Q n (i::plan) env w:=by
 unfold nV at hd
 split at hd
 ·have t:=yY hd;exact G.any ho hk hr t.1 t.2.1 t.2.2 h
 ·obtain⟨j,want,dj,b,c,e,f,k,l,m⟩:=xM hd
  exact G.VQ ho hk hr c e f k l m h
theorem Xr (ho:ops[i]? =some o)(hk:kd o.op=1)(hd:nV ops env n o=some d)(hr:Rd P w env n o v)(h:G P ops Q n plan ((d,v)::env) w):G P ops Q n (i::plan) env w:=by
 unfold nV at hd
 split at hd
 ·have t:=yY hd;exact G.rd ho hk hr t.1 t.2.1 t.2.2 h
 ·obtain⟨j,want,dj,b,c,e,f,k,l,m⟩:=xM hd
  exact G.Fx ho hk hr c e f k l m h
theorem Xe (ho:ops[i]? =some o)(hk:kd o.op=2)(hd:nV ops env n o=some d)(h:Ef P env n o w fun v w'=>((nS ops i||plan.any (nS ops))=true->Le w w')/\G P ops Q n plan ((d,v)::env) w'):G P ops Q n (i::plan) env w:=by
 unfold nV at hd
 split at hd
 ·have t:=yY hd;exact G.ef ho hk t.1 t.2.1 t.2.2 h
 ·obtain⟨j,want,dj,b,c,e,f,k,l,m⟩:=xM hd
  exact G.MN ho hk c e f k l m h
def FB (T:List (Nat×Ty))(ops:Array Oper)(n:Nat):Nat->List Oper->Env->Option (List Oper×Env)
 |0,l,env=>some (l,env)
 |k+1,o::l,env=>match Ra T ops n env o with
  |some e=>FB T ops n k l e
  |none=>none
 |_+1,[],_=>none
theorem Yn:∀(k:Nat) {rest l:List Oper} {env e:Env},FB (Tb.T P) ops n k rest env=some (l,e)->W P ops Q n l e w->W P ops Q n rest env w
 |0,_,_,_,_,h,k=>by cases h;exact k
 |j+1,[],_,_,_,h,_=>by cases h
 |j+1,o::r,l,env,e,h,k=>by
  unfold FB at h
  split at h
  ·rename_i e1 hs
   have ih:=Yn j h k
   unfold Ra at hs
   split at hs
   ·rename_i d hd
    split at hs
    ·rename_i v hv
     cases hs
     rcases Wh (w:=w) (n:=n) hv with⟨_,a⟩|⟨_,a⟩
     ·exact Yr hd (Any.rd (a _ _ _ _ _) _) ih
     ·exact Yr hd (a _ _ _ _ _) ih
    ·cases hs
   ·exact QV hs ih
  ·cases h
def PN (T:List (Nat×Ty))(ops:Array Oper)(n:Nat):Nat->List Nat->Env->Option (List Nat×Env)
 |0,l,env=>some (l,env)
 |k+1,i::l,env=>match ops[i]? with
  |some o=>match Ra T ops n env o with
   |some e=>PN T ops n k l e
   |none=>none
  |none=>none
 |_+1,[],_=>none
theorem Xn:∀(k:Nat) {plan l:List Nat} {env e:Env},PN (Tb.T P) ops n k plan env=some (l,e)->G P ops Q n l e w->G P ops Q n plan env w
 |0,_,_,_,_,h,k=>by cases h;exact k
 |j+1,[],_,_,_,h,_=>by cases h
 |j+1,i::r,l,env,e,h,k=>by
  unfold PN at h
  split at h
  ·rename_i o ho
   split at h
   ·rename_i e1 hs
    have ih:=Xn j h k
    unfold Ra at hs
    split at hs
    ·rename_i d hd
     split at hs
     ·rename_i v hv
      cases hs
      rcases Wh (w:=w) (n:=n) hv with⟨q,a⟩|⟨q,a⟩
      ·exact Xa ho q hd (a _ _ _ _ _) ih
      ·exact Xr ho q hd (a _ _ _ _ _) ih
     ·cases hs
    ·exact QW ho hs ih
   ·cases h
  ·cases h
theorem Yq (k:Nat){rest l:List Oper}{env e:Env}{d:Nat}{u v:Bool}(h:FB (Tb.T P) ops n k rest env=some (l,(d,.bool u)::e))(hb:u=v)(hw:W P ops Q n l ((d,.bool v)::e) w):W P ops Q n rest env w:=Yn k h (hb▸hw)
theorem Xq (k:Nat){rest l:List Nat}{env e:Env}{d:Nat}{u v:Bool}(h:PN (Tb.T P) ops n k rest env=some (l,(d,.bool u)::e))(hb:u=v)(hw:G P ops Q n l ((d,.bool v)::e) w):G P ops Q n rest env w:=Xn k h (hb▸hw)
theorem Yt (k:Nat){rest l:List Oper}{env e:Env}{d:Nat}{p:Prop}[Decidable p](h:FB (Tb.T P) ops n k rest env=some (l,(d,.bool (decide p))::e))(hw:W P ops Q n l ((d,.bool true)::e) w)(hb:p:=by omega):W P ops Q n rest env w:=Yq k h (dT hb) hw
theorem Yf (k:Nat){rest l:List Oper}{env e:Env}{d:Nat}{p:Prop}[Decidable p](h:FB (Tb.T P) ops n k rest env=some (l,(d,.bool (decide p))::e))(hw:W P ops Q n l ((d,.bool false)::e) w)(hb:¬p:=by omega):W P ops Q n rest env w:=Yq k h (dF hb) hw
theorem Xt (k:Nat){rest l:List Nat}{env e:Env}{d:Nat}{p:Prop}[Decidable p](h:PN (Tb.T P) ops n k rest env=some (l,(d,.bool (decide p))::e))(hw:G P ops Q n l ((d,.bool true)::e) w)(hb:p:=by omega):G P ops Q n rest env w:=Xq k h (dT hb) hw
theorem Xf (k:Nat){rest l:List Nat}{env e:Env}{d:Nat}{p:Prop}[Decidable p](h:PN (Tb.T P) ops n k rest env=some (l,(d,.bool (decide p))::e))(hw:G P ops Q n l ((d,.bool false)::e) w)(hb:¬p:=by omega):G P ops Q n rest env w:=Xq k h (dF hb) hw
def ldY (T:List (Nat×Ty))(ops:Array Oper)(n:Nat)(env:Env)(o:Oper):Option (Nat×Nat×Nat):=match nV ops env n o,o.op with
 |some d,.load t x=>match naB T t,ev env x with
  |true,some (.pointer (some ⟨g,j,none⟩))=>some (d,g,j)
  |_,_=>none
 |_,_=>none
variable {j:Nat}
theorem ab6 {g:Nat}(h:ldY (Tb.T P) ops n env o=some (d,g,j)):nV ops env n o=some d/\kd o.op=1/\∀{tb:TypeId} {cs:Array Value} {v:Value},ik w g tb cs->cs[j]? =some v->Rd P w env n o v:=by
 unfold ldY at h
 split at h
 ·rename_i d0 t x hd ho
  split at h
  ·rename_i hu hx
   cases h
   obtain⟨dd,op,T,p,af,gg⟩:=o
   cases ho
   exact⟨hd,rfl,fun hB hj=> .ES (ahl hu) hx hB hj⟩
  ·cases h
 ·cases h
theorem Yk (v:Value){o:Oper}{rest:List Oper}{d g j:Nat}{tb:TypeId}{cs:Array Value}(h:ldY (Tb.T P) ops n env o=some (d,g,j))(hB:ik w g tb cs)(hj:cs[j]? =some v)(k:W P ops Q n rest ((d,v)::env) w):W P ops Q n (o::rest) env w:=have t:=ab6 (w:=w) h;Yr t.1 (t.2.2 hB hj) k
theorem Yl {rest:List Oper}{g:Nat}{tb:TypeId}{cs:Array Value}(h:ldY (Tb.T P) ops n env o=some (d,g,j))(hB:ik w g tb cs)(hj:cs[j]? =some v)(k:W P ops Q n rest ((d,v)::env) w):W P ops Q n (o::rest) env w:=Yk v h hB hj k
variable {α:Type}
def O5 (ops:Array Oper)(i:Nat)(f:Oper->Option α):Option α:=match ops[i]? with
 |some o=>f o
 |none=>none
theorem AY {f:Oper->Option α}{r:α}(h:O5 ops i f=some r):∃o,ops[i]? =some o/\f o=some r:=by
 unfold O5 at h
 split at h
 ·rename_i o ho;exact⟨o,ho,h⟩
 ·cases h
theorem Xk (v:Value){i:Nat}{plan:List Nat}{d g j:Nat}{tb:TypeId}{cs:Array Value}(h:O5 ops i (ldY (Tb.T P) ops n env)=some (d,g,j))(hB:ik w g tb cs)(hj:cs[j]? =some v)(k:G P ops Q n plan ((d,v)::env) w):G P ops Q n (i::plan) env w:=by
 obtain⟨o,ho,h⟩:=AY h
 have t:=ab6 (w:=w) h
 exact Xr ho t.2.1 t.1 (t.2.2 hB hj) k
theorem Xl {g:Nat}{tb:TypeId}{cs:Array Value}(h:O5 ops i (ldY (Tb.T P) ops n env)=some (d,g,j))(hB:ik w g tb cs)(hj:cs[j]? =some v)(k:G P ops Q n plan ((d,v)::env) w):G P ops Q n (i::plan) env w:=Xk v h hB hj k
def laY (T:List (Nat×Ty))(ops:Array Oper)(n:Nat)(env:Env)(o:Oper):Option (Nat×Nat×Nat×Nat):=match nV ops env n o,o.op with
 |some d,.load t x=>match agB T t,ev env x with
  |some z,some (.pointer (some ⟨g,j,none⟩))=>some (d,g,j,z)
  |_,_=>none
 |_,_=>none
theorem Rb {g z:Nat}(h:laY (Tb.T P) ops n env o=some (d,g,j,z)):nV ops env n o=some d/\kd o.op=1/\∃dd t x T p af gg,o=⟨dd,.load t x,T,p,af,gg⟩/\ky P t z/\ev env x=some (.pointer (some ⟨g,j,none⟩)):=by
 unfold laY at h
 split at h
 ·rename_i d0 t x hd ho
  split at h
  ·rename_i hu hx
   cases h
   obtain⟨dd,op,T,p,af,gg⟩:=o
   cases ho
   exact⟨hd,rfl,dd,t,x,T,p,af,gg,rfl,ae3 hu,hx⟩
  ·cases h
 ·cases h
theorem Yh {rest:List Oper}{g z:Nat}{tb:TypeId}{cs:Array Value}(h:laY (Tb.T P) ops n env o=some (d,g,0,z))(hB:ik w g tb cs)(k:W P ops Q n rest ((d,.agg cs)::env) w)(hz:cs.size=z:=by exact Z):W P ops Q n (o::rest) env w:=by
 obtain⟨c,i,dd,t,x,T,p,af,gg,rfl,e,f⟩:=Rb h
 exact Yr c (.jM e hz f hB) k
theorem Xh {g z:Nat}{tb:TypeId}{cs:Array Value}(h:O5 ops i (laY (Tb.T P) ops n env)=some (d,g,0,z))(hB:ik w g tb cs)(k:G P ops Q n plan ((d,.agg cs)::env) w)(hz:cs.size=z:=by exact Z):G P ops Q n (i::plan) env w:=by
 obtain⟨o,ho,h⟩:=AY h
 obtain⟨c,e,dd,t,x,T,p,af,gg,rfl,f,j⟩:=Rb h
 exact Xr ho e c (.jM f hz j hB) k
theorem Yb (cs:List Value){o:Oper}{rest:List Oper}{d g j z:Nat}{tb:TypeId}{cells:Array Value}(h:laY (Tb.T P) ops n env o=some (d,g,j,z))(hB:ik w g tb cells)(hc:(cells.toList.drop j).take z=cs)(k:W P ops Q n rest ((d,.agg cs.toArray)::env) w)(hz:cs.length=z:=by exact Z)(hp:0<z:=by decide):W P ops Q n (o::rest) env w:=by
 obtain⟨c,i,dd,t,x,T,p,af,gg,rfl,e,f⟩:=Rb h
 exact Yr c (.Ha cs e hz hp f hB hc) k
theorem Xb (cs:List Value){i:Nat}{plan:List Nat}{d g j z:Nat}{tb:TypeId}{cells:Array Value}(h:O5 ops i (laY (Tb.T P) ops n env)=some (d,g,j,z))(hB:ik w g tb cells)(hc:(cells.toList.drop j).take z=cs)(k:G P ops Q n plan ((d,.agg cs.toArray)::env) w)(hz:cs.length=z:=by exact Z)(hp:0<z:=by decide):G P ops Q n (i::plan) env w:=by
 obtain⟨o,ho,h⟩:=AY h
 obtain⟨c,e,dd,t,x,T,p,af,gg,rfl,f,l⟩:=Rb h
 exact Xr ho e c (.Ha cs f hz hp l hB hc) k
def ixY (T:List (Nat×Ty))(ops:Array Oper)(n:Nat)(env:Env)(o:Oper):Option (Nat×Nat×Nat×Int×Nat×Nat):=match nV ops env n o,o.op with
 |some d,.indexAddr t x y=>match Bh T t,ev env x,ev env y with
  |some (.ar l e s z),some (.pointer (some ⟨g,a,none⟩)),some (.int k i)=>some (d,g,a,i,l,s)
  |_,_,_=>none
 |_,_=>none
variable {l s:Nat}
theorem ab7 {g a:Nat}{i:Int}(h:ixY (Tb.T P) ops n env o=some (d,g,a,i,l,s)):nV ops env n o=some d/\kd o.op=0/\∀{j:Nat},i=(j:Int)->j<l->Any P env n o (.pointer (some ⟨g,a+j*s,none⟩)):=by
 unfold ixY at h
 split at h
 ·rename_i d0 t x y hd ho
  split at h
  ·rename_i e z k ht hx hy
   cases h
   obtain⟨dd,op,T,p,af,gg⟩:=o
   cases ho
   exact⟨hd,rfl,fun hi hj=> .ac4 _ (adh ht).1 (adh ht).2.1 hx hy hi hj⟩
  ·cases h
 ·cases h
theorem Yj (j:Nat){o:Oper}{rest:List Oper}{d g a l s:Nat}{i:Int}(h:ixY (Tb.T P) ops n env o=some (d,g,a,i,l,s))(k:W P ops Q n rest ((d,.pointer (some ⟨g,a+j*s,none⟩))::env) w)(hi:i=(j:Int):=by first|exact rfl|omega)(hj:j<l:=by omega):W P ops Q n (o::rest) env w:=have t:=ab7 h;Yr t.1 (Any.rd (t.2.2 hi hj) _) k
theorem Yi (j:Nat){o:Oper}{rest:List Oper}{d g a l:Nat}{i:Int}(h:ixY (Tb.T P) ops n env o=some (d,g,a,i,l,1))(k:W P ops Q n rest ((d,.pointer (some ⟨g,a+j,none⟩))::env) w)(hi:i=(j:Int):=by first|exact rfl|omega)(hj:j<l:=by omega):W P ops Q n (o::rest) env w:=Yj j h (by rw[Nat.mul_one];exact k) hi hj
theorem Yo (j:Nat){o:Oper}{rest:List Oper}{d g l:Nat}{i:Int}(h:ixY (Tb.T P) ops n env o=some (d,g,0,i,l,1))(k:W P ops Q n rest ((d,.pointer (some ⟨g,j,none⟩))::env) w)(hi:i=(j:Int):=by first|exact rfl|omega)(hj:j<l:=by omega):W P ops Q n (o::rest) env w:=Yi j h (by rw[Nat.zero_add];exact k) hi hj
theorem Xj (j:Nat){q:Nat}{plan:List Nat}{d g a l s:Nat}{i:Int}(h:O5 ops q (ixY (Tb.T P) ops n env)=some (d,g,a,i,l,s))(k:G P ops Q n plan ((d,.pointer (some ⟨g,a+j*s,none⟩))::env) w)(hi:i=(j:Int):=by first|exact rfl|omega)(hj:j<l:=by omega):G P ops Q n (q::plan) env w:=by
 obtain⟨o,ho,h⟩:=AY h
 have t:=ab7 h
 exact Xa ho t.2.1 t.1 (t.2.2 hi hj) k
theorem Xi (j:Nat){q:Nat}{plan:List Nat}{d g a l:Nat}{i:Int}(h:O5 ops q (ixY (Tb.T P) ops n env)=some (d,g,a,i,l,1))(k:G P ops Q n plan ((d,.pointer (some ⟨g,a+j,none⟩))::env) w)(hi:i=(j:Int):=by first|exact rfl|omega)(hj:j<l:=by omega):G P ops Q n (q::plan) env w:=Xj j h (by rw[Nat.mul_one];exact k) hi hj
theorem Xo (j:Nat){q:Nat}{plan:List Nat}{d g l:Nat}{i:Int}(h:O5 ops q (ixY (Tb.T P) ops n env)=some (d,g,0,i,l,1))(k:G P ops Q n plan ((d,.pointer (some ⟨g,j,none⟩))::env) w)(hi:i=(j:Int):=by first|exact rfl|omega)(hj:j<l:=by omega):G P ops Q n (q::plan) env w:=Xi j h (by rw[Nat.zero_add];exact k) hi hj
def isY (T:List (Nat×Ty))(ops:Array Oper)(n:Nat)(env:Env)(o:Oper):Option (Nat×Option Addr×Int×Nat×Nat):=match nV ops env n o,o.op with
 |some d,.indexAddr t x y=>match Bh T t,ev env x,ev env y with
  |some (.sl e s),some (.slice A len cap),some (.int k i)=>some (d,A,i,len,s)
  |_,_,_=>none
 |_,_=>none
theorem ab8 {A:Option Addr}{i:Int}(h:isY (Tb.T P) ops n env o=some (d,A,i,l,s)):nV ops env n o=some d/\kd o.op=0/\∀{j:Nat},A.isSome=true->i=(j:Int)->j<l->Any P env n o (ptr A (j*s)):=by
 unfold isY at h
 split at h
 ·rename_i d0 t x y hd ho
  split at h
  ·rename_i e cap k ht hx hy
   cases h
   obtain⟨dd,op,T,p,af,gg⟩:=o
   cases ho
   exact⟨hd,rfl,fun hA hi hj=> .MO _ (aaf ht).1 (aaf ht).2 hx hy hA hi hj⟩
  ·cases h
 ·cases h
theorem Ys (j:Nat){o:Oper}{rest:List Oper}{d l s:Nat}{A:Option Addr}{i:Int}(h:isY (Tb.T P) ops n env o=some (d,A,i,l,s))(hA:A.isSome=true)(k:W P ops Q n rest ((d,ptr A (j*s))::env) w)(hi:i=(j:Int):=by first|exact rfl|omega)(hj:j<l:=by omega):W P ops Q n (o::rest) env w:=have t:=ab8 h;Yr t.1 (Any.rd (t.2.2 hA hi hj) _) k
theorem Yu (j:Nat){o:Oper}{rest:List Oper}{d l:Nat}{A:Option Addr}{i:Int}(h:isY (Tb.T P) ops n env o=some (d,A,i,l,1))(hA:A.isSome=true)(k:W P ops Q n rest ((d,ptr A j)::env) w)(hi:i=(j:Int):=by first|exact rfl|omega)(hj:j<l:=by omega):W P ops Q n (o::rest) env w:=Ys j h hA (by rw[Nat.mul_one];exact k) hi hj
theorem Xs (j:Nat){q:Nat}{plan:List Nat}{d l s:Nat}{A:Option Addr}{i:Int}(h:O5 ops q (isY (Tb.T P) ops n env)=some (d,A,i,l,s))(hA:A.isSome=true)(k:G P ops Q n plan ((d,ptr A (j*s))::env) w)(hi:i=(j:Int):=by first|exact rfl|omega)(hj:j<l:=by omega):G P ops Q n (q::plan) env w:=by
 obtain⟨o,ho,h⟩:=AY h
 have t:=ab8 h
 exact Xa ho t.2.1 t.1 (t.2.2 hA hi hj) k
theorem Xu (j:Nat){q:Nat}{plan:List Nat}{d l:Nat}{A:Option Addr}{i:Int}(h:O5 ops q (isY (Tb.T P) ops n env)=some (d,A,i,l,1))(hA:A.isSome=true)(k:G P ops Q n plan ((d,ptr A j)::env) w)(hi:i=(j:Int):=by first|exact rfl|omega)(hj:j<l:=by omega):G P ops Q n (q::plan) env w:=Xs j h hA (by rw[Nat.mul_one];exact k) hi hj
def f2Y (T:List (Nat×Ty))(ops:Array Oper)(n:Nat)(env:Env)(o:Oper):Option (Nat×Nat×Nat×Nat):=match nV ops env n o,o.op with
 |some d,.fieldAddr t x i=>match Bh T t with
  |some (.st os _)=>match os[i]?,ev env x with
   |some off,some (.pointer (some ⟨g,a,none⟩))=>some (d,g,a,off)
   |_,_=>none
  |_=>none
 |_,_=>none
theorem ab9 {g a off:Nat}(h:f2Y (Tb.T P) ops n env o=some (d,g,a,off)):nV ops env n o=some d/\kd o.op=0/\Any P env n o (.pointer (some ⟨g,a+off,none⟩)):=by
 unfold f2Y at h
 split at h
 ·rename_i d0 t x i hd ho
  split at h
  ·rename_i ht
   split at h
   ·rename_i hoff hx
    cases h
    obtain⟨dd,op',T,p,af,gg⟩:=o
    cases ho
    exact⟨hd,rfl,.fieldAddr (adi ht hoff) hx⟩
   ·cases h
  ·cases h
 ·cases h
theorem Yg {rest:List Oper}{g a off:Nat}(h:f2Y (Tb.T P) ops n env o=some (d,g,a,off))(k:W P ops Q n rest ((d,.pointer (some ⟨g,a+off,none⟩))::env) w):W P ops Q n (o::rest) env w:=have t:=ab9 h;Yr t.1 (Any.rd t.2.2 _) k
theorem Xg {g a off:Nat}(h:O5 ops i (f2Y (Tb.T P) ops n env)=some (d,g,a,off))(k:G P ops Q n plan ((d,.pointer (some ⟨g,a+off,none⟩))::env) w):G P ops Q n (i::plan) env w:=by
 obtain⟨o,ho,h⟩:=AY h
 have t:=ab9 h
 exact Xa ho t.2.1 t.1 t.2.2 k
def arY (ops:Array Oper)(n:Nat)(env:Env)(o:Oper):Option (Nat×Int):=match nV ops env n o,o.op with
 |some d,.binOp op t x y ty=>match ev env x,ev env y with
  |some (.int .i64 a),some (.int .i64 b)=>match op with
   | .add=>some (d,a+b)
   | .sub=>some (d,a-b)
   | .mul=>some (d,a*b)
   |_=>none
  |_,_=>none
 |_,_=>none
theorem aca {r:Int}(h:arY ops n env o=some (d,r))(hb: -9223372036854775808<=r/\r<=9223372036854775807):nV ops env n o=some d/\kd o.op=0/\Any P env n o (J r):=by
 unfold arY at h
 split at h
 ·rename_i d0 op t x y ty hd ho
  split at h
  ·rename_i a b hx hy
   obtain⟨dd,op',T,p,af,gg⟩:=o
   cases ho
   split at h
   ·cases h;exact⟨hd,rfl,.add hx hy hb⟩
   ·cases h;exact⟨hd,rfl,.sub hx hy hb⟩
   ·cases h;exact⟨hd,rfl,.mul hx hy hb⟩
   ·cases h
  ·cases h
 ·cases h
theorem Yp {rest:List Oper}{r:Int}(h:arY ops n env o=some (d,r))(k:W P ops Q n rest ((d,J r)::env) w)(hb: -9223372036854775808<=r/\r<=9223372036854775807:=by omega):W P ops Q n (o::rest) env w:=have t:=aca h hb;Yr t.1 (Any.rd t.2.2 _) k
theorem Xp {r:Int}(h:O5 ops i (arY ops n env)=some (d,r))(k:G P ops Q n plan ((d,J r)::env) w)(hb: -9223372036854775808<=r/\r<=9223372036854775807:=by omega):G P ops Q n (i::plan) env w:=by
 obtain⟨o,ho,h⟩:=AY h
 have t:=aca (P:=P) h hb
 exact Xa ho t.2.1 t.1 t.2.2 k
def clY (G:List Nat)(ops:Array Oper)(n:Nat)(env:Env)(o:Oper):Option (Nat×Nat×List Value):=match nV ops env n o,o.op with
 |some d,.call ⟨.value f,args,ats⟩=>match ev env f with
  |some (.func (.func BK) ⟨[]⟩ ⟨[]⟩)=>match Wd G BK,evs env args.toList with
   |true,some vs=>some (d,BK,vs)
   |_,_=>none
  |_=>none
 |_,_=>none
variable {BK:Nat}{vs:List Value}
theorem Rc (h:clY (Tb.G P) ops n env o=some (d,BK,vs)):nV ops env n o=some d/\kd o.op=2/\∀{K:Value->World->Prop} {R:Ending->World->Prop},Calls P BK vs.toArray w R->(∀e w',R e w'->∃v,e= .returned v/\K v w')->Ef P env n o w K:=by
 unfold clY at h
 split at h
 ·rename_i d0 f args ats hd ho
  split at h
  ·rename_i aiF hf
   split at h
   ·rename_i vs0 hg ha
    cases h
    obtain⟨dd,op',T,p,af,gg⟩:=o
    cases ho
    exact⟨hd,rfl,fun hc hk=>Ef.call (ahk hg) hf ha hc hk⟩
   ·cases h
  ·cases h
 ·cases h
theorem Yc {rest:List Oper}{S:World->Prop}(h:clY (Tb.G P) ops n env o=some (d,BK,vs))(hc:Calls P BK vs.toArray w fun e w'=>e= .returned v/\S w')(k:∀w',S w'->W P ops Q n rest ((d,v)::env) w'):W P ops Q n (o::rest) env w:=
 have t:=Rc (w:=w) h
 Ye t.1 (t.2.2 hc fun e w' he=>⟨v,he.1,k w' he.2⟩)
theorem Xc (h:O5 ops i (clY (Tb.G P) ops n env)=some (d,BK,vs))(hc:Calls P BK vs.toArray w fun e w'=>e= .returned v/\Le w w')(k:∀w',Le w w'->G P ops Q n plan ((d,v)::env) w'):G P ops Q n (i::plan) env w:=by
 obtain⟨o,ho,h⟩:=AY h
 have t:=Rc (w:=w) h
 exact Xe ho t.2.1 t.1 (t.2.2 hc fun e w' he=>⟨v,he.1,fun _=>he.2,k w' he.2⟩)
variable {R:Ending->World->Prop}
theorem Yd {rest:List Oper}(h:clY (Tb.G P) ops n env o=some (d,BK,vs))(hc:Calls P BK vs.toArray w R)(k:∀e w',R e w'->Ret e fun v=>W P ops Q n rest ((d,v)::env) w'):W P ops Q n (o::rest) env w:=
 have t:=Rc (w:=w) h
 Ye t.1 (t.2.2 hc fun e w' he=>by
  have h:=k e w' he
  cases e with
  |returned v=>exact⟨v,rfl,h⟩
  |panicked c=>exact h.elim
  |outgrown=>exact h.elim)
theorem Xd (h:O5 ops i (clY (Tb.G P) ops n env)=some (d,BK,vs))(hc:Calls P BK vs.toArray w R)(k:∀e w',R e w'->Ret e fun v=>((nS ops i||plan.any (nS ops))=true->Le w w')/\G P ops Q n plan ((d,v)::env) w'):G P ops Q n (i::plan) env w:=by
 obtain⟨o,ho,h⟩:=AY h
 have t:=Rc (w:=w) h
 refine Xe ho t.2.1 t.1 (t.2.2 hc fun e w' he=>?_)
 have h:=k e w' he
 cases e with
 |returned v=>exact⟨v,rfl,h⟩
 |panicked c=>exact h.elim
 |outgrown=>exact h.elim
variable {id:Nat}{c:Code}
theorem Bk (h:WC P (Exit.inBlock id Q) n c env w):WC P Q n (.block id c) env w:= .block h
theorem Rg {l:List Oper}(h:W P l.toArray Q n l env w):WC P Q n (.region id l.toArray false) env w:= .region h
variable {x y:Code}
theorem Ct {c:Operand}(hc:ev env c=some (.bool true))(ht:WC P Q n x env w):WC P Q n (.cond c x y) env w:= .ab2 hc ht
theorem Cf {c:Operand}(hc:ev env c=some (.bool false))(hf:WC P Q n y env w):WC P Q n (.cond c x y) env w:= .ab3 hc hf
theorem Yx (k:Nat){rest:List Oper}{e:Env}{y:Code}{Q':Exit->Act->World->Prop}(h:FB (Tb.T P) ops n k rest env=some ([],e))(hw:WC P Q n y e w):W P ops (Exit.then (y.wp P Q) Q') n rest env w:=Yn k h (Nx hw)
theorem Xx (k:Nat){plan:List Nat}{e:Env}{y:Code}{Q':Exit->Act->World->Prop}(h:PN (Tb.T P) ops n k plan env=some ([],e))(hw:WC P Q n y e w):G P ops (Exit.then (y.wp P Q) Q') n plan env w:=Xn k h (G.nil (E.iM hw))
variable {Q':Exit->Act->World->Prop}
theorem Gx (hw:WC P Q n y env w):G P ops (Exit.then (y.wp P Q) Q') n [] env w:=G.nil (E.iM hw)
theorem Rr (k:Nat){id:Nat}{l r:List Oper}{y:Code}{e:Env}(h:FB (Tb.T P) l.toArray n k l env=some (r,e))(hw:W P l.toArray (Exit.then (y.wp P Q) Q) n r e w):WC P Q n (.seq (.region id l.toArray false) y) env w:=Sr (Yn k h hw)
theorem Rn (k:Nat){id:Nat}{l:List Oper}{y:Code}{e:Env}(h:FB (Tb.T P) l.toArray n k l env=some ([],e))(hw:WC P Q n y e w):WC P Q n (.seq (.region id l.toArray false) y) env w:=Sr (Yx k h hw)
theorem Ex {K K':Act->World->Prop}(h:WC P Q n y env w):WC P (Exit.then K (Exit.then K' (Exit.inBlock id (Exit.then (y.wp P Q) Q')))) n (.exit id) env w:= .exit (.jW (.jW (.rQ (.iM h))))
theorem Nb {z:Code}(h:WC P (Exit.inBlock id (Exit.then (z.wp P Q) Q)) n c env w):WC P (Exit.then ((Code.seq (.block id c) z).wp P Q) Q') n .skip env w:=Sn (Sq (Bk h))
theorem Lp (k:Nat){id id' d:Nat}{o:Oper}{l:List Oper}{r:Int}{e:Env}{Q':Exit->Act->World->Prop}(h1:arY (o::l).toArray n env o=some (d,r))(h2:FB (Tb.T P) (o::l).toArray n k l ((d,J r)::env)=some ([],e))(h:E Q n .normal e w)(hb: -9223372036854775808<=r/\r<=9223372036854775807:=by omega):
 E (Exit.inBlock id (Exit.then ((Code.region id' (o::l).toArray false).wp P Q) Q')) n .normal env w:= .jD (.iM (.region (Yp h1 (Yn k h2 (.nil h)) hb)))
variable {fn:Func}
theorem Re {r1:ResultVar}{v1:Value}(hr:fn.results=#[r1])(h1:yn P w env r1 v1)(h:R (.returned v1) w):WC P (bodyPost P fn R) n .ret env w:=Rt (E.iC hr h1 h)
theorem Yy (k:Nat){rest:List Oper}{e:Env}{Q':Exit->Act->World->Prop}{fn:Func}{R:Ending->World->Prop}{r1:ResultVar}{v1:Value}(h0:FB (Tb.T P) ops n k rest env=some ([],e))(hr:fn.results=#[r1])(h1:yn P w e r1 v1)(h:R (.returned v1) w):
 W P ops (Exit.then (Code.ret.wp P (bodyPost P fn R)) Q') n rest env w:=Yx k h0 (Re hr h1 h)
theorem Ry (k:Nat){id:Nat}{l:List Oper}{e:Env}{fn:Func}{R:Ending->World->Prop}{r1:ResultVar}{v1:Value}(h0:FB (Tb.T P) l.toArray n k l env=some ([],e))(hr:fn.results=#[r1])(h1:yn P w e r1 v1)(h:R (.returned v1) w):
 WC P (bodyPost P fn R) n (.seq (.region id l.toArray false) .ret) env w:=Rn k h0 (Re hr h1 h)
def bxY (ops:Array Oper)(n:Nat)(env:Env)(o:Oper):Option (Nat×Nat×Array Value):=match nV ops env n o,o.op with
 |some d,.box t x=>match ev env x with
  |some (.agg cs)=>some (d,t,cs)
  |_=>none
 |_,_=>none
theorem Yv {rest:List Oper}{cs:Array Value}(h:bxY ops n env o=some (d,t,cs))(k:∀g w',w.heap.size<=g->ik w' g t cs->Le w w'->W P ops Q n rest ((d,.pointer (some ⟨g,0,none⟩))::env) w'):W P ops Q n (o::rest) env w:=by
 unfold bxY at h
 split at h
 ·rename_i d0 t0 x hd ho
  split at h
  ·rename_i hx
   cases h
   obtain⟨dd,op',T,p,af,gg⟩:=o
   cases ho
   exact Ye hd (Ef.Tn hx k)
  ·cases h
 ·cases h
def alY (ops:Array Oper)(n:Nat)(env:Env)(o:Oper):Option (Nat×Nat):=match nV ops env n o,o.op with
 |some d,.alloc t=>some (d,t)
 |_,_=>none
theorem Yz {rest:List Oper}{cs:Array Value}(h:alY ops n env o=some (d,t))(hz:Zr P t (.agg cs))(k:∀g w',w.heap.size<=g->ik w' g t cs->Le w w'->W P ops Q n rest ((d,.pointer (some ⟨g,0,none⟩))::env) w'):W P ops Q n (o::rest) env w:=by
 unfold alY at h
 split at h
 ·rename_i d0 t0 hd ho
  cases h
  obtain⟨dd,op',T,p,af,gg⟩:=o
  cases ho
  exact Ye hd (Ef.pR hz k)
 ·cases h
def stY (T:List (Nat×Ty))(env:Env)(o:Oper):Option (Nat×Array Value×Nat):=match o.guard,o.dst,o.op with
 |none,none,.store t x y=>match agB T t,ev env x,ev env y with
  |some z,some (.pointer (some ⟨g,0,none⟩)),some (.agg vs)=>some (g,vs,z)
  |_,_,_=>none
 |_,_,_=>none
theorem acb {g z tb:Nat}{cs vs:Array Value}{K:Value->World->Prop}(h:stY (Tb.T P) env o=some (g,vs,z))(hB:ik w g tb cs)(hv:∀v∈vs.toList,v.oneCell'=true)(k:∀w',ik w' g tb vs->Ch w w' (some g)->K undef w')(h1:vs.size=z)(h2:cs.size=vs.size):o.guard=none/\o.dst=none/\kd o.op=2/\Ef P env n o w K:=by
 unfold stY at h
 split at h
 ·rename_i t x y hg hd ho
  split at h
  ·rename_i hu hx hy
   cases h
   obtain⟨dd,op',T,p,af,gg⟩:=o
   cases ho;cases hg;cases hd
   have hs:=(ae3 hu).choose_spec.2.2
   exact⟨rfl,rfl,rfl,Ef.storeAll hs h1 hx hy hB h2 hv k⟩
  ·cases h
 ·cases h
theorem Yw {rest:List Oper}{g z tb:Nat}{cs vs:Array Value}(h:stY (Tb.T P) env o=some (g,vs,z))(hB:ik w g tb cs)(hv:∀v∈vs.toList,v.oneCell'=true)(k:∀w',ik w' g tb vs->Ch w w' (some g)->W P ops Q n rest env w')(h1:vs.size=z:=by exact Z)(h2:cs.size=vs.size:=by exact Z):W P ops Q n (o::rest) env w:=
 have t:=acb (n:=n) (K:=fun _ w'=>W P ops Q n rest env w') h hB hv k h1 h2
 W.jR t.1 t.2.1 t.2.2.2
theorem Xw {g z tb:Nat}{cs vs:Array Value}(h:O5 ops i (stY (Tb.T P) env)=some (g,vs,z))(hB:ik w g tb cs)(hv:∀v∈vs.toList,v.oneCell'=true)(k:∀w',ik w' g tb vs->Ch w w' (some g)->((nS ops i||plan.any (nS ops))=true->Le w w')/\G P ops Q n plan env w')(h1:vs.size=z:=by exact Z)(h2:cs.size=vs.size:=by exact Z):G P ops Q n (i::plan) env w:=by
 obtain⟨o,ho,h⟩:=AY h
 have t:=acb (n:=n) (K:=fun _ w'=>((nS ops i||plan.any (nS ops))=true->Le w w')/\G P ops Q n plan env w') h hB hv k h1 h2
 exact G.jR ho t.2.2.1 t.1 t.2.1 t.2.2.2
def enC (fn:Func)(m:Nat):Option Code:=match fn.body,Nat.ble m fn.ntmps with
 |some c,true=>some c
 |_,_=>none
theorem En {f:FuncId}{args:List Value}(hf:P.funcs[f]? =some fn)(h:enC fn args.length=some c)(k:WC P (bodyPost P fn R) fn.ntmps c (sO 0 args) w):Calls P f args.toArray w R:=by
 unfold enC at h
 split at h
 ·rename_i c' hb hl;cases h;exact enter hf hb hl k
 ·cases h
end
open Go.RowKit
section
variable {P:Program}{env:Env}{n:Nat}{d:Option Nat}{T:TypeId}{p:String}{af:Array Edge}{g:Option (Nat×Bool)}{w w':World}{K:Value->World->Prop}
theorem Ef.lY {t sz:TypeId}{x y:Operand}{gb o:Nat}{tb:TypeId}{cs:Array Value}{vs:Array Value}(cs2:List Value)(hs:Sz P t sz)(hsz:vs.size=sz)(hx:ev env x=some (.pointer (some ⟨gb,o,none⟩)))(hy:ev env y=some (.agg vs))(hB:ik w gb tb cs)(hl:o+vs.size<=cs.size)
  (hv:∀v∈vs.toList,v.oneCell'=true)(hc:cs.toList.take o++vs.toList++cs.toList.drop (o+vs.size)=cs2)(h:∀w',ik w' gb tb cs2.toArray->Ch w w' (some gb)->K undef w'):Ef P env n ⟨d,.store t x y,T,p,af,g⟩ w K:=
 .rR (w':=w.setRow gb cs2.toArray) (fun a ha=>by
  subst hsz
  have hst:=run_storeCells_at P gb o tb vs.toList 0 cs w hB (by simpa using hl) hv
  have e1:(cs.toList.take (o+0)++vs.toList++cs.toList.drop (o+0+vs.toList.length)).toArray=cs2.toArray:=by
   rw[Nat.add_zero,Array.length_toList,hc]
  rw[e1]at hst
  simp[execOp,ha.eval hx,ha.eval hy,Instr.storeAt,Instr.sureAddr,storeVar,hs.run,Value.cells,hst])
  (h _ (setRow_heap w gb cs cs2.toArray tb (0,0) hB) ⟨rfl,rfl,rfl,by simp,fun k _ hk=>setRow_other w gb k cs2.toArray (fun e=>hk (by simp[e]))⟩)
end
section
variable {P:Program}{env:Env}{n:Nat}{d:Option Nat}{T:TypeId}{p:String}{af:Array Edge}{g:Option (Nat×Bool)}{w w':World}{K:Value->World->Prop}{α:Type}{f:α->List Value}{s e base:Nat}{A:Option Addr}{m c:Nat}{xs:List α}
theorem JJ (hf:kM f s)(vs:List Value):∀(xs:List α) (j o:Nat) (a b:α),xs[j]? =some a->o+vs.length<=s->f b=(f a).take o++vs++(f a).drop (o+vs.length)->((xs.set j b).map f).flatten=(xs.map f).flatten.take (j*s+o)++vs++(xs.map f).flatten.drop (j*s+o+vs.length)
 |[],j,o,a,b,h,_,_=>by simp at h
 |x::xs,0,o,a,b,h,ho,hb=>by
  simp at h
  subst h
  simp only[List.set_cons_zero,List.map_cons,List.flatten_cons,Nat.zero_mul,Nat.zero_add]
  rw[List.take_append_of_le_length (by rw[hf.len];omega),List.drop_append_of_le_length (by rw[hf.len];omega),hb]
  simp only[List.append_assoc]
 |x::xs,j+1,o,a,b,h,ho,hb=>by
  simp only[List.set_cons_succ,List.map_cons,List.flatten_cons]
  rw[JJ hf vs xs j o a b (by simpa using h) ho hb,Nat.succ_mul,List.take_append,List.drop_append,hf.len,List.take_of_length_le (l:=f x) (by rw[hf.len];omega),List.drop_of_length_le (l:=f x) (by rw[hf.len];omega),show j*s+s+o-s=j*s+o by omega,show j*s+s+o+vs.length-s=j*s+o+vs.length by omega]
  simp only[List.append_assoc,List.nil_append]
theorem Ef.acd {sz j o q:Nat}{x y:Operand}{a:α}{vs:Array Value}(b:α)(hs:Sz P t sz)(hsz:vs.size=sz)(hx:ev env x=some (ptr A q))(hq:q=j*s+o)(hy:ev env y=some (.agg vs))(hO:iy w base e f s A m c xs)(hf:kM f s)(hj:xs[j]? =some a)(ho:o+vs.toList.length<=s)
  (hb:f b=(f a).take o++vs.toList++(f a).drop (o+vs.toList.length))(hv:∀v∈vs.toList,v.oneCell'=true)(h:∀w',iy w' base e f s A m c (xs.set j b)->Ch w w' (rowOf A c)->K undef w'):Ef P env n ⟨d,.store t x y,T,p,af,g⟩ w K:=by
 subst hq
 have hjl:j<m:=by rw[<-hO.1];exact(List.getElem?_eq_some_iff.1 hj).1
 obtain⟨gb,rfl,hbg,hlt,hrow⟩:=hO.2.lit (by omega)
 obtain⟨cur,hB,hcs,htake⟩:=hO.2.block (by omega)
 have hcap:=hO.2.cap
 have hjs:j*s+s<=m*s:=by rw[<-Nat.succ_mul];exact Nat.mul_le_mul_right _ hjl
 have hms:m*s<=cur.size:=by rw[hcs];exact Nat.mul_le_mul_right _ hcap.1
 have hst:=run_storeCells_at P gb (j*s+o) e vs.toList 0 cur w hB (by omega) hv
 simp only[Nat.add_zero]at hst
 refine .rR (w':=w.setRow gb (cur.toList.take (j*s+o)++vs.toList++cur.toList.drop (j*s+o+vs.toList.length)).toArray) (fun a' ha=>by
  simp[execOp,ha.eval hx,ha.eval hy,ptr,add_lit,Instr.storeAt,Instr.sureAddr,storeVar,hs.run,Value.cells,hsz]
  simp only[Array.length_toList,hsz]at hst
  simp[hst]) (h _ ⟨by simp[hO.1],?_⟩ (by rw[hrow];exact⟨rfl,rfl,rfl,by simp,fun k _ hk=>setRow_other w gb k _ (fun e=>hk (by simp[e]))⟩))
 refine⟨by rw[zO hf];simp[hO.1],.inr ⟨gb,_,rfl,hbg,setRow_heap w gb cur _ e (0,0) hB,hcap.1,hcap.2,?_,?_⟩⟩
 ·simp only[Array.length_toList]at ho
  simp;omega
 ·rw[JJ hf vs.toList xs j o a b hj ho hb,<-htake]
  simp only[List.take_take,Nat.min_eq_left (show j*s+o<=m*s by omega)]
  rw[List.take_append,List.length_append,List.length_take,Array.length_toList,Nat.min_eq_left (by omega),List.take_of_length_le (by simp at ho ⊢;omega),List.drop_take]
end
end Go.Sx
